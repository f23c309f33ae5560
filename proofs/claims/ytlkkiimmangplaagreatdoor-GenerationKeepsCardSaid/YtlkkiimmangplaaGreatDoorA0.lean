/- The entry and the description of a data set as plain structures, and how their cells read. -/
import Derived.Test.YtlkkiimmangplaaGreatDoorProg
import Derived.WalkKit
import Derived.WalkLawsBesides
import Derived.BigQuiet
import Derived.Deep.QuietTactic
import Derived.Lib.Hide
namespace Go.Proofs.YtlkkiimmangplaaGreatDoor
open Go.RowKit

/-- A description of a data set. -/
structure DS where
  id : Int
  org : Int
  format : Int
  length : Int
  block : Int
  keyAt : Int
  keyLength : Int
  interval : Int
  area : Int
  freeInterval : Int
  freeArea : Int
  base : Int
  altAt : Int
  altLength : Int
  unique : Bool
  cls : Int
  volume : ByteArray
  owner : ByteArray
  created : Int
  expires : Int
  archived : Bool
  deriving DecidableEq

def DS.cells (d : DS) : Array Value :=
  #[.int .i64 d.id, .int .i64 d.org, .int .i64 d.format, .int .i64 d.length, .int .i64 d.block, .int .i64 d.keyAt, .int .i64 d.keyLength, .int .i64 d.interval, .int .i64 d.area, .int .i64 d.freeInterval, .int .i64 d.freeArea, .int .i64 d.base, .int .i64 d.altAt, .int .i64 d.altLength, .bool d.unique, .int .i64 d.cls, .string d.volume, .string d.owner, .int .i64 d.created, .int .i64 d.expires, .bool d.archived]

/-- A grant. -/
structure Gr where
  who : ByteArray
  group : Bool
  level : Int
  deriving DecidableEq

/-- An entry. -/
structure E where
  kind : Int
  name : ByteArray
  ds : DS
  alt : List Int
  used : Int
  limit : Int
  last : Int
  empty : Bool
  owner : ByteArray
  target : ByteArray
  catalog : Int
  level : Int
  grants : List Gr
  deriving DecidableEq

/-- Its cells; the two slices are values. -/
def E.cells (e : E) (va vg : Value) : Array Value :=
  #[.int .i64 e.kind, .string e.name, .int .i64 e.ds.id, .int .i64 e.ds.org, .int .i64 e.ds.format, .int .i64 e.ds.length, .int .i64 e.ds.block, .int .i64 e.ds.keyAt, .int .i64 e.ds.keyLength, .int .i64 e.ds.interval, .int .i64 e.ds.area, .int .i64 e.ds.freeInterval, .int .i64 e.ds.freeArea, .int .i64 e.ds.base, .int .i64 e.ds.altAt, .int .i64 e.ds.altLength, .bool e.ds.unique, .int .i64 e.ds.cls, .string e.ds.volume, .string e.ds.owner, .int .i64 e.ds.created, .int .i64 e.ds.expires, .bool e.ds.archived, va, .int .i64 e.used, .int .i64 e.limit, .int .i64 e.last, .bool e.empty, .string e.owner, .string e.target, .int .i64 e.catalog, .int .i64 e.level, vg]

@[go_sem] theorem E.get0 (e : E) (va vg : Value) : (e.cells va vg)[0]? = some (.int .i64 e.kind) := rfl
@[go_sem] theorem E.get1 (e : E) (va vg : Value) : (e.cells va vg)[1]? = some (.string e.name) := rfl
@[go_sem] theorem E.get2 (e : E) (va vg : Value) : (e.cells va vg)[2]? = some (.int .i64 e.ds.id) := rfl
@[go_sem] theorem E.get3 (e : E) (va vg : Value) : (e.cells va vg)[3]? = some (.int .i64 e.ds.org) := rfl
@[go_sem] theorem E.get4 (e : E) (va vg : Value) : (e.cells va vg)[4]? = some (.int .i64 e.ds.format) := rfl
@[go_sem] theorem E.get5 (e : E) (va vg : Value) : (e.cells va vg)[5]? = some (.int .i64 e.ds.length) := rfl
@[go_sem] theorem E.get6 (e : E) (va vg : Value) : (e.cells va vg)[6]? = some (.int .i64 e.ds.block) := rfl
@[go_sem] theorem E.get7 (e : E) (va vg : Value) : (e.cells va vg)[7]? = some (.int .i64 e.ds.keyAt) := rfl
@[go_sem] theorem E.get8 (e : E) (va vg : Value) : (e.cells va vg)[8]? = some (.int .i64 e.ds.keyLength) := rfl
@[go_sem] theorem E.get9 (e : E) (va vg : Value) : (e.cells va vg)[9]? = some (.int .i64 e.ds.interval) := rfl
@[go_sem] theorem E.get10 (e : E) (va vg : Value) : (e.cells va vg)[10]? = some (.int .i64 e.ds.area) := rfl
@[go_sem] theorem E.get11 (e : E) (va vg : Value) : (e.cells va vg)[11]? = some (.int .i64 e.ds.freeInterval) := rfl
@[go_sem] theorem E.get12 (e : E) (va vg : Value) : (e.cells va vg)[12]? = some (.int .i64 e.ds.freeArea) := rfl
@[go_sem] theorem E.get13 (e : E) (va vg : Value) : (e.cells va vg)[13]? = some (.int .i64 e.ds.base) := rfl
@[go_sem] theorem E.get14 (e : E) (va vg : Value) : (e.cells va vg)[14]? = some (.int .i64 e.ds.altAt) := rfl
@[go_sem] theorem E.get15 (e : E) (va vg : Value) : (e.cells va vg)[15]? = some (.int .i64 e.ds.altLength) := rfl
@[go_sem] theorem E.get16 (e : E) (va vg : Value) : (e.cells va vg)[16]? = some (.bool e.ds.unique) := rfl
@[go_sem] theorem E.get17 (e : E) (va vg : Value) : (e.cells va vg)[17]? = some (.int .i64 e.ds.cls) := rfl
@[go_sem] theorem E.get18 (e : E) (va vg : Value) : (e.cells va vg)[18]? = some (.string e.ds.volume) := rfl
@[go_sem] theorem E.get19 (e : E) (va vg : Value) : (e.cells va vg)[19]? = some (.string e.ds.owner) := rfl
@[go_sem] theorem E.get20 (e : E) (va vg : Value) : (e.cells va vg)[20]? = some (.int .i64 e.ds.created) := rfl
@[go_sem] theorem E.get21 (e : E) (va vg : Value) : (e.cells va vg)[21]? = some (.int .i64 e.ds.expires) := rfl
@[go_sem] theorem E.get22 (e : E) (va vg : Value) : (e.cells va vg)[22]? = some (.bool e.ds.archived) := rfl
@[go_sem] theorem E.get23 (e : E) (va vg : Value) : (e.cells va vg)[23]? = some (va) := rfl
@[go_sem] theorem E.get24 (e : E) (va vg : Value) : (e.cells va vg)[24]? = some (.int .i64 e.used) := rfl
@[go_sem] theorem E.get25 (e : E) (va vg : Value) : (e.cells va vg)[25]? = some (.int .i64 e.limit) := rfl
@[go_sem] theorem E.get26 (e : E) (va vg : Value) : (e.cells va vg)[26]? = some (.int .i64 e.last) := rfl
@[go_sem] theorem E.get27 (e : E) (va vg : Value) : (e.cells va vg)[27]? = some (.bool e.empty) := rfl
@[go_sem] theorem E.get28 (e : E) (va vg : Value) : (e.cells va vg)[28]? = some (.string e.owner) := rfl
@[go_sem] theorem E.get29 (e : E) (va vg : Value) : (e.cells va vg)[29]? = some (.string e.target) := rfl
@[go_sem] theorem E.get30 (e : E) (va vg : Value) : (e.cells va vg)[30]? = some (.int .i64 e.catalog) := rfl
@[go_sem] theorem E.get31 (e : E) (va vg : Value) : (e.cells va vg)[31]? = some (.int .i64 e.level) := rfl
@[go_sem] theorem E.get32 (e : E) (va vg : Value) : (e.cells va vg)[32]? = some (vg) := rfl
@[go_sem] theorem E.size (e : E) (va vg : Value) : (e.cells va vg).size = 33 := rfl
@[go_sem] theorem E.set0 (e : E) (va vg : Value) (x : Int) : (e.cells va vg).setIfInBounds 0 (.int .i64 x) = E.cells { e with kind := x } va vg := rfl
@[go_sem] theorem E.set1 (e : E) (va vg : Value) (x : ByteArray) : (e.cells va vg).setIfInBounds 1 (.string x) = E.cells { e with name := x } va vg := rfl
@[go_sem] theorem E.set2 (e : E) (va vg : Value) (x : Int) : (e.cells va vg).setIfInBounds 2 (.int .i64 x) = E.cells { e with ds := { e.ds with id := x } } va vg := rfl
@[go_sem] theorem E.set3 (e : E) (va vg : Value) (x : Int) : (e.cells va vg).setIfInBounds 3 (.int .i64 x) = E.cells { e with ds := { e.ds with org := x } } va vg := rfl
@[go_sem] theorem E.set4 (e : E) (va vg : Value) (x : Int) : (e.cells va vg).setIfInBounds 4 (.int .i64 x) = E.cells { e with ds := { e.ds with format := x } } va vg := rfl
@[go_sem] theorem E.set5 (e : E) (va vg : Value) (x : Int) : (e.cells va vg).setIfInBounds 5 (.int .i64 x) = E.cells { e with ds := { e.ds with length := x } } va vg := rfl
@[go_sem] theorem E.set6 (e : E) (va vg : Value) (x : Int) : (e.cells va vg).setIfInBounds 6 (.int .i64 x) = E.cells { e with ds := { e.ds with block := x } } va vg := rfl
@[go_sem] theorem E.set7 (e : E) (va vg : Value) (x : Int) : (e.cells va vg).setIfInBounds 7 (.int .i64 x) = E.cells { e with ds := { e.ds with keyAt := x } } va vg := rfl
@[go_sem] theorem E.set8 (e : E) (va vg : Value) (x : Int) : (e.cells va vg).setIfInBounds 8 (.int .i64 x) = E.cells { e with ds := { e.ds with keyLength := x } } va vg := rfl
@[go_sem] theorem E.set9 (e : E) (va vg : Value) (x : Int) : (e.cells va vg).setIfInBounds 9 (.int .i64 x) = E.cells { e with ds := { e.ds with interval := x } } va vg := rfl
@[go_sem] theorem E.set10 (e : E) (va vg : Value) (x : Int) : (e.cells va vg).setIfInBounds 10 (.int .i64 x) = E.cells { e with ds := { e.ds with area := x } } va vg := rfl
@[go_sem] theorem E.set11 (e : E) (va vg : Value) (x : Int) : (e.cells va vg).setIfInBounds 11 (.int .i64 x) = E.cells { e with ds := { e.ds with freeInterval := x } } va vg := rfl
@[go_sem] theorem E.set12 (e : E) (va vg : Value) (x : Int) : (e.cells va vg).setIfInBounds 12 (.int .i64 x) = E.cells { e with ds := { e.ds with freeArea := x } } va vg := rfl
@[go_sem] theorem E.set13 (e : E) (va vg : Value) (x : Int) : (e.cells va vg).setIfInBounds 13 (.int .i64 x) = E.cells { e with ds := { e.ds with base := x } } va vg := rfl
@[go_sem] theorem E.set14 (e : E) (va vg : Value) (x : Int) : (e.cells va vg).setIfInBounds 14 (.int .i64 x) = E.cells { e with ds := { e.ds with altAt := x } } va vg := rfl
@[go_sem] theorem E.set15 (e : E) (va vg : Value) (x : Int) : (e.cells va vg).setIfInBounds 15 (.int .i64 x) = E.cells { e with ds := { e.ds with altLength := x } } va vg := rfl
@[go_sem] theorem E.set16 (e : E) (va vg : Value) (x : Bool) : (e.cells va vg).setIfInBounds 16 (.bool x) = E.cells { e with ds := { e.ds with unique := x } } va vg := rfl
@[go_sem] theorem E.set17 (e : E) (va vg : Value) (x : Int) : (e.cells va vg).setIfInBounds 17 (.int .i64 x) = E.cells { e with ds := { e.ds with cls := x } } va vg := rfl
@[go_sem] theorem E.set18 (e : E) (va vg : Value) (x : ByteArray) : (e.cells va vg).setIfInBounds 18 (.string x) = E.cells { e with ds := { e.ds with volume := x } } va vg := rfl
@[go_sem] theorem E.set19 (e : E) (va vg : Value) (x : ByteArray) : (e.cells va vg).setIfInBounds 19 (.string x) = E.cells { e with ds := { e.ds with owner := x } } va vg := rfl
@[go_sem] theorem E.set20 (e : E) (va vg : Value) (x : Int) : (e.cells va vg).setIfInBounds 20 (.int .i64 x) = E.cells { e with ds := { e.ds with created := x } } va vg := rfl
@[go_sem] theorem E.set21 (e : E) (va vg : Value) (x : Int) : (e.cells va vg).setIfInBounds 21 (.int .i64 x) = E.cells { e with ds := { e.ds with expires := x } } va vg := rfl
@[go_sem] theorem E.set22 (e : E) (va vg : Value) (x : Bool) : (e.cells va vg).setIfInBounds 22 (.bool x) = E.cells { e with ds := { e.ds with archived := x } } va vg := rfl
@[go_sem] theorem E.set23 (e : E) (va vg x : Value) : (e.cells va vg).setIfInBounds 23 x = e.cells x vg := rfl
@[go_sem] theorem E.set24 (e : E) (va vg : Value) (x : Int) : (e.cells va vg).setIfInBounds 24 (.int .i64 x) = E.cells { e with used := x } va vg := rfl
@[go_sem] theorem E.set25 (e : E) (va vg : Value) (x : Int) : (e.cells va vg).setIfInBounds 25 (.int .i64 x) = E.cells { e with limit := x } va vg := rfl
@[go_sem] theorem E.set26 (e : E) (va vg : Value) (x : Int) : (e.cells va vg).setIfInBounds 26 (.int .i64 x) = E.cells { e with last := x } va vg := rfl
@[go_sem] theorem E.set27 (e : E) (va vg : Value) (x : Bool) : (e.cells va vg).setIfInBounds 27 (.bool x) = E.cells { e with empty := x } va vg := rfl
@[go_sem] theorem E.set28 (e : E) (va vg : Value) (x : ByteArray) : (e.cells va vg).setIfInBounds 28 (.string x) = E.cells { e with owner := x } va vg := rfl
@[go_sem] theorem E.set29 (e : E) (va vg : Value) (x : ByteArray) : (e.cells va vg).setIfInBounds 29 (.string x) = E.cells { e with target := x } va vg := rfl
@[go_sem] theorem E.set30 (e : E) (va vg : Value) (x : Int) : (e.cells va vg).setIfInBounds 30 (.int .i64 x) = E.cells { e with catalog := x } va vg := rfl
@[go_sem] theorem E.set31 (e : E) (va vg : Value) (x : Int) : (e.cells va vg).setIfInBounds 31 (.int .i64 x) = E.cells { e with level := x } va vg := rfl
@[go_sem] theorem E.set32 (e : E) (va vg x : Value) : (e.cells va vg).setIfInBounds 32 x = e.cells va x := rfl

end Go.Proofs.YtlkkiimmangplaaGreatDoor
