import Derived.Test.YtpfhmodjjljpjaaTy
namespace Go.Proofs.Ytpfhmodjjljpjaa
open Go.RowKit
namespace Lg
set_option linter.unusedSimpArgs false
set_option linter.unusedVariables false

/-! ### The program's data, as Lean's -/
structure GTac where
  op : Int
  d : Int
  a : Int
  b : Int
  k : Int
  base : Int
  size : Int
  n : Int
  deriving DecidableEq, Inhabited
structure GBlock where
  ins : List GTac
  fin : Int
  v : Int
  to : Int
  els : Int
  deriving DecidableEq, Inhabited
structure GFn where
  regs : Int
  blocks : List GBlock
  deriving DecidableEq, Inhabited
structure GProg where
  words : Int
  funcs : List GFn
  deriving DecidableEq, Inhabited
structure GLive where
  inn : List (List Bool)
  out : List (List Bool)
  deriving DecidableEq, Inhabited

def eI (x : Int) : List Cell := [.v (.int .i64 x)]
def eB (x : Bool) : List Cell := [.v (.bool x)]
def eIs (l : List Int) : List Cell := [.sl 1 (l.map eI)]
def eBs (l : List Bool) : List Cell := [.sl 1 (l.map eB)]
def eTac (t : GTac) : List Cell := [.v (.int .i64 t.op), .v (.int .i64 t.d), .v (.int .i64 t.a), .v (.int .i64 t.b), .v (.int .i64 t.k), .v (.int .i64 t.base), .v (.int .i64 t.size), .v (.int .u32 t.n)]
def eBlock (b : GBlock) : List Cell := [.sl 8 (b.ins.map eTac), .v (.int .i64 b.fin), .v (.int .i64 b.v), .v (.int .i64 b.to), .v (.int .i64 b.els)]
def eFn (f : GFn) : List Cell := [.v (.int .i64 f.regs), .sl 5 (f.blocks.map eBlock)]

/-- What follows a block: as the code tells it. -/
def follows (b : GBlock) : List Int := if b.fin = 1 then [b.to] else if b.fin = 2 then [b.to, b.els] else []
end Lg
end Go.Proofs.Ytpfhmodjjljpjaa
