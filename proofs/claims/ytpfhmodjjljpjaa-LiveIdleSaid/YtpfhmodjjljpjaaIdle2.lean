import Derived.Test.YtpfhmodjjljpjaaIdle1
import Derived.Test.YtpfhmodjjljpjaaProg
import Derived.KernelRfl
import Derived.SizedLaws
import Derived.OpenShut
import Derived.ChangeOld
import Derived.Test.YtpfhmodjjljpjaaRows
import Derived.WalkKit
import Derived.ProofKit
import Derived.ShutString
import Derived.Below
import Derived.Tactics
import Derived.RangeFuncSeq
import Derived.Laws.Cover3
set_option linter.unusedVariables false
set_option linter.unusedSimpArgs false
namespace Go.Proofs.Ytpfhmodjjljpjaa
open Go.RowKit
namespace Lg
set_option linter.unusedSimpArgs false
set_option linter.unusedVariables false
def ty3 : TyI := ⟨false, 1, 8, [.int .i64 0], 0, []⟩
theorem ty3_good : Good Try.prog 3 ty3 := ⟨by kernel_rfl, by kernel_rfl, by kernel_rfl, by kernel_rfl⟩
def ty4 : TyI := ⟨false, 1, 1, [.bool false], 0, []⟩
theorem ty4_good : Good Try.prog 4 ty4 := ⟨by kernel_rfl, by kernel_rfl, by kernel_rfl, by kernel_rfl⟩
def ty5 : TyI := ⟨false, 1, 1, [.int .u8 0], 0, []⟩
theorem ty5_good : Good Try.prog 5 ty5 := ⟨by kernel_rfl, by kernel_rfl, by kernel_rfl, by kernel_rfl⟩
def ty68 : TyI := ⟨false, 1, 4, [.int .u32 0], 0, []⟩
theorem ty68_good : Good Try.prog 68 ty68 := ⟨by kernel_rfl, by kernel_rfl, by kernel_rfl, by kernel_rfl⟩
def ty22 : TyI := ⟨false, 1, 24, [.slice none 0 0], 29, []⟩
theorem ty22_good : Good Try.prog 22 ty22 := ⟨by kernel_rfl, by kernel_rfl, by kernel_rfl, by kernel_rfl⟩
def ty27 : TyI := ⟨false, 1, 24, [.slice none 0 0], 72, []⟩
theorem ty27_good : Good Try.prog 27 ty27 := ⟨by kernel_rfl, by kernel_rfl, by kernel_rfl, by kernel_rfl⟩
def ty30 : TyI := ⟨false, 1, 24, [.slice none 0 0], 52, []⟩
theorem ty30_good : Good Try.prog 30 ty30 := ⟨by kernel_rfl, by kernel_rfl, by kernel_rfl, by kernel_rfl⟩
def ty48 : TyI := ⟨false, 1, 24, [.slice none 0 0], 4, []⟩
theorem ty48_good : Good Try.prog 48 ty48 := ⟨by kernel_rfl, by kernel_rfl, by kernel_rfl, by kernel_rfl⟩
def ty52 : TyI := ⟨false, 1, 24, [.slice none 0 0], 3, []⟩
theorem ty52_good : Good Try.prog 52 ty52 := ⟨by kernel_rfl, by kernel_rfl, by kernel_rfl, by kernel_rfl⟩
def ty55 : TyI := ⟨false, 1, 24, [.slice none 0 0], 48, []⟩
theorem ty55_good : Good Try.prog 55 ty55 := ⟨by kernel_rfl, by kernel_rfl, by kernel_rfl, by kernel_rfl⟩
def ty66 : TyI := ⟨false, 1, 24, [.slice none 0 0], 5, []⟩
theorem ty66_good : Good Try.prog 66 ty66 := ⟨by kernel_rfl, by kernel_rfl, by kernel_rfl, by kernel_rfl⟩
def ty67 : TyI := ⟨false, 1, 24, [.slice none 0 0], 70, []⟩
theorem ty67_good : Good Try.prog 67 ty67 := ⟨by kernel_rfl, by kernel_rfl, by kernel_rfl, by kernel_rfl⟩
def ty105 : TyI := ⟨false, 1, 24, [.slice none 0 0], 68, []⟩
theorem ty105_good : Good Try.prog 105 ty105 := ⟨by kernel_rfl, by kernel_rfl, by kernel_rfl, by kernel_rfl⟩
def ty123 : TyI := ⟨false, 1, 24, [.slice none 0 0], 124, []⟩
theorem ty123_good : Good Try.prog 123 ty123 := ⟨by kernel_rfl, by kernel_rfl, by kernel_rfl, by kernel_rfl⟩
def ty1 : TyI := ⟨false, 1, 8, [.nilFunc], 0, []⟩
theorem ty1_good : Good Try.prog 1 ty1 := ⟨by kernel_rfl, by kernel_rfl, by kernel_rfl, by kernel_rfl⟩
def ty96 : TyI := ⟨false, 1, 8, [.nilFunc], 0, []⟩
theorem ty96_good : Good Try.prog 96 ty96 := ⟨by kernel_rfl, by kernel_rfl, by kernel_rfl, by kernel_rfl⟩
def ty97 : TyI := ⟨false, 1, 8, [.nilFunc], 0, []⟩
theorem ty97_good : Good Try.prog 97 ty97 := ⟨by kernel_rfl, by kernel_rfl, by kernel_rfl, by kernel_rfl⟩
def ty101 : TyI := ⟨false, 1, 8, [.nilFunc], 0, []⟩
theorem ty101_good : Good Try.prog 101 ty101 := ⟨by kernel_rfl, by kernel_rfl, by kernel_rfl, by kernel_rfl⟩
def ty108 : TyI := ⟨false, 1, 8, [.nilFunc], 0, []⟩
theorem ty108_good : Good Try.prog 108 ty108 := ⟨by kernel_rfl, by kernel_rfl, by kernel_rfl, by kernel_rfl⟩
def ty144 : TyI := ⟨false, 1, 8, [.nilFunc], 0, []⟩
theorem ty144_good : Good Try.prog 144 ty144 := ⟨by kernel_rfl, by kernel_rfl, by kernel_rfl, by kernel_rfl⟩
def ty135 : TyI := ⟨false, 1, 8, [.nilFunc], 0, []⟩
theorem ty135_good : Good Try.prog 135 ty135 := ⟨by kernel_rfl, by kernel_rfl, by kernel_rfl, by kernel_rfl⟩
def ty127 : TyI := ⟨false, 1, 8, [.nilFunc], 0, []⟩
theorem ty127_good : Good Try.prog 127 ty127 := ⟨by kernel_rfl, by kernel_rfl, by kernel_rfl, by kernel_rfl⟩
def ty119 : TyI := ⟨false, 1, 8, [.nilFunc], 0, []⟩
theorem ty119_good : Good Try.prog 119 ty119 := ⟨by kernel_rfl, by kernel_rfl, by kernel_rfl, by kernel_rfl⟩
def ty126 : TyI := ⟨false, 1, 8, [.nilFunc], 0, []⟩
theorem ty126_good : Good Try.prog 126 ty126 := ⟨by kernel_rfl, by kernel_rfl, by kernel_rfl, by kernel_rfl⟩
def ty134 : TyI := ⟨false, 1, 8, [.nilFunc], 0, []⟩
theorem ty134_good : Good Try.prog 134 ty134 := ⟨by kernel_rfl, by kernel_rfl, by kernel_rfl, by kernel_rfl⟩
def ty9 : TyI := ⟨false, 1, 16, [.string .empty], 0, []⟩
theorem ty9_good : Good Try.prog 9 ty9 := ⟨by kernel_rfl, by kernel_rfl, by kernel_rfl, by kernel_rfl⟩
def ty29 : TyI := ⟨true, 2, 32, [.int .i64 0, .slice none 0 0], 0, [(0, 1), (1, 1)]⟩
theorem ty29_good : Good Try.prog 29 ty29 := ⟨by kernel_rfl, by kernel_rfl, by kernel_rfl, by kernel_rfl⟩
def ty24 : TyI := ⟨true, 2, 32, [.int .i64 0, .slice none 0 0], 0, [(0, 1), (1, 1)]⟩
theorem ty24_good : Good Try.prog 24 ty24 := ⟨by kernel_rfl, by kernel_rfl, by kernel_rfl, by kernel_rfl⟩
def ty70 : TyI := ⟨true, 8, 64, [.int .i64 0, .int .i64 0, .int .i64 0, .int .i64 0, .int .i64 0, .int .i64 0, .int .i64 0, .int .u32 0], 0, [(0, 1), (1, 1), (2, 1), (3, 1), (4, 1), (5, 1), (6, 1), (7, 1)]⟩
theorem ty70_good : Good Try.prog 70 ty70 := ⟨by kernel_rfl, by kernel_rfl, by kernel_rfl, by kernel_rfl⟩
def ty72 : TyI := ⟨true, 5, 56, [.slice none 0 0, .int .i64 0, .int .i64 0, .int .i64 0, .int .i64 0], 0, [(0, 1), (1, 1), (2, 1), (3, 1), (4, 1)]⟩
theorem ty72_good : Good Try.prog 72 ty72 := ⟨by kernel_rfl, by kernel_rfl, by kernel_rfl, by kernel_rfl⟩
def ty57 : TyI := ⟨true, 2, 48, [.slice none 0 0, .slice none 0 0], 0, [(0, 1), (1, 1)]⟩
theorem ty57_good : Good Try.prog 57 ty57 := ⟨by kernel_rfl, by kernel_rfl, by kernel_rfl, by kernel_rfl⟩
def ty60 : TyI := ⟨true, 1, 24, [.slice none 0 0], 0, [(0, 1)]⟩
theorem ty60_good : Good Try.prog 60 ty60 := ⟨by kernel_rfl, by kernel_rfl, by kernel_rfl, by kernel_rfl⟩
def ty46 : TyI := ⟨true, 5, 88, [.int .i64 0, .slice none 0 0, .int .i64 0, .slice none 0 0, .slice none 0 0], 0, [(0, 2), (2, 2), (4, 1)]⟩
theorem ty46_good : Good Try.prog 46 ty46 := ⟨by kernel_rfl, by kernel_rfl, by kernel_rfl, by kernel_rfl⟩
def ty75 : TyI := ⟨true, 6, 112, [.int .i64 0, .slice none 0 0, .slice none 0 0, .slice none 0 0, .slice none 0 0, .int .i64 0], 0, [(0, 2), (2, 2), (4, 1), (5, 1)]⟩
theorem ty75_good : Good Try.prog 75 ty75 := ⟨by kernel_rfl, by kernel_rfl, by kernel_rfl, by kernel_rfl⟩
def ty78 : TyI := ⟨true, 8, 144, [.int .i64 0, .slice none 0 0, .int .i64 0, .slice none 0 0, .int .i64 0, .slice none 0 0, .slice none 0 0, .slice none 0 0], 0, [(0, 2), (2, 2), (4, 2), (6, 1), (7, 1)]⟩
theorem ty78_good : Good Try.prog 78 ty78 := ⟨by kernel_rfl, by kernel_rfl, by kernel_rfl, by kernel_rfl⟩
def ty107 : TyI := ⟨true, 9, 128, [.int .i64 0, .slice none 0 0, .string .empty, .int .i64 0, .slice none 0 0, .slice none 0 0, .int .i64 0, .int .i64 0, .int .i64 0], 0, [(0, 2), (2, 1), (3, 1), (4, 1), (5, 1), (6, 1), (7, 1), (8, 1)]⟩
theorem ty107_good : Good Try.prog 107 ty107 := ⟨by kernel_rfl, by kernel_rfl, by kernel_rfl, by kernel_rfl⟩
def ty42 : TyI := ⟨true, 3, 32, [.int .i64 0, .string .empty, .int .i64 0], 0, [(0, 1), (1, 1), (2, 1)]⟩
theorem ty42_good : Good Try.prog 42 ty42 := ⟨by kernel_rfl, by kernel_rfl, by kernel_rfl, by kernel_rfl⟩
def ty53 : TyI := ⟨true, 2, 2, [.int .u8 0, .int .u8 0], 0, []⟩
theorem ty53_good : Good Try.prog 53 ty53 := ⟨by kernel_rfl, by kernel_rfl, by kernel_rfl, by kernel_rfl⟩
def ty124 : TyI := ⟨false, 1, 24, [.slice none 0 0], 4, []⟩
theorem ty124_good : Good Try.prog 124 ty124 := ⟨by kernel_rfl, by kernel_rfl, by kernel_rfl, by kernel_rfl⟩
def tyGet : Nat → Option TyI
  | 1 => some ty1
  | 3 => some ty3
  | 4 => some ty4
  | 5 => some ty5
  | 9 => some ty9
  | 22 => some ty22
  | 24 => some ty24
  | 27 => some ty27
  | 29 => some ty29
  | 30 => some ty30
  | 42 => some ty42
  | 46 => some ty46
  | 48 => some ty48
  | 52 => some ty52
  | 53 => some ty53
  | 55 => some ty55
  | 57 => some ty57
  | 60 => some ty60
  | 66 => some ty66
  | 67 => some ty67
  | 68 => some ty68
  | 70 => some ty70
  | 72 => some ty72
  | 75 => some ty75
  | 78 => some ty78
  | 96 => some ty96
  | 97 => some ty97
  | 101 => some ty101
  | 105 => some ty105
  | 107 => some ty107
  | 108 => some ty108
  | 119 => some ty119
  | 123 => some ty123
  | 124 => some ty124
  | 126 => some ty126
  | 127 => some ty127
  | 134 => some ty134
  | 135 => some ty135
  | 144 => some ty144
  | _ => none
theorem tyGet_ok (t : Nat) (i : TyI) (h : tyGet t = some i) : Good Try.prog t i := by
  unfold tyGet at h
  split at h
  · cases h; exact ty1_good
  · cases h; exact ty3_good
  · cases h; exact ty4_good
  · cases h; exact ty5_good
  · cases h; exact ty9_good
  · cases h; exact ty22_good
  · cases h; exact ty24_good
  · cases h; exact ty27_good
  · cases h; exact ty29_good
  · cases h; exact ty30_good
  · cases h; exact ty42_good
  · cases h; exact ty46_good
  · cases h; exact ty48_good
  · cases h; exact ty52_good
  · cases h; exact ty53_good
  · cases h; exact ty55_good
  · cases h; exact ty57_good
  · cases h; exact ty60_good
  · cases h; exact ty66_good
  · cases h; exact ty67_good
  · cases h; exact ty68_good
  · cases h; exact ty70_good
  · cases h; exact ty72_good
  · cases h; exact ty75_good
  · cases h; exact ty78_good
  · cases h; exact ty96_good
  · cases h; exact ty97_good
  · cases h; exact ty101_good
  · cases h; exact ty105_good
  · cases h; exact ty107_good
  · cases h; exact ty108_good
  · cases h; exact ty119_good
  · cases h; exact ty123_good
  · cases h; exact ty124_good
  · cases h; exact ty126_good
  · cases h; exact ty127_good
  · cases h; exact ty134_good
  · cases h; exact ty135_good
  · cases h; exact ty144_good
  · cases h
def D : Tab Try.prog := ⟨tyGet, tyGet_ok⟩
end Lg
end Go.Proofs.Ytpfhmodjjljpjaa

namespace Go.Proofs.Ytpfhmodjjljpjaa
open Go.RowKit
namespace Lg
set_option linter.unusedSimpArgs false
set_option linter.unusedVariables false
structure GTac where
  op : Int
  d : Int
  a : Int
  b : Int
  k : Int
  base : Int
  size : Int
  n : Int
  deriving DecidableEq, Inhabited
structure GBlock where
  ins : List GTac
  fin : Int
  v : Int
  to : Int
  els : Int
  deriving DecidableEq, Inhabited
structure GFn where
  regs : Int
  blocks : List GBlock
  deriving DecidableEq, Inhabited
structure GProg where
  words : Int
  funcs : List GFn
  deriving DecidableEq, Inhabited
structure GLive where
  inn : List (List Bool)
  out : List (List Bool)
  deriving DecidableEq, Inhabited
def eI (x : Int) : List Cell := [.v (.int .i64 x)]
def eB (x : Bool) : List Cell := [.v (.bool x)]
def eU8 (x : Int) : List Cell := [.v (.int .u8 x)]
def eU32 (x : Int) : List Cell := [.v (.int .u32 x)]
def eIs (l : List Int) : List Cell := [.sl 1 (l.map eI)]
def eBs (l : List Bool) : List Cell := [.sl 1 (l.map eB)]
def eTac (t : GTac) : List Cell := [.v (.int .i64 t.op), .v (.int .i64 t.d), .v (.int .i64 t.a), .v (.int .i64 t.b), .v (.int .i64 t.k), .v (.int .i64 t.base), .v (.int .i64 t.size), .v (.int .u32 t.n)]
def eBlock (b : GBlock) : List Cell := [.sl 8 (b.ins.map eTac), .v (.int .i64 b.fin), .v (.int .i64 b.v), .v (.int .i64 b.to), .v (.int .i64 b.els)]
def eFn (f : GFn) : List Cell := [.v (.int .i64 f.regs), .sl 5 (f.blocks.map eBlock)]
def follows (b : GBlock) : List Int := if b.fin = 1 then [b.to] else if b.fin = 2 then [b.to, b.els] else []
end Lg
end Go.Proofs.Ytpfhmodjjljpjaa

namespace Go.Proofs.Ytpfhmodjjljpjaa
open Go.RowKit
namespace Lg
def RdL (w : World) : List Cell → List Value → Prop
  | [], [] => True
  | c :: cs, v :: vs => Rd w (fun _ => True) c v ∧ RdL w cs vs
  | _, _ => False
theorem RdL.len {w : World} : ∀ {cs : List Cell} {vs : List Value}, RdL w cs vs → cs.length = vs.length
  | [], [], _ => rfl
  | _ :: _, _ :: _, h => by simp [RdL.len h.2]
  | [], _ :: _, h => h.elim
  | _ :: _, [], h => h.elim
theorem RdL.at {w : World} : ∀ {cs : List Cell} {vs : List Value}, RdL w cs vs → ∀ (j : Nat) (c : Cell), cs[j]? = some c → ∃ u, vs[j]? = some u ∧ Rd w (fun _ => True) c u
  | [], [], _, j, c, hj => by simp at hj
  | c0 :: cs, v :: vs, h, 0, c, hj => by
    simp at hj
    subst hj
    exact ⟨v, rfl, h.1⟩
  | c0 :: cs, v :: vs, h, j + 1, c, hj => by
    simp at hj
    obtain ⟨u, h1, h2⟩ := RdL.at h.2 j c hj
    exact ⟨u, by simpa using h1, h2⟩
  | [], _ :: _, h, _, _, _ => h.elim
  | _ :: _, [], h, _, _, _ => h.elim
theorem RdL.append {w : World} : ∀ {a c : List Cell} {b d : List Value}, RdL w a b → RdL w c d → RdL w (a ++ c) (b ++ d)
  | [], _, [], _, _, h => h
  | _ :: _, _, _ :: _, _, h, k => ⟨h.1, RdL.append h.2 k⟩
  | [], _, _ :: _, _, h, _ => h.elim
  | _ :: _, _, [], _, h, _ => h.elim
theorem mapM_at {α β : Type} {f : α → Option β} : ∀ {l : List α} {r : List β}, l.mapM f = some r → r.length = l.length ∧ ∀ (i : Nat) x, l[i]? = some x → f x = r[i]?
  | [], r, h => by
    simp at h
    subst h
    exact ⟨rfl, fun i x hx => by simp at hx⟩
  | a :: l, r, h => by
    rw [List.mapM_cons] at h
    simp only [bind, Option.bind_eq_some_iff, pure, Option.some.injEq] at h
    obtain ⟨y, h1, ys, h2, rfl⟩ := h
    obtain ⟨h3, h4⟩ := mapM_at h2
    refine ⟨by simp [h3], fun i x hx => ?_⟩
    cases i with
    | zero => simp at hx; subst hx; simpa using h1
    | succ i => simpa using h4 i x (by simpa using hx)
theorem cells?_at {w : World} {base : Nat} {a : Addr} {n : Nat} {cs : List Value} (h : w.cells? base a n = some cs) : cs.length = n ∧ ∀ (j : Nat) u, cs[j]? = some u → w.cell? (a.add j) = some u := by
  unfold World.cells? at h
  split at h
  · obtain ⟨h1, h2⟩ := mapM_at h
    simp at h1
    refine ⟨h1, fun j u hj => ?_⟩
    have hlt := (List.getElem?_eq_some_iff.1 hj).1
    rw [h2 j j (List.getElem?_range (by omega)), hj]
  · cases h
theorem choose_list {α : Type} {Q : Nat → α → Prop} : ∀ (n : Nat), (∀ i, i < n → ∃ x, Q i x) → ∃ xs : List α, xs.length = n ∧ ∀ (i : Nat) x, xs[i]? = some x → Q i x
  | 0, _ => ⟨[], rfl, fun i x h => by simp at h⟩
  | n + 1, h => by
    obtain ⟨xs, h1, h2⟩ := choose_list n (fun i hi => h i (by omega))
    obtain ⟨x, hx⟩ := h n (by omega)
    refine ⟨xs ++ [x], by simp [h1], fun i y hy => ?_⟩
    rcases Nat.lt_or_ge i n with hi | hi
    · rw [List.getElem?_append_left (by omega)] at hy; exact h2 i y hy
    · rw [List.getElem?_append_right (by omega), h1] at hy
      have : i - n = 0 := by
        have := (List.getElem?_eq_some_iff.1 hy).1
        simp at this; omega
      rw [this] at hy
      simp at hy
      subst hy
      rwa [show i = n by omega]
section
variable {H : Type} (enc : TypeId × Value → H) (P : Program) (w : World)
def Opens (t : Nat) {α : Type} (en : α → List Cell) (WF : α → Prop) : Prop :=
  ∀ (fuel : Nat) (cs : List Value) (d : DataW H) (p : List MemPlace), DataW.trod enc P w 0 (fun _ => true) true fuel t cs = some (d, p) → (d.weights P t).all (· ≤ reachBytes) = true → ∃ x, RdL w (en x) cs ∧ WF x
def OpensF (n : Nat) (fs : List Field) (off : Nat) {α : Type} (en : α → List Cell) (WF : α → Prop) : Prop :=
  ∀ (m : Nat) (cs : List Value) (xs : List (DataW H × List MemPlace)), cs.length = n → xs.length = fs.length → (∀ (i : Nat) (f : Field), fs[i]? = some f → DataW.trod enc P w 0 (fun _ => true) true m f.type ((cs.drop f.offset).take (P.cellsOf f.type)) = xs[i]?) →
    (DataW.weightsEach P (fs.map (·.type)) (xs.map (·.1))).all (· ≤ reachBytes) = true → ∃ x, RdL w (en x) (cs.drop off) ∧ WF x
end
section
variable {H : Type} {enc : TypeId × Value → H} {P : Program} {w : World}
theorem opens_int {t : Nat} {k : IntKind} (hu : P.underlying t = some (.int k)) : Opens enc P w t (fun x : Int => [.v (.int k x)]) (fun x => (Lit.int k x).wf = true) := by
  intro fuel cs d p h _
  obtain ⟨n, rfl, _, hw⟩ := DataW.trod_int hu h
  exact ⟨n, ⟨.v _ rfl, trivial⟩, hw⟩
theorem opens_bool {t : Nat} (hu : P.underlying t = some .bool) : Opens enc P w t (fun x : Bool => [.v (.bool x)]) (fun _ => True) := by
  intro fuel cs d p h _
  obtain ⟨n, rfl, _⟩ := DataW.trod_bool hu h
  exact ⟨n, ⟨.v _ rfl, trivial⟩, trivial⟩
theorem opens_string {t : Nat} (hu : P.underlying t = some .string) : Opens enc P w t (fun x : ByteArray => [.v (.string x)]) (fun x => x.size ≤ reachBytes) := by
  intro fuel cs d p h hwt
  obtain ⟨s, rfl, hx, hw⟩ := DataW.trod_string hu h
  refine ⟨s, ⟨.v _ rfl, trivial⟩, ?_⟩
  simp only [Prod.mk.injEq] at hx
  rw [hx.1] at hwt
  have : s.data.size ≤ reachBytes := by simpa [DataW.weights] using hwt
  exact this
theorem weightsAll_mem {e : Nat} : ∀ {ds : List (DataW H)} {d : DataW H}, d ∈ ds → ∀ n ∈ d.weights P e, n ∈ DataW.weightsAll P e ds
  | d0 :: ds, d, hd, n, hn => by
    simp only [DataW.weightsAll, List.mem_append]
    rcases List.mem_cons.1 hd with rfl | hd
    · exact .inl hn
    · exact .inr (weightsAll_mem hd n hn)
theorem opens_slice {t e sz by_ : Nat} {α : Type} {en : α → List Cell} {WF : α → Prop} (hu : P.underlying t = some (.slice e)) (hz : P.cellsOf e = sz) (hb : P.bytesOf e = by_) (he : Opens enc P w e en WF) :
    Opens enc P w t (fun l : List α => [.sl sz (l.map en)]) (fun l => l.length ≤ maxLen ∧ l.length * by_ ≤ reachBytes ∧ ∀ x ∈ l, WF x) := by
  intro fuel cs d p h hwt
  rcases DataW.trod_slice hu h with ⟨rfl, hx⟩ | ⟨a, len, cap, elems, rest, n, _, rfl, hx, hb', hl, hm, hlen, hel, hsp, hns⟩
  · refine ⟨[], ⟨?_, trivial⟩, by simp, by simp, by simp⟩
    exact .sl sz [] none 0 (fun _ _ => undef) (Nat.le_refl _) (Nat.zero_le _) (by simp) (by simp) (by simp) (by simp)
  · simp only [Prod.mk.injEq] at hx
    have hw1 : ∀ m ∈ d.weights P t, m ≤ reachBytes := fun m hm => by simpa using List.all_eq_true.1 hwt m hm
    rw [hx.1] at hw1
    simp only [DataW.weights, hu, List.length_map] at hw1
    have hw2 : (elems.length + rest.length) * P.bytesOf e ≤ reachBytes := hw1 _ (by simp)
    have hw3 : ∀ y ∈ elems, (y.1.weights P e).all (· ≤ reachBytes) = true := fun y hy => by
      rw [List.all_eq_true]
      intro m hm
      simpa using hw1 m (List.mem_cons_of_mem _ (List.mem_append_left _ (weightsAll_mem (List.mem_map_of_mem hy) m hm)))
    have hex : ∀ i, i < len → ∃ x, (∃ cs, w.cells? 0 (a.add (i * sz)) sz = some cs ∧ RdL w (en x) cs) ∧ WF x := by
      intro i hi
      obtain ⟨y, hy⟩ : ∃ y, elems[i]? = some y := ⟨elems[i], List.getElem?_eq_getElem (by omega)⟩
      have h1 := hel i hi
      rw [hy, Option.bind_eq_some_iff] at h1
      obtain ⟨cs, h2, h3⟩ := h1
      obtain ⟨x, h4, h5⟩ := he n cs y.1 y.2 h3 (hw3 y (List.mem_of_getElem? hy))
      exact ⟨x, ⟨cs, hz ▸ h2, h4⟩, h5⟩
    obtain ⟨xs, hxl, hxs⟩ := choose_list len hex
    refine ⟨xs, ⟨?_, trivial⟩, by omega, ?_, fun x hx => ?_⟩
    · have e1 : (xs.map en).length = len := by simp [hxl]
      rw [← e1]
      have key : ∀ (i : Nat) (r : List Cell), (xs.map en)[i]? = some r → ∃ cs, cs.length = sz ∧ r.length = sz ∧ (∀ (j : Nat) u, cs[j]? = some u → w.cell? (a.add (i * sz + j)) = some u) ∧ RdL w r cs := fun i r hi => by
        rw [List.getElem?_map, Option.map_eq_some_iff] at hi
        obtain ⟨x, hx, rfl⟩ := hi
        obtain ⟨⟨cs, h1, h2⟩, _⟩ := hxs i x hx
        obtain ⟨h3, h4⟩ := cells?_at h1
        refine ⟨cs, h3, by rw [h2.len, h3], fun j u hj => ?_, h2⟩
        rw [← h4 j u hj, add_add]
      refine .sl sz (xs.map en) (some a) cap (fun i j => (w.cell? (a.add (i * sz + j))).getD undef) (by omega) (by omega) (fun r hr => ?_) (fun _ => ⟨a, rfl⟩) (fun i r j cl hi hj => ?_) (fun i r j cl hi hj => ?_)
      · obtain ⟨i, hi⟩ := List.getElem?_of_mem hr
        obtain ⟨cs, _, h2, _⟩ := key i r hi
        exact h2
      · obtain ⟨cs, h1, h2, h3, h4⟩ := key i r hi
        obtain ⟨u, h5, h6⟩ := h4.at j cl hj
        exact ⟨a, rfl, trivial, by rw [h3 j u h5]; rfl⟩
      · obtain ⟨cs, h1, h2, h3, h4⟩ := key i r hi
        obtain ⟨u, h5, h6⟩ := h4.at j cl hj
        rw [h3 j u h5]
        exact h6
    · rw [hb] at hw2
      exact Nat.le_trans (Nat.mul_le_mul_right _ (by omega)) hw2
    · obtain ⟨i, hi⟩ := List.getElem?_of_mem hx
      exact (hxs i x hi).2
theorem opensF_nil {n off : Nat} (ho : off = n) : OpensF enc P w n [] off (fun _ : Unit => []) (fun _ => True) := by
  intro m cs xs hn _ _ _
  rw [List.drop_of_length_le (by omega)]
  exact ⟨(), trivial, trivial⟩
theorem opensF_cons {n off k : Nat} {f : Field} {fs : List Field} {α β : Type} {en : α → List Cell} {WF : α → Prop} {en' : β → List Cell} {WF' : β → Prop} (ho : f.offset = off) (hk : P.cellsOf f.type = k)
    (h : Opens enc P w f.type en WF) (h' : OpensF enc P w n fs (off + k) en' WF') : OpensF enc P w n (f :: fs) off (fun x : α × β => en x.1 ++ en' x.2) (fun x => WF x.1 ∧ WF' x.2) := by
  intro m cs xs hn hl ht hw
  cases xs with
  | nil => simp at hl
  | cons y ys =>
    simp only [List.map_cons, DataW.weightsEach, List.all_append, Bool.and_eq_true] at hw
    have h0 := ht 0 f rfl
    simp only [List.getElem?_cons_zero] at h0
    obtain ⟨x, h1, h2⟩ := h m _ y.1 y.2 h0 hw.1
    obtain ⟨x', h3, h4⟩ := h' m cs ys hn (by simpa using hl) (fun i g hg => by simpa using ht (i + 1) g (by simpa using hg)) hw.2
    refine ⟨(x, x'), ?_, h2, h4⟩
    have e : cs.drop off = (cs.drop f.offset).take (P.cellsOf f.type) ++ cs.drop (off + k) := by
      rw [ho, hk, ← List.drop_drop, List.take_append_drop]
    rw [e]
    exact h1.append h3
theorem opens_struct {t n : Nat} {fs : Array Field} {α : Type} {en : α → List Cell} {WF : α → Prop} (hu : P.underlying t = some (.struct fs)) (hn : P.cellsOf t = n) (h : OpensF enc P w n fs.toList 0 en WF) : Opens enc P w t en WF := by
  intro fuel cs d p hd hw
  obtain ⟨xs, m, _, hx, hl, hlen, hf⟩ := DataW.trod_struct hu hd
  simp only [Prod.mk.injEq] at hx
  rw [hx.1] at hw
  simp only [DataW.weights, hu] at hw
  obtain ⟨x, h1, h2⟩ := h m cs xs (by omega) (by simpa using hlen) (fun i f hi => hf i f (by simpa using hi)) hw
  exact ⟨x, by simpa using h1, h2⟩
theorem Opens.map {t : Nat} {α β : Type} {en : α → List Cell} {WF : α → Prop} {en' : β → List Cell} {WF' : β → Prop} (h : Opens enc P w t en WF) (hm : ∀ x, WF x → ∃ y, en' y = en x ∧ WF' y) : Opens enc P w t en' WF' := by
  intro fuel cs d p hd hw
  obtain ⟨x, h1, h2⟩ := h fuel cs d p hd hw
  obtain ⟨y, h3, h4⟩ := hm x h2
  exact ⟨y, by rw [h3]; exact h1, h4⟩
end
theorem start_HR {w : World} {b0 : Nat} {ρ : Nat → Value} {o : List (Nat × Ob)} (h0 : 0 < b0) (hz : o.lookup 0 = none) (ho : ∀ i b, o.lookup i = some b → i < b0 ∧ ∃ sz rows, b = .fz sz rows ∧ Rd w (fun _ => True) (.sl sz rows) (ρ i)) :
    HR w ⟨fun _ => False, fun _ => True, b0, ρ, []⟩ (fun c => c < b0) ρ (fun _ => none) o w := by
  refine ⟨fun i b hi => ?_, Grew.refl _ _, fun k _ _ => ⟨fun _ => rfl, fun h => absurd trivial h⟩, hz, h0, fun i hi => ⟨hi, rfl⟩⟩
  obtain ⟨h1, sz, rows, rfl, h2⟩ := ho i b hi
  exact ⟨h2.mono (fun _ _ _ => ⟨rfl, rfl⟩), h1, trivial⟩
theorem run_law {P : Program} {f : Nat} {args : List LV} {b0 b1 : Nat} {oc oc' : List (Nat × Ob)} {r : Value} (hs : Spec P f args b0 oc (.v r) b1 oc') {w : World} {ρ : Nat → Value} (h0 : 0 < b0) (hz : oc.lookup 0 = none)
    (ho : ∀ i b, oc.lookup i = some b → i < b0 ∧ ∃ sz rows, b = .fz sz rows ∧ Rd w (fun _ => True) (.sl sz rows) (ρ i)) (hu : LV.useds (fun c => c < b0) ρ args) :
    Calls P f (LV.vals ρ args).toArray w (fun e w' => e = .returned r ∧ Below w.heap.size w w') := by
  refine Calls.mono (hs w ⟨fun _ => False, fun _ => True, b0, ρ, []⟩ ρ (fun _ => none) w rfl (start_HR h0 hz ho) hu) (fun e w' h => ?_)
  obtain ⟨ρ', own', h1, _, h3⟩ := h
  exact ⟨h1, h3.gr.below⟩
end Lg
end Go.Proofs.Ytpfhmodjjljpjaa

namespace Go.Proofs.Ytpfhmodjjljpjaa
open Go.ChangeShapes Go.WideShapes Go.ChangeAt Go.RowKit
namespace Lg
set_option maxRecDepth 100000
def I64 (x : Int) : Prop := -9223372036854775808 ≤ x ∧ x ≤ 9223372036854775807
structure WTac (t : GTac) : Prop where
  op : I64 t.op
  d : I64 t.d
  a : I64 t.a
  b : I64 t.b
  k : I64 t.k
  base : I64 t.base
  size : I64 t.size
  n : 0 ≤ t.n ∧ t.n < 4294967296
structure WBlock (b : GBlock) : Prop where
  len : b.ins.length * 64 ≤ 140737488351232
  ins : ∀ t ∈ b.ins, WTac t
  fin : I64 b.fin
  v : I64 b.v
  to : I64 b.to
  els : I64 b.els
structure WFn (f : GFn) : Prop where
  regs : I64 f.regs
  len : f.blocks.length * 56 ≤ 140737488351232
  each : ∀ b ∈ f.blocks, WBlock b
structure WIs (l : List Int) : Prop where
  len : l.length * 8 ≤ 140737488351232
  each : ∀ x ∈ l, I64 x
structure WIss (l : List (List Int)) : Prop where
  len : l.length * 24 ≤ 140737488351232
  each : ∀ x ∈ l, WIs x
structure WProg (p : GProg) : Prop where
  words : I64 p.words
  len : p.funcs.length * 32 ≤ 140737488351232
  each : ∀ f ∈ p.funcs, WFn f
section
variable {H : Type} {enc : TypeId × Value → H} {w : World}
theorem i64_of {x : Int} (h : (Lit.int .i64 x).wf = true) : I64 x := by
  simp only [Lit.wf, Bool.and_eq_true, decide_eq_true_eq] at h
  exact h
theorem o_int : Opens enc Try.prog w 3 (fun x : Int => [.v (.int .i64 x)]) I64 := (opens_int Try.underlying3).map (fun x h => ⟨x, rfl, i64_of h⟩)
theorem o_u32 : Opens enc Try.prog w 68 (fun x : Int => [.v (.int .u32 x)]) (fun x => 0 ≤ x ∧ x < 4294967296) := (opens_int Try.underlying68).map (fun x h => ⟨x, rfl, by
  simp only [Lit.wf, Bool.and_eq_true, decide_eq_true_eq] at h
  have h1 : (0 : Int) ≤ x := h.1
  have h2 : x ≤ (4294967295 : Int) := h.2
  omega⟩)
theorem o_u8 : Opens enc Try.prog w 5 (fun x : Int => [.v (.int .u8 x)]) (fun x => 0 ≤ x ∧ x < 256) := (opens_int Try.underlying5).map (fun x h => ⟨x, rfl, by
  simp only [Lit.wf, Bool.and_eq_true, decide_eq_true_eq] at h
  have h1 : (0 : Int) ≤ x := h.1
  have h2 : x ≤ (255 : Int) := h.2
  omega⟩)
theorem o_tac : Opens enc Try.prog w 70 eTac WTac :=
  (opens_struct (n := 8) Try.underlying70 (by kernel_rfl) (opensF_cons (k := 1) rfl (by kernel_rfl) o_int <| opensF_cons (k := 1) rfl (by kernel_rfl) o_int <| opensF_cons (k := 1) rfl (by kernel_rfl) o_int <| opensF_cons (k := 1) rfl (by kernel_rfl) o_int <|
    opensF_cons (k := 1) rfl (by kernel_rfl) o_int <| opensF_cons (k := 1) rfl (by kernel_rfl) o_int <| opensF_cons (k := 1) rfl (by kernel_rfl) o_int <| opensF_cons (k := 1) rfl (by kernel_rfl) o_u32 <| opensF_nil rfl)).map
  (fun x h => ⟨⟨x.1, x.2.1, x.2.2.1, x.2.2.2.1, x.2.2.2.2.1, x.2.2.2.2.2.1, x.2.2.2.2.2.2.1, x.2.2.2.2.2.2.2.1⟩, rfl, ⟨h.1, h.2.1, h.2.2.1, h.2.2.2.1, h.2.2.2.2.1, h.2.2.2.2.2.1, h.2.2.2.2.2.2.1, h.2.2.2.2.2.2.2.1⟩⟩)
theorem o_tacs : Opens enc Try.prog w 67 (fun l : List GTac => [.sl 8 (l.map eTac)]) (fun l => l.length ≤ maxLen ∧ l.length * 64 ≤ reachBytes ∧ ∀ x ∈ l, WTac x) := opens_slice (by_ := 64) Try.underlying67 (by kernel_rfl) (by kernel_rfl) o_tac
theorem o_block : Opens enc Try.prog w 72 eBlock WBlock :=
  (opens_struct (n := 5) Try.underlying72 (by kernel_rfl) (opensF_cons (k := 1) rfl (by kernel_rfl) o_tacs <| opensF_cons (k := 1) rfl (by kernel_rfl) o_int <| opensF_cons (k := 1) rfl (by kernel_rfl) o_int <| opensF_cons (k := 1) rfl (by kernel_rfl) o_int <|
    opensF_cons (k := 1) rfl (by kernel_rfl) o_int <| opensF_nil rfl)).map
  (fun x h => ⟨⟨x.1, x.2.1, x.2.2.1, x.2.2.2.1, x.2.2.2.2.1⟩, rfl, ⟨h.1.2.1, h.1.2.2, h.2.1, h.2.2.1, h.2.2.2.1, h.2.2.2.2.1⟩⟩)
theorem o_blocks : Opens enc Try.prog w 27 (fun l : List GBlock => [.sl 5 (l.map eBlock)]) (fun l => l.length ≤ maxLen ∧ l.length * 56 ≤ reachBytes ∧ ∀ x ∈ l, WBlock x) := opens_slice (by_ := 56) Try.underlying27 (by kernel_rfl) (by kernel_rfl) o_block
theorem o_fn : Opens enc Try.prog w 29 eFn WFn :=
  (opens_struct (n := 2) Try.underlying29 (by kernel_rfl) (opensF_cons (k := 1) rfl (by kernel_rfl) o_int <| opensF_cons (k := 1) rfl (by kernel_rfl) o_blocks <| opensF_nil rfl)).map
  (fun x h => ⟨⟨x.1, x.2.1⟩, rfl, ⟨h.1, h.2.1.2.1, h.2.1.2.2⟩⟩)
theorem o_fns : Opens enc Try.prog w 22 (fun l : List GFn => [.sl 2 (l.map eFn)]) (fun l => l.length ≤ maxLen ∧ l.length * 32 ≤ reachBytes ∧ ∀ x ∈ l, WFn x) := opens_slice (by_ := 32) Try.underlying22 (by kernel_rfl) (by kernel_rfl) o_fn
def eProg (p : GProg) : List Cell := [.v (.int .i64 p.words), .sl 2 (p.funcs.map eFn)]
theorem o_prog : Opens enc Try.prog w 24 eProg WProg :=
  (opens_struct (n := 2) Try.underlying24 (by kernel_rfl) (opensF_cons (k := 1) rfl (by kernel_rfl) o_int <| opensF_cons (k := 1) rfl (by kernel_rfl) o_fns <| opensF_nil rfl)).map
  (fun x h => ⟨⟨x.1, x.2.1⟩, rfl, ⟨h.1, h.2.1.2.1, h.2.1.2.2⟩⟩)
theorem o_is : Opens enc Try.prog w 52 eIs WIs := (opens_slice (by_ := 8) (sz := 1) Try.underlying52 (by kernel_rfl) (by kernel_rfl) o_int).map (fun x h => ⟨x, rfl, ⟨h.2.1, h.2.2⟩⟩)
theorem o_iss : Opens enc Try.prog w 30 (fun l : List (List Int) => [.sl 1 (l.map eIs)]) WIss := (opens_slice (by_ := 24) Try.underlying30 (by kernel_rfl) (by kernel_rfl) o_is).map (fun x h => ⟨x, rfl, ⟨h.2.1, h.2.2⟩⟩)
theorem arg_agg {t : Nat} {α : Type} {en : α → List Cell} {WF : α → Prop} (ho : Opens enc Try.prog w t en WF) (hs : (match Try.prog.underlying t with | some (.struct _) => true | some (.array _ _) => true | _ => false) = true)
    {r : Reach} {b : Nat} {v : Value} {d : DataW H} {p : List MemPlace} (hv : Value.okWide Try.prog w r b t v) (hd : DataW.Trod enc Try.prog w 0 (fun _ => true) true t v d p) (hw : (d.weights Try.prog t).all (· ≤ reachBytes) = true) :
    ∃ x cs, v = .agg cs ∧ RdL w (en x) cs.toList ∧ WF x := by
  unfold Value.okWide at hv
  obtain ⟨fuel, hf⟩ := hd
  cases hu : Try.prog.underlying t with
  | none => rw [hu] at hs; cases hs
  | some q =>
    rw [hu] at hs hv
    cases q with
    | struct fs =>
      obtain ⟨cs, rfl, _⟩ := hv
      obtain ⟨x, h1, h2⟩ := ho fuel _ d p hf hw
      exact ⟨x, cs, rfl, h1, h2⟩
    | array n e =>
      obtain ⟨cs, rfl, _⟩ := hv
      obtain ⟨x, h1, h2⟩ := ho fuel _ d p hf hw
      exact ⟨x, cs, rfl, h1, h2⟩
    | _ => cases hs
theorem arg_slice {t e : Nat} {α : Type} {en : α → List Cell} {WF : α → Prop} (ho : Opens enc Try.prog w t en WF) (hs : Try.prog.underlying t = some (.slice e))
    {r : Reach} {b : Nat} {v : Value} {d : DataW H} {p : List MemPlace} (hv : Value.okWide Try.prog w r b t v) (hd : DataW.Trod enc Try.prog w 0 (fun _ => true) true t v d p) (hw : (d.weights Try.prog t).all (· ≤ reachBytes) = true) :
    ∃ x, RdL w (en x) [v] ∧ WF x := by
  obtain ⟨a, l, c, rfl⟩ := okWide_slice hs hv
  obtain ⟨fuel, hf⟩ := hd
  obtain ⟨x, h1, h2⟩ := ho fuel _ d p hf hw
  exact ⟨x, by simpa [Value.cells] using h1, h2⟩
theorem rdl_one {c : Cell} {v : Value} (h : RdL w [c] [v]) : Rd w (fun _ => True) c v := h.1
theorem arg_fn {r : Reach} {b : Nat} {v : Value} {d : DataW H} {p : List MemPlace} (hv : Value.okWide Try.prog w r b 29 v) (hd : DataW.Trod enc Try.prog w 0 (fun _ => true) true 29 v d p) (hw : (d.weights Try.prog 29).all (· ≤ reachBytes) = true) :
    ∃ (f : GFn) (s : Value), v = .agg #[.int .i64 f.regs, s] ∧ Rd w (fun _ => True) (.sl 5 (f.blocks.map eBlock)) s ∧ WFn f := by
  obtain ⟨f, cs, rfl, h1, h2⟩ := arg_agg o_fn (by rw [Try.underlying29]) hv hd hw
  obtain ⟨l⟩ := cs
  match l, h1 with
  | [x, s], h1 =>
    refine ⟨f, s, ?_, h1.2.1, h2⟩
    have h3 := h1.1
    cases h3
    rfl
theorem arg_iss {r : Reach} {b : Nat} {v : Value} {d : DataW H} {p : List MemPlace} (hv : Value.okWide Try.prog w r b 30 v) (hd : DataW.Trod enc Try.prog w 0 (fun _ => true) true 30 v d p) (hw : (d.weights Try.prog 30).all (· ≤ reachBytes) = true) :
    ∃ (l : List (List Int)), Rd w (fun _ => True) (.sl 1 (l.map eIs)) v ∧ WIss l := by
  obtain ⟨l, h1, h2⟩ := arg_slice o_iss Try.underlying30 hv hd hw
  exact ⟨l, h1.1, h2⟩
end
def FzAll (w : World) (ρ : Nat → Value) (b0 : Nat) : List (Nat × Ob) → Prop
  | [] => True
  | (i, .fz sz rows) :: l => (0 < i ∧ i < b0) ∧ Rd w (fun _ => True) (.sl sz rows) (ρ i) ∧ FzAll w ρ b0 l
  | _ => False
theorem FzAll.at {w : World} {ρ : Nat → Value} {b0 : Nat} : ∀ {l : List (Nat × Ob)}, FzAll w ρ b0 l → ∀ i b, l.lookup i = some b → (0 < i ∧ i < b0) ∧ ∃ sz rows, b = .fz sz rows ∧ Rd w (fun _ => True) (.sl sz rows) (ρ i)
  | (j, .fz sz rows) :: l, h, i, b, hi => by
    simp only [List.lookup] at hi
    cases hk : i == j with
    | true =>
      rw [hk] at hi
      have e : i = j := by simpa using hk
      subst e
      cases hi
      exact ⟨h.1, sz, rows, rfl, h.2.1⟩
    | false => rw [hk] at hi; exact h.2.2.at i b hi
theorem law_run {P : Program} {f : Nat} {args : List LV} {b0 b1 : Nat} {oc oc' : List (Nat × Ob)} {r : Value} (hs : Spec P f args b0 oc (.v r) b1 oc') {w : World} {ρ : Nat → Value} (h0 : 0 < b0) (ho : FzAll w ρ b0 oc) (hu : LV.useds (fun c => c < b0) ρ args) :
    Calls P f (LV.vals ρ args).toArray w (fun e w' => e = .returned r ∧ Below w.heap.size w w') := by
  refine run_law hs h0 ?_ (fun i b hi => ⟨(ho.at i b hi).1.2, (ho.at i b hi).2⟩) hu
  cases h : oc.lookup 0 with
  | none => rfl
  | some b => exact absurd (ho.at 0 b h).1.1 (by omega)
end Lg
end Go.Proofs.Ytpfhmodjjljpjaa

namespace Go.Proofs.Ytpfhmodjjljpjaa
open Go.RowKit
namespace Lg
set_option linter.unusedSimpArgs false
set_option linter.unusedVariables false
section
variable {P : Program} {N bs j j' b d nn i : Nat} {ops : Array Oper} {o : Oper} {s : List (Nat × LV)} {ob : List (Nat × Ob)} {lv : LV} {x : Ob} {pre : List Nat} {upd : List (Nat × Ob)} {tr : List Tr} {st' : St}
theorem Run.op0 (ho : ops[j]? = some o) (hd : o.dst = some d) (hb : bs + 16 * j = b) (hj : j + 1 = j') (hg : On ops ⟨s, ob⟩ o true) (ht : T P N o b pre ⟨s, ob⟩ lv nn []) (hn : decide (nn ≤ 16) = true) (r : Run P N ops bs j' ⟨(d, lv) :: s, ob⟩ tr st') :
    Run P N ops bs j ⟨s, ob⟩ (⟨true, pre, lv, nn, []⟩ :: tr) st' := by
  subst hb hj
  exact .op ho hg ht hn (by simpa [St.app, hd] using r)
theorem Run.op1 (ho : ops[j]? = some o) (hd : o.dst = some d) (hb : bs + 16 * j = b) (hj : j + 1 = j') (hg : On ops ⟨s, ob⟩ o true) (ht : T P N o b pre ⟨s, ob⟩ lv nn [(i, x)]) (hn : decide (nn ≤ 16) = true) (r : Run P N ops bs j' ⟨(d, lv) :: s, (i, x) :: ob⟩ tr st') :
    Run P N ops bs j ⟨s, ob⟩ (⟨true, pre, lv, nn, [(i, x)]⟩ :: tr) st' := by
  subst hb hj
  exact .op ho hg ht hn (by simpa [St.app, hd] using r)
theorem Run.opn (ho : ops[j]? = some o) (hd : o.dst = some d) (hb : bs + 16 * j = b) (hj : j + 1 = j') (hg : On ops ⟨s, ob⟩ o true) (ht : T P N o b pre ⟨s, ob⟩ lv nn upd) (hn : decide (nn ≤ 16) = true) (r : Run P N ops bs j' ⟨(d, lv) :: s, upd ++ ob⟩ tr st') :
    Run P N ops bs j ⟨s, ob⟩ (⟨true, pre, lv, nn, upd⟩ :: tr) st' := by
  subst hb hj
  exact .op ho hg ht hn (by simpa [St.app, hd] using r)
theorem Run.st0 (ho : ops[j]? = some o) (hd : o.dst = none) (hb : bs + 16 * j = b) (hj : j + 1 = j') (hg : On ops ⟨s, ob⟩ o true) (ht : T P N o b pre ⟨s, ob⟩ lv nn []) (hn : decide (nn ≤ 16) = true) (r : Run P N ops bs j' ⟨s, ob⟩ tr st') :
    Run P N ops bs j ⟨s, ob⟩ (⟨true, pre, lv, nn, []⟩ :: tr) st' := by
  subst hb hj
  exact .op ho hg ht hn (by simpa [St.app, hd] using r)
theorem Run.st1 (ho : ops[j]? = some o) (hd : o.dst = none) (hb : bs + 16 * j = b) (hj : j + 1 = j') (hg : On ops ⟨s, ob⟩ o true) (ht : T P N o b pre ⟨s, ob⟩ lv nn [(i, x)]) (hn : decide (nn ≤ 16) = true) (r : Run P N ops bs j' ⟨s, (i, x) :: ob⟩ tr st') :
    Run P N ops bs j ⟨s, ob⟩ (⟨true, pre, lv, nn, [(i, x)]⟩ :: tr) st' := by
  subst hb hj
  exact .op ho hg ht hn (by simpa [St.app, hd] using r)
theorem Run.stn (ho : ops[j]? = some o) (hd : o.dst = none) (hb : bs + 16 * j = b) (hj : j + 1 = j') (hg : On ops ⟨s, ob⟩ o true) (ht : T P N o b pre ⟨s, ob⟩ lv nn upd) (hn : decide (nn ≤ 16) = true) (r : Run P N ops bs j' ⟨s, upd ++ ob⟩ tr st') :
    Run P N ops bs j ⟨s, ob⟩ (⟨true, pre, lv, nn, upd⟩ :: tr) st' := by
  subst hb hj
  exact .op ho hg ht hn (by simpa [St.app, hd] using r)
theorem Run.no (ho : ops[j]? = some o) (hd : o.dst = some d) (hj : j + 1 = j') (hg : On ops ⟨s, ob⟩ o false) (r : Run P N ops bs j' ⟨(d, .v undef) :: s, ob⟩ tr st') :
    Run P N ops bs j ⟨s, ob⟩ (⟨false, [], .v undef, 0, []⟩ :: tr) st' := by
  subst hj
  exact .off ho hg (by simpa [St.app, hd] using r)
end
section
variable {J : Nat → St → Prop} {K : Exit → Nat → St → Prop} {b : Nat} {s : St} {i id : Nat}
theorem thenK_n (h : J b s) : thenK J K .normal b s := h
theorem thenK_e (h : K (.exit i) b s) : thenK J K (.exit i) b s := h
theorem thenK_r (h : K .ret b s) : thenK J K .ret b s := h
theorem blockK_n (h : K .normal b s) : blockK id K .normal b s := h
theorem blockK_hit (h : K .normal b s) : blockK id K (.exit id) b s := by simpa [blockK] using h
theorem blockK_miss (hi : (i == id) = false) (h : K (.exit i) b s) : blockK id K (.exit i) b s := by
  have : i ≠ id := by simpa using hi
  simpa [blockK, this] using h
theorem blockK_r (h : K .ret b s) : blockK id K .ret b s := h
end
inductive NilR (lo hi : Nat) : LV → LV → Prop
  | same (x : LV) : NilR lo hi x x
  | nil {i : Nat} (h : (decide (lo ≤ i) && decide (i < hi)) = true) : NilR lo hi (.v (.slice none 0 0)) (.r i)
inductive NilRs (lo hi : Nat) : List LV → List LV → Prop
  | nil : NilRs lo hi [] []
  | cons {x y : LV} {l m : List LV} (h : NilR lo hi x y) (t : NilRs lo hi l m) : NilRs lo hi (x :: l) (y :: m)
theorem NilR.val {lo hi : Nat} {x y : LV} (h : NilR lo hi x y) {ρ ρ' : Nat → Value} {U U' : Nat → Prop} (hρ : ∀ i, U i → ρ' i = ρ i) (hU : ∀ i, U i → U' i) (hn : ∀ i, lo ≤ i → i < hi → ρ' i = .slice none 0 0 ∧ U' i) (hu : x.used U ρ) :
    y.val ρ' = x.val ρ ∧ y.used U' ρ' := by
  cases h with
  | same x => exact ⟨used_congr hρ x hu, used_mono hρ hU x hu⟩
  | nil h =>
    simp only [Bool.and_eq_true, decide_eq_true_eq] at h
    exact ⟨(hn _ h.1 h.2).1, (hn _ h.1 h.2).2⟩
theorem NilRs.val {lo hi : Nat} {l m : List LV} (h : NilRs lo hi l m) {ρ ρ' : Nat → Value} {U U' : Nat → Prop} (hρ : ∀ i, U i → ρ' i = ρ i) (hU : ∀ i, U i → U' i) (hn : ∀ i, lo ≤ i → i < hi → ρ' i = .slice none 0 0 ∧ U' i) (hu : LV.useds U ρ l) :
    LV.vals ρ' m = LV.vals ρ l ∧ LV.useds U' ρ' m := by
  induction h with
  | nil => exact ⟨rfl, trivial⟩
  | cons h t ih =>
    obtain ⟨h1, h2⟩ := h.val hρ hU hn hu.1
    obtain ⟨h3, h4⟩ := ih hu.2
    exact ⟨by simp [LV.vals, h1, h3], h2, h4⟩
def nilRows (b : Nat) : List (Nat × Nat) → List (Nat × Ob)
  | [] => []
  | (e, sz) :: l => (b, .row e sz []) :: nilRows (b + 1) l
theorem nilRows_at : ∀ (l : List (Nat × Nat)) (b i : Nat) (ob : Ob), (l.all fun p => decide (0 < p.2)) = true → (nilRows b l).lookup i = some ob → b ≤ i ∧ i < b + l.length ∧ ∃ e sz, ob = .row e sz [] ∧ 0 < sz
  | [], b, i, ob, _, h => by simp [nilRows] at h
  | (e, sz) :: l, b, i, ob, hz, h => by
    simp only [List.all_cons, Bool.and_eq_true, decide_eq_true_eq] at hz
    simp only [nilRows, List.lookup] at h
    cases hk : i == b with
    | true =>
      rw [hk] at h
      obtain rfl : i = b := by simpa using hk
      cases h
      exact ⟨Nat.le_refl _, by simp, e, sz, rfl, hz.1⟩
    | false =>
      rw [hk] at h
      obtain ⟨h1, h2, h3⟩ := nilRows_at l (b + 1) i ob hz.2 h
      exact ⟨by omega, by simp only [List.length_cons]; omega, h3⟩
theorem nil_rep {w : World} {ρ : Nat → Value} {own : Nat → Option Nat} {i e sz : Nat} (h : ρ i = .slice none 0 0) (hs : 0 < sz) : RepOb w ρ own i (.row e sz []) :=
  ⟨hs, [], ⟨by simp, .inl ⟨h, rfl⟩⟩, (fun k hk => by rw [h] at hk; cases hk), ⟨by simp, fun i r hi => by simp at hi⟩⟩
theorem HR.addNils {w0 w : World} {M : Fp} {U : Nat → Prop} {ρ : Nat → Value} {own : Nat → Option Nat} {ob : List (Nat × Ob)} (hr : HR w0 M U ρ own ob w) (b : Nat) (l : List (Nat × Nat)) (hz : (l.all fun p => decide (0 < p.2)) = true) (hb : ∀ i, b ≤ i → i < b + l.length → ¬ U i) :
    HR w0 M (grow U b l.length) (fun i => if b ≤ i ∧ i < b + l.length then .slice none 0 0 else ρ i) own (nilRows b l ++ ob) w := by
  have hρ : ∀ i, U i → (if b ≤ i ∧ i < b + l.length then Value.slice none 0 0 else ρ i) = ρ i := fun i hi => if_neg (fun h => hb i h.1 h.2 hi)
  refine hr.step (fun _ => False) rfl rfl rfl (Nat.le_refl _) (fun k hk _ => ⟨rfl, rfl⟩) hρ (fun i hi => .inl hi) (fun _ h => h.elim) (fun i ob' hi => ?_) (fun i ob' hi => ?_)
  · obtain ⟨h1, h2, _⟩ := nilRows_at l b i ob' hz hi
    exact .inr (hb i h1 h2)
  · obtain ⟨h1, h2, e, sz, rfl, h3⟩ := nilRows_at l b i ob' hz hi
    exact ⟨nil_rep (by rw [if_pos ⟨h1, h2⟩]) h3, .inr ⟨h1, h2⟩, trivial⟩
section
variable {P : Program} {N b nn : Nat} {o : Oper} {st : St} {lv lv' : LV} {pre : List Nat} {upd : List (Nat × Ob)}
theorem T_nils (l : List (Nat × Nat)) (h : T P N o b pre st lv nn upd) (hz : (l.all fun p => decide (0 < p.2)) = true) {m : List LV} {m' : List LV} (hlv : (lv = .agg m ∧ lv' = .agg m') ∨ (m = [lv] ∧ m' = [lv'])) (hm : NilRs (b + nn) (b + nn + l.length) m m') {upd' : List (Nat × Ob)} (hupd : nilRows (b + nn) l ++ upd = upd') {nn' : Nat} (hnn : nn + l.length = nn') :
    T P N o b pre st lv' nn' upd' := by
  intro w0 M U ρ own st' a w hx hp hf fr hr
  subst hupd hnn
  intro next Q hn
  refine h w0 M U ρ own st' a w hx hp (fun i h1 h2 => hf i h1 (by omega)) fr hr next Q (fun v w' hv => hn v w' ?_)
  obtain ⟨ρ', own', rfl, h1, h2, h3⟩ := hv
  have hfresh : ∀ i, b + nn ≤ i → i < b + nn + l.length → ¬ grow U b nn i := fun i g1 g2 g3 => by
    rcases g3 with g3 | g3
    · exact hf i (by omega) (by omega) g3
    · omega
  have h4 := h3.addNils (b + nn) l hz hfresh
  let ρ2 : Nat → Value := fun i => if b + nn ≤ i ∧ i < b + nn + l.length then .slice none 0 0 else ρ' i
  have hρ : ∀ i, grow U b nn i → ρ2 i = ρ' i := fun i hi => if_neg (fun h => hfresh i h.1 h.2 hi)
  have hgrow : ∀ i, grow (grow U b nn) (b + nn) l.length i → grow U b (nn + l.length) i := fun i hi => by
    rcases hi with (hi | hi) | hi
    · exact .inl hi
    · exact .inr (by omega)
    · exact .inr (by omega)
  have hval : lv'.val ρ2 = lv.val ρ' ∧ lv'.used (grow (grow U b nn) (b + nn) l.length) ρ2 := by
    have hnew : ∀ i, b + nn ≤ i → i < b + nn + l.length → ρ2 i = .slice none 0 0 ∧ grow (grow U b nn) (b + nn) l.length i := fun i g1 g2 => ⟨if_pos ⟨g1, g2⟩, .inr ⟨g1, g2⟩⟩
    rcases hlv with ⟨rfl, rfl⟩ | ⟨rfl, rfl⟩
    · obtain ⟨k1, k2⟩ := hm.val (ρ := ρ') (ρ' := ρ2) hρ (fun i hi => .inl hi) hnew h2.1
      exact ⟨by simp only [LV.val]; rw [k1], k2, by rw [k1]; exact h2.2⟩
    · obtain ⟨k1, k2⟩ := hm.val (ρ := ρ') (ρ' := ρ2) hρ (fun i hi => .inl hi) hnew ⟨h2, trivial⟩
      exact ⟨by simpa [LV.vals] using k1, k2.1⟩
  refine ⟨ρ2, own', hval.1.symm, fun i hi => (hρ i (.inl hi)).trans (h1 i hi), used_mono (fun _ _ => rfl) hgrow lv' hval.2, ?_⟩
  rw [List.append_assoc]
  exact h4.mono hgrow
theorem T_nilbox (l : List (Nat × Nat)) {t : Nat} {cs cs' : List LV} (h : T P N o b pre st lv nn [(b, .box t cs)]) (hz : (l.all fun p => decide (0 < p.2)) = true) (hm : NilRs (b + nn) (b + nn + l.length) cs cs') {upd' : List (Nat × Ob)} (hupd : (b, .box t cs') :: nilRows (b + nn) l = upd') {nn' : Nat} (hnn : nn + l.length = nn') :
    T P N o b pre st lv nn' upd' := by
  intro w0 M U ρ own st' a w hx hp hf fr hr
  subst hupd hnn
  intro next Q hn
  refine h w0 M U ρ own st' a w hx hp (fun i h1 h2 => hf i h1 (by omega)) fr hr next Q (fun v w' hv => hn v w' ?_)
  obtain ⟨ρ', own', rfl, h1, h2, h3⟩ := hv
  have hfresh : ∀ i, b + nn ≤ i → i < b + nn + l.length → ¬ grow U b nn i := fun i g1 g2 g3 => by
    rcases g3 with g3 | g3
    · exact hf i (by omega) (by omega) g3
    · omega
  have h4 := h3.addNils (b + nn) l hz hfresh
  let ρ2 : Nat → Value := fun i => if b + nn ≤ i ∧ i < b + nn + l.length then .slice none 0 0 else ρ' i
  have hρ : ∀ i, grow U b nn i → ρ2 i = ρ' i := fun i hi => if_neg (fun h => hfresh i h.1 h.2 hi)
  have hgrow : ∀ i, grow (grow U b nn) (b + nn) l.length i → grow U b (nn + l.length) i := fun i hi => by
    rcases hi with (hi | hi) | hi
    · exact .inl hi
    · exact .inr (by omega)
    · exact .inr (by omega)
  have hnew : ∀ i, b + nn ≤ i → i < b + nn + l.length → ρ2 i = .slice none 0 0 ∧ grow (grow U b nn) (b + nn) l.length i := fun i g1 g2 => ⟨if_pos ⟨g1, g2⟩, .inr ⟨g1, g2⟩⟩
  obtain ⟨q1, q2, q3⟩ := h3.ob b (.box t cs) (by simp)
  obtain ⟨k1, k2⟩ := hm.val (ρ := ρ') (ρ' := ρ2) hρ (fun i hi => .inl hi) hnew q3.1
  refine ⟨ρ2, own', (used_congr hρ lv h2).symm, fun i hi => (hρ i (.inl hi)).trans (h1 i hi), used_mono hρ (fun i hi => hgrow i (.inl hi)) lv h2, ?_⟩
  -- the variable's cells, told by the rows
  have h5 : HR w0 M (grow (grow U b nn) (b + nn) l.length) ρ2 own' ([(b, .box t cs')] ++ (nilRows (b + nn) l ++ ([(b, .box t cs)] ++ st'.o))) w' := by
    refine h4.step (fun _ => False) rfl rfl rfl (Nat.le_refl _) (fun _ _ _ => ⟨rfl, rfl⟩) (fun _ _ => rfl) (fun _ h => h) (fun _ h => h.elim) (fun i ob' hi => .inl ?_) (fun i ob' hi => ?_)
    · rw [lookup_key hi]
      refine ⟨.box t cs, ?_⟩
      rw [lookup_append]
      cases hl : (nilRows (b + nn) l).lookup b with
      | some ob2 =>
        obtain ⟨g1, g2, _⟩ := nilRows_at l _ _ _ hz hl
        exact absurd q2 (hfresh b g1 g2)
      | none => simp
    · have hib := lookup_key hi
      subst hib
      obtain rfl : Ob.box t cs' = ob' := by simpa using hi
      obtain ⟨g, g1, g2, g3⟩ := q1
      exact ⟨⟨g, by show ρ2 i = _; rw [hρ i q2]; exact g1, g2, by rw [g3, k1]⟩, .inl q2, k2, by rw [k1]; exact q3.2⟩
  refine (h5.mono hgrow).congr (fun i => ?_)
  simp only [List.cons_append, List.nil_append, List.lookup, lookup_append]
  cases hib : i == b with
  | true => rfl
  | false => rfl
end
end Lg
end Go.Proofs.Ytpfhmodjjljpjaa

namespace Go.Proofs.Ytpfhmodjjljpjaa
open Go.RowKit
namespace Lg
set_option linter.unusedSimpArgs false
set_option linter.unusedVariables false
def RunK (P : Program) (N : Nat) (ops : Array Oper) (bs j : Nat) (st : St) (C : List Tr → St → Prop) : Prop := ∃ tr st', Run P N ops bs j st tr st' ∧ C tr st'
section
variable {P : Program} {N bs j j' b d nn i : Nat} {ops : Array Oper} {o : Oper} {s : List (Nat × LV)} {ob : List (Nat × Ob)} {lv : LV} {x : Ob} {pre : List Nat} {upd : List (Nat × Ob)} {C : List Tr → St → Prop}
theorem k_done {st : St} (h : ops.size = j) (hC : C [] st) : RunK P N ops bs j st C := ⟨[], st, .done h, hC⟩
theorem k_op0 (ho : ops[j]? = some o) (hd : o.dst = some d) (hb : bs + 16 * j = b) (hj : j + 1 = j') (hg : On ops ⟨s, ob⟩ o true) (ht : T P N o b pre ⟨s, ob⟩ lv nn []) (hn : decide (nn ≤ 16) = true) (r : RunK P N ops bs j' ⟨(d, lv) :: s, ob⟩ (fun tr => C (⟨true, pre, lv, nn, []⟩ :: tr))) : RunK P N ops bs j ⟨s, ob⟩ C := by
  obtain ⟨tr, st', r, hC⟩ := r
  exact ⟨_, st', .op0 ho hd hb hj hg ht hn r, hC⟩
theorem k_op1 (ho : ops[j]? = some o) (hd : o.dst = some d) (hb : bs + 16 * j = b) (hj : j + 1 = j') (hg : On ops ⟨s, ob⟩ o true) (ht : T P N o b pre ⟨s, ob⟩ lv nn [(i, x)]) (hn : decide (nn ≤ 16) = true) (r : RunK P N ops bs j' ⟨(d, lv) :: s, (i, x) :: ob⟩ (fun tr => C (⟨true, pre, lv, nn, [(i, x)]⟩ :: tr))) : RunK P N ops bs j ⟨s, ob⟩ C := by
  obtain ⟨tr, st', r, hC⟩ := r
  exact ⟨_, st', .op1 ho hd hb hj hg ht hn r, hC⟩
theorem k_opn (ho : ops[j]? = some o) (hd : o.dst = some d) (hb : bs + 16 * j = b) (hj : j + 1 = j') (hg : On ops ⟨s, ob⟩ o true) (ht : T P N o b pre ⟨s, ob⟩ lv nn upd) (hn : decide (nn ≤ 16) = true) (r : RunK P N ops bs j' ⟨(d, lv) :: s, upd ++ ob⟩ (fun tr => C (⟨true, pre, lv, nn, upd⟩ :: tr))) : RunK P N ops bs j ⟨s, ob⟩ C := by
  obtain ⟨tr, st', r, hC⟩ := r
  exact ⟨_, st', .opn ho hd hb hj hg ht hn r, hC⟩
theorem k_st0 (ho : ops[j]? = some o) (hd : o.dst = none) (hb : bs + 16 * j = b) (hj : j + 1 = j') (hg : On ops ⟨s, ob⟩ o true) (ht : T P N o b pre ⟨s, ob⟩ lv nn []) (hn : decide (nn ≤ 16) = true) (r : RunK P N ops bs j' ⟨s, ob⟩ (fun tr => C (⟨true, pre, lv, nn, []⟩ :: tr))) : RunK P N ops bs j ⟨s, ob⟩ C := by
  obtain ⟨tr, st', r, hC⟩ := r
  exact ⟨_, st', .st0 ho hd hb hj hg ht hn r, hC⟩
theorem k_st1 (ho : ops[j]? = some o) (hd : o.dst = none) (hb : bs + 16 * j = b) (hj : j + 1 = j') (hg : On ops ⟨s, ob⟩ o true) (ht : T P N o b pre ⟨s, ob⟩ lv nn [(i, x)]) (hn : decide (nn ≤ 16) = true) (r : RunK P N ops bs j' ⟨s, (i, x) :: ob⟩ (fun tr => C (⟨true, pre, lv, nn, [(i, x)]⟩ :: tr))) : RunK P N ops bs j ⟨s, ob⟩ C := by
  obtain ⟨tr, st', r, hC⟩ := r
  exact ⟨_, st', .st1 ho hd hb hj hg ht hn r, hC⟩
theorem k_stn (ho : ops[j]? = some o) (hd : o.dst = none) (hb : bs + 16 * j = b) (hj : j + 1 = j') (hg : On ops ⟨s, ob⟩ o true) (ht : T P N o b pre ⟨s, ob⟩ lv nn upd) (hn : decide (nn ≤ 16) = true) (r : RunK P N ops bs j' ⟨s, upd ++ ob⟩ (fun tr => C (⟨true, pre, lv, nn, upd⟩ :: tr))) : RunK P N ops bs j ⟨s, ob⟩ C := by
  obtain ⟨tr, st', r, hC⟩ := r
  exact ⟨_, st', .stn ho hd hb hj hg ht hn r, hC⟩
theorem k_no (ho : ops[j]? = some o) (hd : o.dst = some d) (hj : j + 1 = j') (hg : On ops ⟨s, ob⟩ o false) (r : RunK P N ops bs j' ⟨(d, .v undef) :: s, ob⟩ (fun tr => C (⟨false, [], .v undef, 0, []⟩ :: tr))) : RunK P N ops bs j ⟨s, ob⟩ C := by
  obtain ⟨tr, st', r, hC⟩ := r
  exact ⟨_, st', .no ho hd hj hg r, hC⟩
theorem k_split {st : St} {c : Bool} (hs : st.s.lookup d = some (.v (.bool c))) (h1 : c = true → RunK P N ops bs j st C) (h2 : c = false → RunK P N ops bs j st C) : RunK P N ops bs j st C := by
  cases c
  · exact h2 rfl
  · exact h1 rfl
theorem g_tt {st : St} {g d : Nat} {c : Bool} (h : o.guard = some (g, true)) (hj : (ops[g]?).bind (·.dst) = some d) (hs : st.s.lookup d = some (.v (.bool c))) (hc : c = true) : On ops st o true := .yes h hj hs (by rw [hc]; rfl)
theorem g_tf {st : St} {g d : Nat} {c : Bool} (h : o.guard = some (g, true)) (hj : (ops[g]?).bind (·.dst) = some d) (hs : st.s.lookup d = some (.v (.bool c))) (hc : c = false) : On ops st o false := .no h hj hs (by rw [hc]; rfl)
theorem g_ft {st : St} {g d : Nat} {c : Bool} (h : o.guard = some (g, false)) (hj : (ops[g]?).bind (·.dst) = some d) (hs : st.s.lookup d = some (.v (.bool c))) (hc : c = true) : On ops st o false := .no h hj hs (by rw [hc]; rfl)
theorem g_ff {st : St} {g d : Nat} {c : Bool} (h : o.guard = some (g, false)) (hj : (ops[g]?).bind (·.dst) = some d) (hs : st.s.lookup d = some (.v (.bool c))) (hc : c = false) : On ops st o true := .yes h hj hs (by rw [hc]; rfl)
end
section
variable {ro : Option Nat} {P : Program} {N n b b' id : Nat} {st : St} {ops : Array Oper} {K : Exit → Nat → St → Prop}
theorem W_seqK (hd : dstsOk ops N = true) (hb : b + 16 * ops.size = b') (r : RunK P N ops b 0 st (fun _ st' => K .normal b' st')) : W ro P N n (.region id ops false) b st K := by
  obtain ⟨tr, st', r, h⟩ := r
  exact W_region r hd hb h
theorem W_anyK (hm : P.follows .mixedOrders = true) (hd : dstsOk ops N = true) (hb : b + 16 * ops.size = b') (r : RunK P N ops b 0 st (fun tr st' => chk ops tr = true ∧ K .normal b' st')) : W ro P N n (.region id ops true) b st K := by
  obtain ⟨tr, st', r, h⟩ := r
  exact W_any hm r hd h.1 hb h.2
end
section
variable {P : Program} {N b nn : Nat} {o : Oper} {st : St} (D : Tab P)
theorem T_ldE {α : Type} [Inhabited α] {enc : α → List Cell} {xs : List α} {t i sz j f : Nat} {x : Operand} {cl : Cell} {ty : TyI} {lv : LV} {upd : List (Nat × Ob)} (ho : o.op = .load t x) (hx : st.ev x = some (.e i sz j f)) (hob : (st.o.lookup i).bind Ob.rows? = some (sz, xs.map enc)) (hi : D.get t = some ty) (ha : ty.agg = false)
    (hj : j < xs.length) (hf : (enc (xs.getD j default))[f]? = some cl) (hlv : cellsLV b [cl] = [lv]) (hn : cellsN [cl] = nn) (hu : cellsOb b [cl] = upd) : T P N o b [i] st lv nn upd := by
  subst hn hu
  exact T_load_e D ho hx hob hi ha hj hf hlv
theorem T_ldEA {α : Type} [Inhabited α] {enc : α → List Cell} {xs : List α} {t i sz j f : Nat} {x : Operand} {cls : List Cell} {ty : TyI} {l : List LV} {upd : List (Nat × Ob)} (ho : o.op = .load t x) (hx : st.ev x = some (.e i sz j f)) (hob : (st.o.lookup i).bind Ob.rows? = some (sz, xs.map enc)) (hi : D.get t = some ty) (ha : ty.agg = true)
    (hj : j < xs.length) (hf : ((enc (xs.getD j default)).drop f).take ty.size = cls) (hz : cls.length = ty.size) (hlv : cellsLV b cls = l) (hn : cellsN cls = nn) (hu : cellsOb b cls = upd) : T P N o b [i] st (.agg l) nn upd := by
  subst hn hu hlv
  exact T_load_eA D ho hx hob hi ha hj hf hz
theorem T_stB {t i n : Nat} {x y : Operand} {bt : Nat} {cs l cs' : List LV} {lv : LV} {pre : List Nat} {ty : TyI} (ho : o.op = .store t x y) (hx : st.ev x = some (.p i n)) (hob : st.o.lookup i = some (.box bt cs)) (hy : st.ev y = some lv) (hf : Flat st lv l pre) (hi : D.get t = some ty) (hl : l.length = ty.size) (hn : n + l.length ≤ cs.length) (hcs : cs.take n ++ l ++ cs.drop (n + l.length) = cs') :
    T P N o b (i :: pre) st (.v undef) 0 [(i, .box bt cs')] := by
  subst hcs
  exact T_store_b D ho hx hob hy hf hi hl hn
end
section
variable {P : Program} {N b : Nat} {o : Oper} {st : St} (D : Tab P)
theorem T_fa {t k i n off sz m : Nat} {x : Operand} {ty : TyI} (ho : o.op = .fieldAddr t x k) (hx : st.ev x = some (.p i n)) (hi : D.get t = some ty) (hk : ty.fields[k]? = some (off, sz)) (hs : (sz == 0) = false) (hm : n + off = m) : T P N o b [] st (.p i m) 0 [] := by
  subst hm; exact T_fieldAddr D ho hx hi hk hs
theorem T_fae {t k i z j f off sz m : Nat} {x : Operand} {ty : TyI} (ho : o.op = .fieldAddr t x k) (hx : st.ev x = some (.e i z j f)) (hi : D.get t = some ty) (hk : ty.fields[k]? = some (off, sz)) (hs : (sz == 0) = false) (hm : f + off = m) : T P N o b [] st (.e i z j m) 0 [] := by
  subst hm; exact T_fieldAddr_e D ho hx hi hk hs
end
theorem fill_all {β : Type} {sz : Nat} : ∀ (ls : List (Nat × List β)) (s : Nat) (cells : List β), ls.map (·.1) = List.range' s ls.length → (∀ p ∈ ls, p.2.length = sz) → cells.length = (s + ls.length) * sz →
    fillL (fun i => some (i * sz, sz)) cells ls = some (cells.take (s * sz) ++ (ls.map (·.2)).flatten)
  | [], s, cells, _, _, hc => by
    simp only [List.length_nil, Nat.add_zero] at hc
    simp [fillL, ← hc]
  | (i, l) :: rest, s, cells, hi, hl, hc => by
    simp only [List.map_cons, List.length_cons, List.range'_succ, List.cons.injEq] at hi
    obtain ⟨rfl, hi⟩ := hi
    have hl0 : l.length = sz := hl (i, l) (by simp)
    have hlen : (i + (rest.length + 1)) * sz = i * sz + sz + rest.length * sz := by
      rw [Nat.add_mul, Nat.succ_mul]; omega
    simp only [List.length_cons] at hc
    rw [hlen] at hc
    have hcond : (l.length != sz || decide (i * sz + l.length > cells.length)) = false := by
      simp only [hl0, bne_self_eq_false, Bool.false_or, decide_eq_false_iff_not]
      omega
    have h1 : (cells.take (i * sz)).length = i * sz := by rw [List.length_take]; omega
    have h2 : (splice cells (i * sz) l).length = (i + 1 + rest.length) * sz := by
      have : (i + 1 + rest.length) * sz = i * sz + sz + rest.length * sz := by rw [Nat.add_mul, Nat.add_mul]; omega
      rw [this]
      unfold splice
      simp only [List.length_append, List.length_drop, h1, hl0]
      omega
    have h3 : (splice cells (i * sz) l).take ((i + 1) * sz) = cells.take (i * sz) ++ l := by
      unfold splice
      rw [List.take_append_of_le_length (by rw [List.length_append, h1, hl0, Nat.succ_mul]; exact Nat.le_refl _)]
      exact List.take_of_length_le (by rw [List.length_append, h1, hl0, Nat.succ_mul]; exact Nat.le_refl _)
    simp only [fillL, hcond, Bool.false_eq_true, if_false]
    rw [fill_all rest (i + 1) (splice cells (i * sz) l) hi (fun p hp => hl p (List.mem_cons_of_mem _ hp)) h2, h3]
    simp
section
variable {P : Program} {N b : Nat} {o : Oper} {st : St} (D : Tab P)
theorem T_bs {α : Type} {enc : α → List Cell} {ys : List α} {t n : Nat} {parts : Array (Nat × Operand)} {ls : List (Nat × List LV)} {l : List LV} {pre pre' : List Nat} {frz : List (Nat × Ob)} {ty ety : TyI} (ho : o.op = .buildSlice t n parts) (hi : D.get t = some ty) (he0 : (ty.elem == 0) = false) (he : D.get ty.elem = some ety) (hs : (ety.size == 0) = false)
    (hn : decide (n * ety.size ≤ 16777216) = true) (hp : PartsOf st parts.toList ls pre) (hk : ls.map (·.1) = List.range' 0 ls.length) (hz : (ls.all fun p => p.2.length == ety.size) = true) (hln : ls.length = n) (hl : (ls.map (·.2)).flatten = l)
    (hc : CellsOf st.o l (ys.map enc).flatten pre' frz) (hy : ys.length = n) (hez : (ys.map enc).all (fun r => r.length == ety.size) = true) :
    T P N o b (pre ++ pre') st (.r b) 1 ((b, .row ty.elem ety.size (ys.map enc)) :: frz) := by
  refine T_buildSlice D ho hi he0 he hs hn hp ?_ hc hy hez
  rw [fill_all ls 0 _ hk (fun p hp => by simpa using List.all_eq_true.1 hz p hp) (by simp [size_madeCells, hln]), hl]
  simp
end
theorem fill_step {α β : Type} [Inhabited α] (f : α → β) (d : β) (xs : List α) (j n : Nat) (hn : n = xs.length) (h : j < n) (z : β) (hz : z = f (xs.getD j default)) :
    ((xs.take j).map f ++ List.replicate (n - j) d).set j z = (xs.take (j + 1)).map f ++ List.replicate (n - (j + 1)) d := by
  subst hn hz
  have h1 : ((xs.take j).map f).length = j := by simp; omega
  have h2 : List.replicate (xs.length - j) d = d :: List.replicate (xs.length - (j + 1)) d := by
    rw [show xs.length - j = (xs.length - (j + 1)) + 1 by omega, List.replicate_succ]
  rw [h2, List.set_append_right _ _ (by omega), h1, Nat.sub_self, List.set_cons_zero, List.take_add_one, List.map_append, List.append_assoc]
  congr 1
  simp [List.getD_eq_getElem?_getD, List.getElem?_eq_getElem h]
theorem fill_skip {α β : Type} [Inhabited α] (f : α → β) (d : β) (xs : List α) (j n : Nat) (hn : n = xs.length) (h : j < n) (hz : f (xs.getD j default) = d) :
    (xs.take j).map f ++ List.replicate (n - j) d = (xs.take (j + 1)).map f ++ List.replicate (n - (j + 1)) d := by
  rw [← fill_step f d xs j n hn h d hz.symm]
  have h1 : ((xs.take j).map f).length = j := by simp; omega
  rw [show n - j = (n - (j + 1)) + 1 by omega, List.replicate_succ, List.set_append_right _ _ (by omega), h1, Nat.sub_self, List.set_cons_zero]
def isSl : Option Ob → Bool
  | some (.row ..) => true
  | some (.fz ..) => true
  | _ => false
theorem flat_sl {st : St} {i : Nat} (h : isSl (st.o.lookup i) = true) : Flat st (.r i) [.r i] [i] := by
  cases hl : st.o.lookup i with
  | none => rw [hl] at h; cases h
  | some ob =>
    rw [hl] at h
    cases ob with
    | row e sz rows => exact flat_row hl
    | fz sz rows => exact flat_fz hl
    | _ => cases h
section
variable {P : Program} {N b nn : Nat} {o : Oper} {st : St} {fop : Operand} {aa : Array Operand} {ats : Array TypeId} {f : Nat} {caps lvs cargs : List LV} {L : List (Nat × Nat)} {b0 : Nat} {oc : List (Nat × Ob)}
theorem T_callV {v : Value} (hs : Spec P f cargs b0 oc (.v v) b0 []) (hbody : (P.funcs[f]?).map (fun fn => (fn.name == "runtime.NumGoroutine" || fn.body.isNone)) = some false)
    (ho : o.op = .call { callee := .value fop, args := aa, argTypes := ats }) (hf : st.ev fop = some (.fn f caps)) (has : aa.toList.map st.ev = lvs.map some)
    (hren : LV.rens (sg 0 L) cargs = lvs ++ caps) (he : Embs st.o (sg 0 L) oc) (hok : (LV.okBs (fun c => decide (c < b0)) cargs && embB (sg 0 L) b0 oc && backB oc [] L b0 b0) = true) :
    T P N o b (oc.map fun p => sg 0 L p.1) st (.v v) 0 [] := by
  simp only [Bool.and_eq_true] at hok
  have hz : frzOf true (sg 0 L) st.o oc = [] := by
    have : ∀ l, frzOf true (sg 0 L) st.o l = [] := by
      intro l
      induction l with
      | nil => rfl
      | cons p l ih => simp [frzOf, ih]
    exact this oc
  exact T_call true hs hbody ho hf has hren he (by simp only [Bool.and_eq_true]; exact ⟨⟨⟨hok.1.1, rfl⟩, hok.1.2⟩, hok.2⟩) (.inr (fun p hp => by cases hp)) rfl (by rw [hz]; rfl) (Nat.sub_self _)
theorem T_callR {e sz : Nat} {rows : List (List Cell)} {keep : Bool} (hs : Spec P f cargs b0 oc (.r b0) (b0 + 1) [(b0, .row e sz rows)]) (hbody : (P.funcs[f]?).map (fun fn => (fn.name == "runtime.NumGoroutine" || fn.body.isNone)) = some false)
    (ho : o.op = .call { callee := .value fop, args := aa, argTypes := ats }) (hf : st.ev fop = some (.fn f caps)) (has : aa.toList.map st.ev = lvs.map some)
    (hren : LV.rens (sg 0 L) cargs = lvs ++ caps) (he : Embs st.o (sg 0 L) oc) (hok : (LV.okBs (fun c => decide (c < b0)) cargs && embB (sg 0 L) b0 oc && backB oc [(b0, .row e sz [])] L b0 (b0 + 1)) = true)
    (hfl : keep = false ∨ FlatOb (.row e sz rows)) (hz : frzOf keep (sg 0 L) st.o oc = []) :
    T P N o b (oc.map fun p => sg 0 L p.1) st (.r b) 1 [(b, .row e sz rows)] := by
  simp only [Bool.and_eq_true] at hok
  have h1 : piC (sg 0 L) b0 b b0 = b := by simp [piC]
  exact T_call keep hs hbody ho hf has hren he (by simp only [Bool.and_eq_true]; exact ⟨⟨⟨hok.1.1, by simp [LV.okB]⟩, hok.1.2⟩, by simpa [backB, Ob.okB] using hok.2⟩) (hfl.imp (fun h => h) (fun h p hp => by simp at hp; subst hp; exact h)) (by simp [LV.ren, h1]) (by rw [hz]; simp [h1, Ob.ren]) (by omega)
end
theorem SEmb.same {s : List (Nat × LV)} {σ : Nat → Nat} {p : Nat → Bool} {d : Nat} {lv : LV} {l : List (Nat × LV)} (h : s.lookup d = some (lv.ren σ)) (hp : lv.okB p = true) (t : SEmb s σ p l) : SEmb s σ p ((d, lv) :: l) := .cons h rfl hp t
theorem SEmb.eq {s : List (Nat × LV)} {σ : Nat → Nat} {p : Nat → Bool} {d : Nat} {v v' : Value} {l : List (Nat × LV)} (h : s.lookup d = some (.v v')) (t : SEmb s σ p l) (he : v' = v) : SEmb s σ p ((d, .v v) :: l) := .cons h (by rw [he]; rfl) rfl t
theorem Embs.rowE {o : List (Nat × Ob)} {σ : Nat → Nat} {c e sz : Nat} {rows rows' : List (List Cell)} {l : List (Nat × Ob)} (h : o.lookup (σ c) = some (.row e sz rows')) (t : Embs o σ l) (he : rows' = rows) : Embs o σ ((c, .row e sz rows) :: l) := .row (by rw [h, he]) t
theorem Embs.fzE {o : List (Nat × Ob)} {σ : Nat → Nat} {c sz : Nat} {rows rows' : List (List Cell)} {l : List (Nat × Ob)} (h : o.lookup (σ c) = some (.fz sz rows')) (t : Embs o σ l) (he : rows' = rows) : Embs o σ ((c, .fz sz rows) :: l) := .fz (by rw [h, he]) t
theorem Embs.lendE {o : List (Nat × Ob)} {σ : Nat → Nat} {c e sz : Nat} {rows rows' : List (List Cell)} {l : List (Nat × Ob)} (h : o.lookup (σ c) = some (.row e sz rows')) (t : Embs o σ l) (he : rows' = rows) : Embs o σ ((c, .fz sz rows) :: l) := .lend (by rw [h, he]) t
end Lg
end Go.Proofs.Ytpfhmodjjljpjaa

namespace Go.Proofs.Ytpfhmodjjljpjaa
open Go.RowKit
namespace Lg
set_option linter.unusedSimpArgs false
set_option linter.unusedVariables false
section
variable {P : Program} {N bs j nn i : Nat} {ops : Array Oper} {o : Oper} {s : List (Nat × LV)} {ob : List (Nat × Ob)} {lv : LV} {x : Ob} {pre : List Nat} {upd : List (Nat × Ob)} {C : List Tr → St → Prop}
theorem q0 (d b j' : Nat) (ho : ops[j]? = some o) (h : (o.dst, bs + 16 * j, j + 1, o.guard) = (some d, b, j', none)) (ht : T P N o b pre ⟨s, ob⟩ lv nn []) (hn : decide (nn ≤ 16) = true) (r : RunK P N ops bs j' ⟨(d, lv) :: s, ob⟩ (fun tr => C (⟨true, pre, lv, nn, []⟩ :: tr))) : RunK P N ops bs j ⟨s, ob⟩ C :=
  k_op0 ho (congrArg (·.1) h) (congrArg (·.2.1) h) (congrArg (·.2.2.1) h) (.plain (congrArg (·.2.2.2) h)) ht hn r
theorem q1 (d b j' : Nat) (ho : ops[j]? = some o) (h : (o.dst, bs + 16 * j, j + 1, o.guard) = (some d, b, j', none)) (ht : T P N o b pre ⟨s, ob⟩ lv nn [(i, x)]) (hn : decide (nn ≤ 16) = true) (r : RunK P N ops bs j' ⟨(d, lv) :: s, (i, x) :: ob⟩ (fun tr => C (⟨true, pre, lv, nn, [(i, x)]⟩ :: tr))) : RunK P N ops bs j ⟨s, ob⟩ C :=
  k_op1 ho (congrArg (·.1) h) (congrArg (·.2.1) h) (congrArg (·.2.2.1) h) (.plain (congrArg (·.2.2.2) h)) ht hn r
theorem qn (d b j' : Nat) (ho : ops[j]? = some o) (h : (o.dst, bs + 16 * j, j + 1, o.guard) = (some d, b, j', none)) (ht : T P N o b pre ⟨s, ob⟩ lv nn upd) (hn : decide (nn ≤ 16) = true) (r : RunK P N ops bs j' ⟨(d, lv) :: s, upd ++ ob⟩ (fun tr => C (⟨true, pre, lv, nn, upd⟩ :: tr))) : RunK P N ops bs j ⟨s, ob⟩ C :=
  k_opn ho (congrArg (·.1) h) (congrArg (·.2.1) h) (congrArg (·.2.2.1) h) (.plain (congrArg (·.2.2.2) h)) ht hn r
theorem s0 (b j' : Nat) (ho : ops[j]? = some o) (h : (o.dst, bs + 16 * j, j + 1, o.guard) = (none, b, j', none)) (ht : T P N o b pre ⟨s, ob⟩ lv nn []) (hn : decide (nn ≤ 16) = true) (r : RunK P N ops bs j' ⟨s, ob⟩ (fun tr => C (⟨true, pre, lv, nn, []⟩ :: tr))) : RunK P N ops bs j ⟨s, ob⟩ C :=
  k_st0 ho (congrArg (·.1) h) (congrArg (·.2.1) h) (congrArg (·.2.2.1) h) (.plain (congrArg (·.2.2.2) h)) ht hn r
theorem s1 (b j' : Nat) (ho : ops[j]? = some o) (h : (o.dst, bs + 16 * j, j + 1, o.guard) = (none, b, j', none)) (ht : T P N o b pre ⟨s, ob⟩ lv nn [(i, x)]) (hn : decide (nn ≤ 16) = true) (r : RunK P N ops bs j' ⟨s, (i, x) :: ob⟩ (fun tr => C (⟨true, pre, lv, nn, [(i, x)]⟩ :: tr))) : RunK P N ops bs j ⟨s, ob⟩ C :=
  k_st1 ho (congrArg (·.1) h) (congrArg (·.2.1) h) (congrArg (·.2.2.1) h) (.plain (congrArg (·.2.2.2) h)) ht hn r
theorem sn (b j' : Nat) (ho : ops[j]? = some o) (h : (o.dst, bs + 16 * j, j + 1, o.guard) = (none, b, j', none)) (ht : T P N o b pre ⟨s, ob⟩ lv nn upd) (hn : decide (nn ≤ 16) = true) (r : RunK P N ops bs j' ⟨s, upd ++ ob⟩ (fun tr => C (⟨true, pre, lv, nn, upd⟩ :: tr))) : RunK P N ops bs j ⟨s, ob⟩ C :=
  k_stn ho (congrArg (·.1) h) (congrArg (·.2.1) h) (congrArg (·.2.2.1) h) (.plain (congrArg (·.2.2.2) h)) ht hn r
end
theorem c_eql_t {x y : Int} (h : cmpB .eql x y = true) : x = y := by simpa [cmpB] using h
theorem c_eql_f {x y : Int} (h : cmpB .eql x y = false) : ¬ x = y := by simpa [cmpB] using h
theorem c_neq_t {x y : Int} (h : cmpB .neq x y = true) : ¬ x = y := by simpa [cmpB] using h
theorem c_neq_f {x y : Int} (h : cmpB .neq x y = false) : x = y := by simpa [cmpB] using h
theorem c_lss_t {x y : Int} (h : cmpB .lss x y = true) : x < y := by simpa [cmpB] using h
theorem c_lss_f {x y : Int} (h : cmpB .lss x y = false) : y ≤ x := by simpa [cmpB] using h
theorem c_leq_t {x y : Int} (h : cmpB .leq x y = true) : x ≤ y := by simpa [cmpB] using h
theorem c_leq_f {x y : Int} (h : cmpB .leq x y = false) : y < x := by simpa [cmpB] using h
theorem c_gtr_t {x y : Int} (h : cmpB .gtr x y = true) : x > y := by simpa [cmpB] using h
theorem c_gtr_f {x y : Int} (h : cmpB .gtr x y = false) : x ≤ y := by simpa [cmpB] using h
theorem c_geq_t {x y : Int} (h : cmpB .geq x y = true) : x ≥ y := by simpa [cmpB] using h
theorem c_geq_f {x y : Int} (h : cmpB .geq x y = false) : x < y := by simpa [cmpB] using h
end Lg
end Go.Proofs.Ytpfhmodjjljpjaa

namespace Go.Proofs.Ytpfhmodjjljpjaa
open Go.RowKit
namespace Lg
set_option linter.unusedSimpArgs false
set_option linter.unusedVariables false
section
variable {P : Program} {d : Nat} {xs ys : Array Value} {f : Field} {fs : List Field} {a b : Value} {r s : Bool} {w : World}
theorem eqf_nil : (Op.eqFields d xs ys []).run P w = .ok true w := by simp [Op.eqFields]
theorem eqf_cons (hn : (f.name == "_") = false) (ha : (part f.type xs f.offset).run P w = .ok a w) (hb : (part f.type ys f.offset).run P w = .ok b w) (he : (Op.equalIn d f.type a b).run P w = .ok r w) (hr : (Op.eqFields d xs ys fs).run P w = .ok s w) : (Op.eqFields d xs ys (f :: fs)).run P w = .ok (r && s) w := by
  have hn' : f.name ≠ "_" := by simpa using hn
  rw [Op.eqFields]
  simp only [if_pos hn', Sem.run_bind, ha, hb, he, Result.andThen_ok]
  cases r
  · simp
  · simpa using hr
theorem eqA_of {t : TypeId} {fs : Array Field} (hu : P.underlying t = some (.struct fs)) (hp : P.stoodInHeld t = false) (h : (Op.eqFields d xs ys fs.toList).run P w = .ok r w) : (Op.equalIn (d + 1) t (.agg xs) (.agg ys)).run P w = .ok r w := by
  have hf : P.fieldsOf t = fs := by simp [Program.fieldsOf, hu]
  rw [run_equalIn_struct (P := P) w d t xs ys (by rw [hf]; exact hu) hp, hf]
  exact h
end
def tacV (t : GTac) : Array Value := #[.int .i64 t.op, .int .i64 t.d, .int .i64 t.a, .int .i64 t.b, .int .i64 t.k, .int .i64 t.base, .int .i64 t.size, .int .u32 t.n]
theorem eqTac_run (d : Nat) (w : World) (x y : GTac) : (Op.equalIn (d + 2) 70 (.agg (tacV x)) (.agg (tacV y))).run Try.prog w = .ok (x.op == y.op && (x.d == y.d && (x.a == y.a && (x.b == y.b && (x.k == y.k && (x.base == y.base && (x.size == y.size && (x.n == y.n && true)))))))) w := by
  unfold tacV
  refine eqA_of Try.underlying70 (by kernel_rfl) ?_
  refine eqf_cons (by rfl) (by go_simp; rfl) (by go_simp; rfl) (by go_simp) ?_
  refine eqf_cons (by rfl) (by go_simp; rfl) (by go_simp; rfl) (by go_simp) ?_
  refine eqf_cons (by rfl) (by go_simp; rfl) (by go_simp; rfl) (by go_simp) ?_
  refine eqf_cons (by rfl) (by go_simp; rfl) (by go_simp; rfl) (by go_simp) ?_
  refine eqf_cons (by rfl) (by go_simp; rfl) (by go_simp; rfl) (by go_simp) ?_
  refine eqf_cons (by rfl) (by go_simp; rfl) (by go_simp; rfl) (by go_simp) ?_
  refine eqf_cons (by rfl) (by go_simp; rfl) (by go_simp; rfl) (by go_simp) ?_
  exact eqf_cons (by rfl) (by go_simp; rfl) (by go_simp; rfl) (by go_simp) eqf_nil
theorem eqTac_b (x y : GTac) : (x.op == y.op && (x.d == y.d && (x.a == y.a && (x.b == y.b && (x.k == y.k && (x.base == y.base && (x.size == y.size && (x.n == y.n && true)))))))) = decide (x = y) := by
  obtain ⟨a, b, c, d, e, f, g, h⟩ := x
  obtain ⟨a', b', c', d', e', f', g', h'⟩ := y
  simp only [GTac.mk.injEq, Bool.and_true]
  by_cases h1 : a = a' <;> by_cases h2 : b = b' <;> by_cases h3 : c = c' <;> by_cases h4 : d = d' <;> by_cases h5 : e = e' <;> by_cases h6 : f = f' <;> by_cases h7 : g = g' <;> by_cases h8 : h = h' <;> simp [h1, h2, h3, h4, h5, h6, h7, h8]
def lvTac (t : GTac) : LV := .agg [.v (.int .i64 t.op), .v (.int .i64 t.d), .v (.int .i64 t.a), .v (.int .i64 t.b), .v (.int .i64 t.k), .v (.int .i64 t.base), .v (.int .i64 t.size), .v (.int .u32 t.n)]
theorem T_pure2 {P : Program} {N b : Nat} {o : Oper} {st : St} {x y : Operand} {op : BinOp} {t t' : TypeId} {lx ly : LV} {v : Value} (ho : o.op = .binOp op t x y t') (hx : st.ev x = some lx) (hy : st.ev y = some ly)
    (h : ∀ (ρ : Nat → Value) w, (do eqGuard op t x y (lx.val ρ) (ly.val ρ); binOp op t (lx.val ρ) (ly.val ρ) : Sem Value).run P w = .ok v w) : T P N o b [] st (.v v) 0 [] :=
  T_pure (fun ρ ev w hev => by
    have h1 := hev x _ (by simp [ho, Op.operands]) hx
    have h2 := hev y _ (by simp [ho, Op.operands]) hy
    have h3 := h ρ w
    simp only [execOp, ho, h1, h2]
    rw [Sem.run_bind, h3]
    rfl) (fun U ρ hU => trivial)
section
variable {N b : Nat} {o : Oper} {st : St}
theorem T_eqTac {x y : Operand} (u v : GTac) {t' : TypeId} (ho : o.op = .binOp .eql 70 x y t') (hx : st.ev x = some (lvTac u)) (hy : st.ev y = some (lvTac v)) : T Try.prog N o b [] st (.v (.bool (decide (u = v)))) 0 [] :=
  T_pure2 ho hx hy (fun ρ w => by
    show (do eqGuard .eql 70 x y (.agg (tacV u)) (.agg (tacV v)); binOp .eql 70 (.agg (tacV u)) (.agg (tacV v)) : Sem Value).run Try.prog w = _
    rw [Sem.run_bind, run_eqGuard_agg _ _ _ _ _ _ _ (by kernel_rfl), Result.andThen_ok, run_eql_struct, eqTac_run, eqTac_b]
    rfl)
theorem T_eqTacN {x y : Operand} (u v : GTac) {t' : TypeId} (ho : o.op = .binOp .neq 70 x y t') (hx : st.ev x = some (lvTac u)) (hy : st.ev y = some (lvTac v)) : T Try.prog N o b [] st (.v (.bool (!decide (u = v)))) 0 [] :=
  T_pure2 ho hx hy (fun ρ w => by
    show (do eqGuard .neq 70 x y (.agg (tacV u)) (.agg (tacV v)); binOp .neq 70 (.agg (tacV u)) (.agg (tacV v)) : Sem Value).run Try.prog w = _
    rw [Sem.run_bind, run_eqGuard_agg _ _ _ _ _ _ _ (by kernel_rfl), Result.andThen_ok, run_neq_struct, eqTac_run, eqTac_b]
    rfl)
theorem T_eqB {x y : Operand} {m n : Bool} {t' : TypeId} (ho : o.op = .binOp .eql 4 x y t') (hx : st.ev x = some (.v (.bool m))) (hy : st.ev y = some (.v (.bool n))) : T Try.prog N o b [] st (.v (.bool (m == n))) 0 [] :=
  T_bin ho hx hy (fun w => by
    have h := run_equalIn_bool' (P := Try.prog) w 9999 4 m n (by kernel_rfl)
    simp [eqGuard, binOp, Op.equal, Op.maxDepth, h, bne])
theorem T_eqBN {x y : Operand} {m n : Bool} {t' : TypeId} (ho : o.op = .binOp .neq 4 x y t') (hx : st.ev x = some (.v (.bool m))) (hy : st.ev y = some (.v (.bool n))) : T Try.prog N o b [] st (.v (.bool (m != n))) 0 [] :=
  T_bin ho hx hy (fun w => by
    have h := run_equalIn_bool' (P := Try.prog) w 9999 4 m n (by kernel_rfl)
    simp [eqGuard, binOp, Op.equal, Op.maxDepth, h, bne])
end
end Lg
end Go.Proofs.Ytpfhmodjjljpjaa

namespace Go.Proofs.Ytpfhmodjjljpjaa
open Go.RowKit
namespace Lg
set_option linter.unusedSimpArgs false
set_option linter.unusedVariables false
theorem ext_getD {α : Type} [Inhabited α] {a b : List α} (hl : a.length = b.length) (h : ∀ i, i < a.length → a.getD i default = b.getD i default) : a = b := by
  refine List.ext_getElem? (fun i => ?_)
  by_cases hi : i < a.length
  · have := h i hi
    simp only [List.getD_eq_getElem?_getD, List.getElem?_eq_getElem hi, List.getElem?_eq_getElem (show i < b.length by omega), Option.getD_some] at this
    rw [List.getElem?_eq_getElem hi, List.getElem?_eq_getElem (show i < b.length by omega), this]
  · rw [List.getElem?_eq_none (by omega), List.getElem?_eq_none (by omega)]
theorem ne_of_getD {α : Type} [Inhabited α] {a b : List α} {i : Nat} (h : ¬ a.getD i default = b.getD i default) : ¬ a = b := fun e => h (by rw [e])
theorem ne_of_len {α : Type} {a b : List α} (h : ¬ (a.length : Int) = (b.length : Int)) : ¬ a = b := fun e => h (by rw [e])
theorem getD_mem {α : Type} [Inhabited α] {a : List α} {i : Nat} (h : i < a.length) : a.getD i default ∈ a := by
  rw [List.getD_eq_getElem?_getD, List.getElem?_eq_getElem h]
  exact List.getElem_mem h
theorem all_iff_getD {α : Type} [Inhabited α] {a : List α} {p : α → Bool} : a.all p = true ↔ ∀ i, i < a.length → p (a.getD i default) = true := by
  rw [List.all_eq_true]
  constructor
  · exact fun h i hi => h _ (getD_mem hi)
  · intro h x hx
    obtain ⟨i, hi, rfl⟩ := List.mem_iff_getElem.1 hx
    have := h i hi
    simpa [List.getD_eq_getElem?_getD, List.getElem?_eq_getElem hi] using this
theorem take_succ_getD {α : Type} [Inhabited α] {a : List α} {i : Nat} (h : i < a.length) : a.take (i + 1) = a.take i ++ [a.getD i default] := by
  rw [List.take_add_one, List.getD_eq_getElem?_getD, List.getElem?_eq_getElem h]
  rfl
def leads (ps : List (List Int)) (n old : Int) : Bool := decide (0 ≤ n) && decide (n < ps.length) && ((ps.getD n.toNat default).getD 0 default == old)
def sumLen {α : Type} (l : List (List α)) : Nat := (l.map List.length).sum
theorem sumLen_take {α : Type} (l : List (List α)) (j : Nat) (h : j < l.length) : sumLen (l.take (j + 1)) = sumLen (l.take j) + (l.getD j default).length := by
  rw [take_succ_getD h]
  simp [sumLen]
theorem sumLen_take_le {α : Type} (l : List (List α)) (j : Nat) : sumLen (l.take j) ≤ sumLen l := by
  have h := congrArg sumLen (List.take_append_drop j l)
  have h2 : sumLen (l.take j ++ l.drop j) = sumLen (l.take j) + sumLen (l.drop j) := by simp only [sumLen, List.map_append, List.sum_append]
  omega
def insOf (f : GFn) : List (List GTac) := f.blocks.map (·.ins)
def few (f : GFn) (blocks most : Int) : Bool := decide ((f.blocks.length : Int) ≤ blocks) && decide ((sumLen (insOf f) : Int) ≤ most)
def outside (f : GFn) (k : Int) : Bool := decide (k < 0) || decide (k ≥ (f.blocks.length : Int))
def fstIdx {α : Type} (q : α → Bool) (p : List α) : Int := match p.findIdx? q with | some i => (i : Int) | none => -1
theorem fstIdx_hit {α : Type} [Inhabited α] (q : α → Bool) (p : List α) {j : Nat} (hj : j < p.length) (h : q (p.getD j default) = true) (hb : ∀ i, i < j → q (p.getD i default) = false) : fstIdx q p = (j : Int) := by
  have : p.findIdx? q = some j := by
    rw [List.findIdx?_eq_some_iff_getElem]
    refine ⟨hj, by simpa [List.getD_eq_getElem?_getD, List.getElem?_eq_getElem hj] using h, fun i hi => ?_⟩
    have := hb i hi
    simpa [List.getD_eq_getElem?_getD, List.getElem?_eq_getElem (show i < p.length by omega)] using this
  simp [fstIdx, this]
theorem fstIdx_none {α : Type} [Inhabited α] (q : α → Bool) (p : List α) (hb : ∀ i, i < p.length → q (p.getD i default) = false) : fstIdx q p = -1 := by
  have : p.findIdx? q = none := by
    rw [List.findIdx?_eq_none_iff]
    intro x hx
    obtain ⟨i, hi, rfl⟩ := List.mem_iff_getElem.1 hx
    have := hb i hi
    simpa [List.getD_eq_getElem?_getD, List.getElem?_eq_getElem hi] using this
  simp [fstIdx, this]
theorem fstIdx_any {α : Type} (q : α → Bool) (p : List α) : decide (fstIdx q p ≥ 0) = p.any q := by
  unfold fstIdx
  cases h : p.findIdx? q with
  | none =>
    rw [List.findIdx?_eq_none_iff] at h
    have : p.any q = false := by rw [List.any_eq_false]; exact fun x hx => by simp [h x hx]
    rw [this]; rfl
  | some i =>
    obtain ⟨hi, h1, _⟩ := List.findIdx?_eq_some_iff_getElem.1 h
    have : p.any q = true := List.any_eq_true.2 ⟨_, List.getElem_mem hi, h1⟩
    rw [this]; simp
def instrs (f : GFn) (p : List Int) : List GTac := (p.map fun k => (f.blocks.getD k.toNat default).ins).flatten
theorem instrs_take (f : GFn) (p : List Int) (j : Nat) (h : j < p.length) : instrs f (p.take (j + 1)) = instrs f (p.take j) ++ (f.blocks.getD (p.getD j default).toNat default).ins := by
  rw [take_succ_getD h]
  simp [instrs]
theorem range_all_true {n : Nat} {q : Nat → Bool} (h : ∀ i, i < n → q i = true) : (List.range n).all q = true := List.all_eq_true.2 (fun i hi => h i (by simpa using hi))
theorem range_all_false {n : Nat} {q : Nat → Bool} {i : Nat} (hi : i < n) (h : q i = false) : (List.range n).all q = false := by
  rw [List.all_eq_false]
  exact ⟨i, by simpa using hi, by simp [h]⟩
def blk (f : GFn) (k : Int) : GBlock := f.blocks.getD k.toNat default
def link (f : GFn) (p : List Int) (i : Nat) : Bool := (blk f (p.getD i default)).fin == 1 && (blk f (p.getD i default)).to == p.getD (i + 1) default
def chainB (f : GFn) (p : List Int) : Bool := (List.range (p.length - 1)).all (link f p)
def lastOf (p : List Int) : Int := p.getD ((p.length : Int) - 1).toNat default
def made (f : GFn) (b : GBlock) (p : List Int) (ps : List (List Int)) : Bool :=
  chainB f p && decide (b.ins = instrs f p) && b.fin == (blk f (lastOf p)).fin && b.v == (blk f (lastOf p)).v &&
  (if (blk f (lastOf p)).fin = 1 then leads ps b.to (blk f (lastOf p)).to && b.els == (blk f (lastOf p)).els
   else if (blk f (lastOf p)).fin = 2 then leads ps b.to (blk f (lastOf p)).to && leads ps b.els (blk f (lastOf p)).els
   else b.to == (blk f (lastOf p)).to && b.els == (blk f (lastOf p)).els)
theorem chain_t {f : GFn} {p : List Int} {j : Nat} (h : ∀ i, i < j → link f p i = true) (hj : p.length - 1 ≤ j) : chainB f p = true := range_all_true (fun i hi => h i (by omega))
theorem made_f {f : GFn} {b : GBlock} {p : List Int} {ps : List (List Int)} {i : Nat} (hi : i < p.length - 1) (h : link f p i = false) : made f b p ps = false := by
  have : chainB f p = false := range_all_false hi h
  simp [made, this]
def okPath (f : GFn) (p : List Int) : Bool := !decide (p.length = 0) && !p.any (outside f)
theorem okPath_t {f : GFn} {p : List Int} (h1 : 1 ≤ p.length) (h2 : p.any (outside f) = false) : okPath f p = true := by simp only [okPath, h2, decide_eq_false (show ¬ p.length = 0 by omega)]; rfl
theorem okPath_len {f : GFn} {p : List Int} (h : okPath f p = true) : 1 ≤ p.length := by
  simp only [okPath, Bool.and_eq_true, Bool.not_eq_true', decide_eq_false_iff_not] at h; omega
theorem okPath_in {f : GFn} {p : List Int} (h : okPath f p = true) (i : Nat) (hi : i < p.length) : 0 ≤ p.getD i default ∧ p.getD i default < (f.blocks.length : Int) := by
  simp only [okPath, Bool.and_eq_true, Bool.not_eq_true', List.any_eq_false] at h
  have := h.2 _ (getD_mem hi)
  simp only [outside, Bool.or_eq_true, decide_eq_true_eq, not_or] at this
  omega
theorem all_false_at {α : Type} [Inhabited α] {q : α → Bool} {l : List α} {i : Nat} (hi : i < l.length) (h : q (l.getD i default) = false) : l.all q = false := by
  rw [List.all_eq_false]
  exact ⟨_, getD_mem hi, by rw [h]; exact Bool.false_ne_true⟩
def tcheck (old new : GFn) (ps : List (List Int)) : Bool :=
  if ¬ (ps.length : Int) = (new.blocks.length : Int) ∨ (ps.length : Int) = 0 ∨ ¬ old.regs = new.regs then false
  else if ps.all (okPath old) = false then false
  else if ¬ (ps.getD 0 default).getD 0 default = 0 then false
  else (List.range ps.length).all fun i => made old (new.blocks.getD i default) (ps.getD i default) ps
end Lg
end Go.Proofs.Ytpfhmodjjljpjaa

namespace Go.Proofs.Ytpfhmodjjljpjaa
open Go.RowKit
namespace Lg
set_option maxRecDepth 100000
set_option linter.unusedVariables false
set_option linter.unusedSimpArgs false
theorem body90 : (Try.prog.funcs[90]?).map (fun fn => (fn.name == "runtime.NumGoroutine" || fn.body.isNone)) = some false := by kernel_rfl
theorem next_spec (f : GFn) (hf : f.blocks.length ≤ 1000000) : Spec Try.prog 90 [.agg [.v (.int .i64 f.regs), .r 1]] 2 [(1, .fz 5 (f.blocks.map eBlock))] (.r 2) 3 [(2, .row 52 1 ((f.blocks.map follows).map eIs))] := by
 refine spec_of D (fn := Try.f90) rfl rfl (Nat.le_of_ble_eq_true rfl) ?_
 refine W_seq ?_
 refine W_seqK (b' := 34) rfl rfl ?_
 refine q1 1 2 1 rfl rfl (T_box rfl rfl flat_agg) rfl ?_
 refine q1 2 18 2 rfl rfl (T_nils [(52, 1)] (T_assign rfl rfl) rfl (.inr ⟨rfl, rfl⟩) (.cons (.nil rfl) .nil) (lv' := .r 18) (upd' := [(18, .row 52 1 (List.map eIs ([] : List (List Int))))]) (nn' := 1) rfl rfl) rfl ?_
 refine k_done rfl ?_
 refine thenK_n ?_
 refine W_seq ?_
 refine W_seqK (b' := 114) rfl rfl ?_
 refine q0 6 34 1 rfl rfl (T_fa D (m := 1) rfl rfl rfl rfl rfl rfl) rfl ?_
 refine q0 7 50 2 rfl rfl (T_load_b D rfl rfl rfl rfl rfl rfl) rfl ?_
 refine q0 8 66 3 rfl rfl (T_len D rfl rfl rfl rfl rfl rfl) rfl ?_
 refine q1 9 82 4 rfl rfl (T_make D (zx := ([] : List Int)) (enc := eIs) rfl rfl rfl rfl rfl rfl rfl (.z (.nil)) rfl (by (try simp only [ty52]); first | assumption | omega | (simp; omega)) (by (try simp only [ty52]); first | assumption | omega | (simp; omega))) rfl ?_
 refine q0 3 98 5 rfl rfl (T_assign rfl rfl) rfl ?_
 refine k_done rfl ?_
 refine thenK_n ?_
 refine W_seq ?_
 refine W_seq ?_
 refine W_seqK (b' := 178) rfl rfl ?_
 refine q0 10 114 1 rfl rfl (T_fa D (m := 1) rfl rfl rfl rfl rfl rfl) rfl ?_
 refine q0 11 130 2 rfl rfl (T_load_b D rfl rfl rfl rfl rfl rfl) rfl ?_
 refine q0 12 146 3 rfl rfl (T_len D rfl rfl rfl rfl rfl rfl) rfl ?_
 refine q0 13 162 4 rfl rfl (T_move rfl rfl) rfl ?_
 refine k_done rfl ?_
 refine thenK_n ?_
 refine W_block ?_
 refine W_loop (ι := Nat) 3 (fun j => ⟨[(3, .r 2), (11, .r 1), (12, .v (.int .i64 (f.blocks.length : Int))), (13, .v (.int .i64 (j : Int)))], [(1, .fz 5 (f.blocks.map eBlock)), (2, .row 52 1 (((f.blocks.take j).map follows ++ List.replicate (f.blocks.length - j) []).map eIs))]⟩) (fun j => j ≤ f.blocks.length) (fun j => f.blocks.length - j) (0) (by exact Nat.zero_le _) ?_ (fun j hJ => ?_)
 ·exact ⟨[(2, 82)], .same rfl rfl (.same rfl rfl (.eq rfl (.eq rfl (.nil) (by first | rfl | simp)) (by first | rfl | simp))), .fzE rfl (.rowE rfl (.nil) (by first | rfl | simp)) (by first | rfl | simp), rfl⟩
 refine W_seq ?_
 refine W_seqK (b' := 19) rfl rfl ?_
 refine q0 14 3 1 rfl rfl (T_cmp rfl rfl rfl rfl) rfl ?_
 refine k_done rfl ?_
 refine thenK_n ?_
 refine W_seq ?_
 refine W_cond rfl (fun g1 => ?_) (fun g1 => ?_)
 ·have h1 := c_lss_t g1
  refine W_skip ?_
  refine thenK_n ?_
  refine W_seq ?_
  refine W_block ?_
  refine W_seq ?_
  refine W_seqK (b' := 115) rfl rfl ?_
  refine q0 15 19 1 rfl rfl (T_move rfl rfl) rfl ?_
  first | refine q0 16 35 2 rfl rfl (T_indexAddr D rfl rfl rfl rfl rfl rfl rfl rfl (by first | assumption | omega | (simp; omega))) rfl ?_ | refine q0 16 35 2 rfl rfl (T_indexAddrZ D rfl rfl rfl rfl rfl rfl rfl rfl (by first | assumption | omega | (simp; omega)) (by first | assumption | omega | (simp; omega))) rfl ?_
  refine q1 17 51 3 rfl rfl (T_ldEA D (l := [.r 51, .v _, .v _, .v _, .v _]) (nn := 1) (upd := [(51, .fz 8 _)]) rfl rfl rfl rfl rfl (by first | assumption | omega | (simp; omega)) rfl rfl rfl rfl rfl) rfl ?_
  refine qn 5 67 4 rfl rfl (T_nilbox [(70, 8)] (T_alloc D rfl rfl rfl) rfl (.cons (.nil rfl) <| .cons (.same _) <| .cons (.same _) <| .cons (.same _) <| .cons (.same _) <| .nil) (upd' := [(67, .box 72 [.r 68, .v (.int .i64 0), .v (.int .i64 0), .v (.int .i64 0), .v (.int .i64 0)]), (68, .row 70 8 (List.map eTac ([] : List (GTac))))]) (nn' := 2) rfl rfl) rfl ?_
  refine q0 4 83 5 rfl rfl (T_assign rfl rfl) rfl ?_
  refine s1 99 6 rfl rfl (T_stB D (cs' := [_, _, _, _, _]) rfl rfl rfl rfl flat_agg rfl rfl (Nat.le_of_ble_eq_true rfl) rfl) rfl ?_
  refine k_done rfl ?_
  refine thenK_n ?_
  refine W_seq ?_
  refine W_seqK (b' := 147) rfl rfl ?_
  refine q0 18 115 1 rfl rfl (T_fa D (m := 1) rfl rfl rfl rfl rfl rfl) rfl ?_
  refine q0 19 131 2 rfl rfl (T_load_b D rfl rfl rfl rfl rfl rfl) rfl ?_
  refine k_done rfl ?_
  refine thenK_n ?_
  refine W_block ?_
  refine W_seq ?_
  refine W_seqK (b' := 179) rfl rfl ?_
  refine q0 21 147 1 rfl rfl (T_cmp rfl rfl rfl rfl) rfl ?_
  refine q0 20 163 2 rfl rfl (T_assign rfl rfl) rfl ?_
  refine k_done rfl ?_
  refine thenK_n ?_
  refine W_cond rfl (fun g2 => ?_) (fun g2 => ?_)
  ·have h2 := c_eql_t g2
   refine W_seqK (b' := 291) rfl rfl ?_
   refine q0 22 179 1 rfl rfl (T_move rfl rfl) rfl ?_
   refine q0 23 195 2 rfl rfl (T_move rfl rfl) rfl ?_
   refine q0 24 211 3 rfl rfl (T_fa D (m := 3) rfl rfl rfl rfl rfl rfl) rfl ?_
   refine q0 25 227 4 rfl rfl (T_load_b D rfl rfl rfl rfl rfl rfl) rfl ?_
   refine q1 26 243 5 rfl rfl (T_bs D (ys := [_]) (enc := eI) (l := [_]) rfl rfl rfl rfl rfl rfl (.cons rfl (flat_v rfl) (.nil)) rfl rfl rfl rfl (.v rfl (.nil)) rfl rfl) rfl ?_
   first | refine q0 27 259 6 rfl rfl (T_indexAddr D rfl rfl rfl rfl rfl rfl rfl rfl (by first | assumption | omega | (simp; omega))) rfl ?_ | refine q0 27 259 6 rfl rfl (T_indexAddrZ D rfl rfl rfl rfl rfl rfl rfl rfl (by first | assumption | omega | (simp; omega)) (by first | assumption | omega | (simp; omega))) rfl ?_
   refine sn 275 7 rfl rfl (T_store_e D (z := _) rfl rfl rfl rfl (flat_sl rfl) rfl rfl (by first | assumption | omega | (simp; omega)) (.row rfl (.nil) rfl) rfl (Nat.le_of_ble_eq_true rfl) rfl) rfl ?_
   refine k_done rfl ?_
   refine blockK_n ?_
   refine blockK_n ?_
   refine thenK_n ?_
   refine W_seqK (b' := 323) rfl rfl ?_
   refine q0 38 291 1 rfl rfl (T_add64 rfl rfl rfl (by first | assumption | omega | (simp; omega))) rfl ?_
   refine q0 13 307 2 rfl rfl (T_move rfl rfl) rfl ?_
   refine k_done rfl ?_
   refine thenK_n ?_
   refine ⟨j + 1, by (try dsimp only); omega, by (try dsimp only); omega, ?_⟩
   exact ⟨[(2, 2)], .same rfl rfl (.same rfl rfl (.eq rfl (.eq rfl (.nil) (by first | rfl | exact congrArg _ (fill_step follows [] f.blocks j _ rfl (by omega) _ (by simp_all [follows])))) rfl)), .fzE rfl (.rowE rfl (.nil) (by first | rfl | exact congrArg _ (fill_step follows [] f.blocks j _ rfl (by omega) _ (by simp_all [follows])))) rfl, rfl⟩
  ·have h2 := c_eql_f g2
   refine W_seq ?_
   refine W_seqK (b' := 211) rfl rfl ?_
   refine q0 29 179 1 rfl rfl (T_cmp rfl rfl rfl rfl) rfl ?_
   refine q0 28 195 2 rfl rfl (T_assign rfl rfl) rfl ?_
   refine k_done rfl ?_
   refine thenK_n ?_
   refine W_cond rfl (fun g3 => ?_) (fun g3 => ?_)
   ·have h3 := c_eql_t g3
    refine W_seqK (b' := 355) rfl rfl ?_
    refine q0 30 211 1 rfl rfl (T_move rfl rfl) rfl ?_
    refine q0 31 227 2 rfl rfl (T_move rfl rfl) rfl ?_
    refine q0 32 243 3 rfl rfl (T_fa D (m := 3) rfl rfl rfl rfl rfl rfl) rfl ?_
    refine q0 33 259 4 rfl rfl (T_load_b D rfl rfl rfl rfl rfl rfl) rfl ?_
    refine q0 34 275 5 rfl rfl (T_fa D (m := 4) rfl rfl rfl rfl rfl rfl) rfl ?_
    refine q0 35 291 6 rfl rfl (T_load_b D rfl rfl rfl rfl rfl rfl) rfl ?_
    refine q1 36 307 7 rfl rfl (T_bs D (ys := [_, _]) (enc := eI) (l := [_, _]) rfl rfl rfl rfl rfl rfl (.cons rfl (flat_v rfl) (.cons rfl (flat_v rfl) (.nil))) rfl rfl rfl rfl (.v rfl (.v rfl (.nil))) rfl rfl) rfl ?_
    first | refine q0 37 323 8 rfl rfl (T_indexAddr D rfl rfl rfl rfl rfl rfl rfl rfl (by first | assumption | omega | (simp; omega))) rfl ?_ | refine q0 37 323 8 rfl rfl (T_indexAddrZ D rfl rfl rfl rfl rfl rfl rfl rfl (by first | assumption | omega | (simp; omega)) (by first | assumption | omega | (simp; omega))) rfl ?_
    refine sn 339 9 rfl rfl (T_store_e D (z := _) rfl rfl rfl rfl (flat_sl rfl) rfl rfl (by first | assumption | omega | (simp; omega)) (.row rfl (.nil) rfl) rfl (Nat.le_of_ble_eq_true rfl) rfl) rfl ?_
    refine k_done rfl ?_
    refine blockK_n ?_
    refine blockK_n ?_
    refine thenK_n ?_
    refine W_seqK (b' := 387) rfl rfl ?_
    refine q0 38 355 1 rfl rfl (T_add64 rfl rfl rfl (by first | assumption | omega | (simp; omega))) rfl ?_
    refine q0 13 371 2 rfl rfl (T_move rfl rfl) rfl ?_
    refine k_done rfl ?_
    refine thenK_n ?_
    refine ⟨j + 1, by (try dsimp only); omega, by (try dsimp only); omega, ?_⟩
    exact ⟨[(2, 2)], .same rfl rfl (.same rfl rfl (.eq rfl (.eq rfl (.nil) (by first | rfl | exact congrArg _ (fill_step follows [] f.blocks j _ rfl (by omega) _ (by simp_all [follows])))) rfl)), .fzE rfl (.rowE rfl (.nil) (by first | rfl | exact congrArg _ (fill_step follows [] f.blocks j _ rfl (by omega) _ (by simp_all [follows])))) rfl, rfl⟩
   ·have h3 := c_eql_f g3
    refine W_skip ?_
    refine blockK_n ?_
    refine blockK_n ?_
    refine thenK_n ?_
    refine W_seqK (b' := 243) rfl rfl ?_
    refine q0 38 211 1 rfl rfl (T_add64 rfl rfl rfl (by first | assumption | omega | (simp; omega))) rfl ?_
    refine q0 13 227 2 rfl rfl (T_move rfl rfl) rfl ?_
    refine k_done rfl ?_
    refine thenK_n ?_
    refine ⟨j + 1, by (try dsimp only); omega, by (try dsimp only); omega, ?_⟩
    exact ⟨[(2, 2)], .same rfl rfl (.same rfl rfl (.eq rfl (.eq rfl (.nil) (by first | rfl | exact congrArg _ (fill_skip follows [] f.blocks j _ rfl (by omega) (by simp_all [follows])))) rfl)), .fzE rfl (.rowE rfl (.nil) (by first | rfl | exact congrArg _ (fill_skip follows [] f.blocks j _ rfl (by omega) (by simp_all [follows])))) rfl, rfl⟩
 ·have h1 := c_lss_f g1
  refine W_exit ?_
  refine thenK_e ?_
  refine thenK_e ?_
  refine blockK_hit ?_
  refine thenK_n ?_
  refine W_seq ?_
  refine W_seqK (b' := 51) rfl rfl ?_
  refine q0 39 19 1 rfl rfl (T_move rfl rfl) rfl ?_
  refine q0 2 35 2 rfl rfl (T_assign rfl rfl) rfl ?_
  refine k_done rfl ?_
  refine thenK_n ?_
  refine W_ret ?_
  exact .mk [(2, 2)] (.inr rfl) (.tmp rfl (.nil)) rfl (.rowE rfl (.nil) (by first | rfl | (have : j = f.blocks.length := by omega); subst this; simp)) rfl
end Lg
end Go.Proofs.Ytpfhmodjjljpjaa

namespace Go.Proofs.Ytpfhmodjjljpjaa
open Go.RowKit
namespace Lg
def FnOk (f : GFn) : Prop := f.blocks.length ≤ 140737488351232 ∧ ∀ b ∈ f.blocks, b.ins.length ≤ 140737488351232
def PsOk (ps : List (List Int)) : Prop := ps.length ≤ 140737488351232 ∧ ∀ p ∈ ps, p.length ≤ 140737488351232
theorem flat_eB {e : Nat} (l : List Bool) : FlatOb (.row e 1 (l.map eB)) := fun r hr cl hc => by
  obtain ⟨x, _, rfl⟩ := List.mem_map.1 hr
  simp [eB] at hc
  exact ⟨_, hc⟩
theorem flat_eI {e : Nat} (l : List Int) : FlatOb (.row e 1 (l.map eI)) := fun r hr cl hc => by
  obtain ⟨x, _, rfl⟩ := List.mem_map.1 hr
  simp [eI] at hc
  exact ⟨_, hc⟩
theorem mem_getD {α : Type} [Inhabited α] {p : List α} {x : α} (h : x ∈ p) : ∃ i, i < p.length ∧ p.getD i default = x := by
  obtain ⟨i, hi, e⟩ := List.mem_iff_getElem.1 h
  exact ⟨i, hi, by rw [List.getD_eq_getElem?_getD, List.getElem?_eq_getElem hi, e]; rfl⟩
def nextL (f : GFn) : List (List Int) := f.blocks.map follows
theorem nextL_length (f : GFn) : (nextL f).length = f.blocks.length := by simp [nextL]
theorem nextL_getD (f : GFn) (i : Nat) : (nextL f).getD i default = follows (f.blocks.getD i default) := by
  unfold nextL
  rw [List.getD_eq_getElem?_getD, List.getElem?_map, List.getD_eq_getElem?_getD]
  cases f.blocks[i]? with
  | none => rfl
  | some b => rfl
theorem follows_le (f : GFn) : ∀ l ∈ nextL f, l.length ≤ 2 := fun l hl => by
  obtain ⟨b, _, rfl⟩ := List.mem_map.1 hl
  unfold follows
  split
  · simp
  · split <;> simp
end Lg
end Go.Proofs.Ytpfhmodjjljpjaa

namespace Go.Proofs.Ytpfhmodjjljpjaa
open Go.RowKit
namespace Lg
theorem fnOk {f : GFn} (h : WFn f) : FnOk f := ⟨by have := h.len; omega, fun b hb => by have := (h.each b hb).len; omega⟩
theorem psOk {l : List (List Int)} (h : WIss l) : PsOk l := ⟨by have := h.len; omega, fun p hp => by have := (h.each p hp).len; omega⟩
end Lg
end Go.Proofs.Ytpfhmodjjljpjaa

namespace Go.Proofs.Ytpfhmodjjljpjaa
open Go.ChangeShapes Go.WideShapes Go.ChangeAt Go.RowKit
namespace Lg
set_option maxRecDepth 100000
theorem one_int (k : IntKind) (x : Int) : (Value.int k x).oneCell' = true := rfl
structure GTwo where
  a : GFn
  b : GFn
  c : GFn
  p : List (List Int)
  q : List (List Int)
structure WTwo (x : GTwo) : Prop where
  a : WFn x.a
  b : WFn x.b
  c : WFn x.c
  p : WIss x.p
  q : WIss x.q
def eTwo (x : GTwo) : List Cell := eFn x.a ++ (eFn x.b ++ (eFn x.c ++ ([.sl 1 (x.p.map eIs)] ++ ([.sl 1 (x.q.map eIs)] ++ []))))
section
variable {H : Type} {enc : TypeId × Value → H} {w : World}
theorem o_two : Opens enc Try.prog w 78 eTwo WTwo :=
  (opens_struct (n := 8) Try.underlying78 (by kernel_rfl) (opensF_cons (k := 2) rfl (by kernel_rfl) o_fn <| opensF_cons (k := 2) rfl (by kernel_rfl) o_fn <| opensF_cons (k := 2) rfl (by kernel_rfl) o_fn <| opensF_cons (k := 1) rfl (by kernel_rfl) o_iss <|
    opensF_cons (k := 1) rfl (by kernel_rfl) o_iss <| opensF_nil rfl)).map
  (fun x h => ⟨⟨x.1, x.2.1, x.2.2.1, x.2.2.2.1, x.2.2.2.2.1⟩, rfl, ⟨h.1, h.2.1, h.2.2.1, h.2.2.2.1, h.2.2.2.2.1⟩⟩)
theorem rd_v {x v : Value} {ok : Nat → Prop} (h : Rd w ok (.v x) v) : v = x := by cases h; rfl
theorem arg_two {r : Reach} {b : Nat} {v : Value} {d : DataW H} {p : List MemPlace} (hv : Value.okWide Try.prog w r b 78 v) (hd : DataW.Trod enc Try.prog w 0 (fun _ => true) true 78 v d p) (hw : (d.weights Try.prog 78).all (· ≤ reachBytes) = true) :
    ∃ (x : GTwo) (s1 s2 s3 s4 s5 : Value), v = .agg #[.int .i64 x.a.regs, s1, .int .i64 x.b.regs, s2, .int .i64 x.c.regs, s3, s4, s5] ∧ Rd w (fun _ => True) (.sl 5 (x.a.blocks.map eBlock)) s1 ∧ Rd w (fun _ => True) (.sl 5 (x.b.blocks.map eBlock)) s2 ∧ Rd w (fun _ => True) (.sl 5 (x.c.blocks.map eBlock)) s3 ∧ Rd w (fun _ => True) (.sl 1 (x.p.map eIs)) s4 ∧ Rd w (fun _ => True) (.sl 1 (x.q.map eIs)) s5 ∧ WTwo x := by
  obtain ⟨x, cs, rfl, h1, h2⟩ := arg_agg o_two (by rw [Try.underlying78]) hv hd hw
  obtain ⟨l⟩ := cs
  match l, h1 with
  | [v1, s1, v2, s2, v3, s3, s4, s5], h1 =>
    obtain ⟨a1, a2, a3, a4, a5, a6, a7, a8, _⟩ := h1
    exact ⟨x, s1, s2, s3, s4, s5, by rw [rd_v a1, rd_v a3, rd_v a5], a2, a4, a6, a7, a8, h2⟩
theorem arg_prog {r : Reach} {b : Nat} {v : Value} {d : DataW H} {p : List MemPlace} (hv : Value.okWide Try.prog w r b 24 v) (hd : DataW.Trod enc Try.prog w 0 (fun _ => true) true 24 v d p) (hw : (d.weights Try.prog 24).all (· ≤ reachBytes) = true) :
    ∃ (x : GProg) (s : Value), v = .agg #[.int .i64 x.words, s] ∧ Rd w (fun _ => True) (.sl 2 (x.funcs.map eFn)) s ∧ WProg x := by
  obtain ⟨x, cs, rfl, h1, h2⟩ := arg_agg o_prog (by rw [Try.underlying24]) hv hd hw
  obtain ⟨l⟩ := cs
  match l, h1 with
  | [v1, s1], h1 =>
    obtain ⟨a1, a2, _⟩ := h1
    exact ⟨x, s1, by rw [rd_v a1], a2, h2⟩
theorem arg_u8 {r : Reach} {b : Nat} {v : Value} {d : DataW H} {p : List MemPlace} (hv : Value.okWide Try.prog w r b 5 v) (hd : DataW.Trod enc Try.prog w 0 (fun _ => true) true 5 v d p) (hw : (d.weights Try.prog 5).all (· ≤ reachBytes) = true) :
    ∃ x : Int, v = .int .u8 x ∧ 0 ≤ x ∧ x < 256 := by
  obtain ⟨n, rfl⟩ := okWide_int Try.underlying5 hv
  obtain ⟨fuel, hf⟩ := hd
  obtain ⟨x, h1, h2⟩ := o_u8 fuel _ d p hf hw
  have h3 := rd_v h1.1
  cases h3
  exact ⟨_, rfl, h2⟩
end
end Lg
end Go.Proofs.Ytpfhmodjjljpjaa

namespace Go.Proofs.Ytpfhmodjjljpjaa
open Go.ChangeShapes Go.WideShapes Go.ChangeAt Go.RowKit
namespace Lg
set_option maxRecDepth 100000
set_option linter.unusedVariables false
section
variable {H : Type} {enc : TypeId × Value → H} {w : World}
theorem arg_u32 {r : Reach} {b : Nat} {v : Value} {d : DataW H} {p : List MemPlace} (hv : Value.okWide Try.prog w r b 68 v) (hd : DataW.Trod enc Try.prog w 0 (fun _ => true) true 68 v d p) (hw : (d.weights Try.prog 68).all (· ≤ reachBytes) = true) :
    ∃ x : Int, v = .int .u32 x ∧ 0 ≤ x ∧ x < 4294967296 := by
  obtain ⟨n, rfl⟩ := okWide_int Try.underlying68 hv
  obtain ⟨fuel, hf⟩ := hd
  obtain ⟨x, h1, h2⟩ := o_u32 fuel _ d p hf hw
  have h3 := rd_v h1.1
  cases h3
  exact ⟨_, rfl, h2⟩
theorem u8_of {x : Int} (h : (Lit.int .u8 x).wf = true) : 0 ≤ x ∧ x < 256 := by
  simp only [Lit.wf, Bool.and_eq_true, decide_eq_true_eq] at h
  have h1 : (0 : Int) ≤ x := h.1
  have h2 : x ≤ (255 : Int) := h.2
  omega
theorem arg_pair {r : Reach} {b : Nat} {v : Value} {d : DataW H} {p : List MemPlace} (hv : Value.okWide Try.prog w r b 53 v) (hd : DataW.Trod enc Try.prog w 0 (fun _ => true) true 53 v d p) :
    ∃ x y : Int, v = .agg #[.int .u8 x, .int .u8 y] ∧ (0 ≤ x ∧ x < 256) ∧ (0 ≤ y ∧ y < 256) := by
  unfold Value.okWide at hv
  rw [Try.underlying53] at hv
  obtain ⟨cs, rfl, hs, _⟩ := hv
  obtain ⟨fuel, hf⟩ := hd
  obtain ⟨xs, m, _, _, hl, hx, he⟩ := DataW.trod_array Try.underlying53 hf
  have hc : Try.prog.cellsOf 5 = 1 := by kernel_rfl
  have hc2 : Try.prog.cellsOf 53 = 2 := by kernel_rfl
  rw [hc2] at hs
  obtain ⟨l⟩ := cs
  match l, hs with
  | [c0, c1], _ =>
    match xs, hx with
    | [a0, a1], _ =>
      have e0 := he 0 (by decide)
      have e1 := he 1 (by decide)
      rw [hc] at e0 e1
      obtain ⟨n0, h0, _, w0⟩ := DataW.trod_int Try.underlying5 (x := a0) e0
      obtain ⟨n1, h1, _, w1⟩ := DataW.trod_int Try.underlying5 (x := a1) e1
      have q0 : [c0] = [Value.int .u8 n0] := h0
      have q1 : [c1] = [Value.int .u8 n1] := h1
      cases q0; cases q1
      exact ⟨n0, n1, rfl, u8_of w0, u8_of w1⟩
end
end Lg
end Go.Proofs.Ytpfhmodjjljpjaa

namespace Go.Proofs.Ytpfhmodjjljpjaa
open Go.RowKit
namespace Lg
set_option linter.unusedSimpArgs false
set_option linter.unusedVariables false
def sub {α : Type} (xs : List α) (l h : Nat) : List α := (xs.drop l).take (h - l)
theorem sub_map {α β : Type} (f : α → β) (xs : List α) (l h : Nat) : sub (xs.map f) l h = (sub xs l h).map f := by simp [sub, List.map_take, List.map_drop]
theorem sub_at {α : Type} {xs : List α} {l h i : Nat} {x : α} (hx : (sub xs l h)[i]? = some x) : xs[l + i]? = some x := by
  unfold sub at hx
  rw [List.getElem?_take] at hx
  split at hx
  · rwa [List.getElem?_drop] at hx
  · cases hx
theorem sub_length {α : Type} {xs : List α} {l h : Nat} (h1 : l ≤ h) (h2 : h ≤ xs.length) : (sub xs l h).length = h - l := by
  simp [sub]; omega
theorem rd_cap {w : World} {ok : Nat → Prop} {sz : Nat} {rows : List (List Cell)} {A : Option Addr} {n c : Nat} (hr : Rd w ok (.sl sz rows) (.slice A n c)) : n ≤ c := by
  cases hr with
  | sl _ _ _ _ u hc hm hz hn hA hR => exact hc
theorem Rd.subs {w : World} {ok : Nat → Prop} {sz : Nat} {rows : List (List Cell)} {A : Option Addr} {n c : Nat} (hr : Rd w ok (.sl sz rows) (.slice A n c)) {l h m : Nat} (h1 : l ≤ h) (h2 : h ≤ n) (h3 : h ≤ m) :
    Rd w ok (.sl sz (sub rows l h)) (.slice (if m = l then A else A.map (·.add (l * sz))) (h - l) (m - l)) := by
  cases hr with
  | sl _ _ _ _ u hc hm hz hn hA hR =>
    have hlen := sub_length (xs := rows) h1 h2
    have hlen2 : (sub rows l h).length = h - l := hlen
    have hA' : ∀ (i : Nat) (r : List Cell), (sub rows l h)[i]? = some r → ¬ m = l ∧ ∃ a, A = some a := fun i r hi => by
      have h5 : i < h - l := by rw [← hlen2]; exact (List.getElem?_eq_some_iff.1 hi).1
      refine ⟨by omega, hn (fun e => ?_)⟩
      subst e
      simp at h2; omega
    rw [show h - l = (sub rows l h).length from hlen2.symm]
    refine .sl sz _ _ (m - l) (fun i j => u (l + i) j) (by omega) (by omega) (fun r hr => ?_) (fun hne => ?_) (fun i r j cl hi hj => ?_) (fun i r j cl hi hj => ?_)
    · exact hz r (List.mem_of_mem_drop (List.mem_of_mem_take hr))
    · obtain ⟨r, hr⟩ := List.exists_mem_of_ne_nil _ hne
      obtain ⟨i, hi⟩ := List.getElem?_of_mem hr
      obtain ⟨h5, a, rfl⟩ := hA' i r hi
      exact ⟨a.add (l * sz), by simp [h5]⟩
    · obtain ⟨h5, _⟩ := hA' i r hi
      obtain ⟨a, rfl, hok, hcell⟩ := hA (l + i) r j cl (sub_at hi) hj
      refine ⟨a.add (l * sz), by simp [h5], by rw [add_block]; exact hok, ?_⟩
      rw [add_add, show l * sz + (i * sz + j) = (l + i) * sz + j by rw [Nat.add_mul]; omega]
      exact hcell
    · exact hR (l + i) r j cl (sub_at hi) hj
section
variable {P : Program} {N b : Nat} {o : Oper} {st : St} (D : Tab P)
def SlB (P : Program) (n l h : Nat) (lo hi mx : Option Value) : Prop := ∀ (c : Nat) (w : World), n ≤ c → ∃ m, (Instr.sliceBounds true n c lo hi mx).run P w = .ok (l, h, m) w ∧ h ≤ m ∧ m ≤ c
theorem slb_l {n l : Nat} (h : l ≤ n) : SlB P n l n (some (.int .i64 (l : Int))) none none := fun c w hc =>
  ⟨c, by
    have := run_sliceBound (P := P) (w := w) .i64 (l : Int) n .sliceB (by omega) (by omega)
    simp [Instr.sliceBounds, this], by omega, Nat.le_refl _⟩
theorem slb_h {n h : Nat} (hh : h ≤ n) : SlB P n 0 h none (some (.int .i64 (h : Int))) none := fun c w hc =>
  ⟨c, by
    have := run_sliceBound (P := P) (w := w) .i64 (h : Int) c .sliceAcap (by omega) (by omega)
    simp [Instr.sliceBounds, this], by omega, Nat.le_refl _⟩
theorem slb_lh {n l h : Nat} (h1 : l ≤ h) (hh : h ≤ n) : SlB P n l h (some (.int .i64 (l : Int))) (some (.int .i64 (h : Int))) none := fun c w hc =>
  ⟨c, by
    have h2 := run_sliceBound (P := P) (w := w) .i64 (h : Int) c .sliceAcap (by omega) (by omega)
    have h3 := run_sliceBound (P := P) (w := w) .i64 (l : Int) h .sliceB (by omega) (by omega)
    simp [Instr.sliceBounds, h2, h3], by omega, Nat.le_refl _⟩
theorem slb_hm {n h m : Nat} (hh : h ≤ m) (hm : m ≤ n) : SlB P n 0 h none (some (.int .i64 (h : Int))) (some (.int .i64 (m : Int))) := fun c w hc =>
  ⟨m, by
    have h2 := run_sliceBound (P := P) (w := w) .i64 (m : Int) c .slice3Acap (by omega) (by omega)
    have h3 := run_sliceBound (P := P) (w := w) .i64 (h : Int) m .slice3B (by omega) (by omega)
    simp [Instr.sliceBounds, h2, h3], hh, by omega⟩
theorem run_sl {t : Nat} {ty ety : TyI} (hg : Good P t ty) (he0 : ty.elem ≠ 0) (he : Good P ty.elem ety) {A : Option Addr} {n c l h m : Nat} {lo hi mx : Option Value} {w : World} (hb : (Instr.sliceBounds true n c lo hi mx).run P w = .ok (l, h, m) w) :
    (Instr.sliceAt t (.slice A n c) lo hi mx).run P w = .ok (.slice (if m = l then A else A.map (·.add (l * ety.size))) (h - l) (m - l)) w := by
  have hu := hg.sl he0
  simp only [Instr.sliceAt, Sem.run_bind, run_underlying hu, Result.andThen_ok, Instr.slice, hb, he.sizeOf w, Sem.run_pure]
theorem run_slice_op {t : Nat} {x : Operand} {lo hi mx : Option Operand} {ev : Operand → Value} {w : World} {v : Value} (ho : o.op = .slice t x lo hi mx) (h : (Instr.sliceAt t (ev x) (lo.map ev) (hi.map ev) (mx.map ev)).run P w = .ok v w) : (execOp ev o).run P w = .ok (.value v) w := by
  simp only [execOp, ho]
  rw [Sem.run_bind, h]
  rfl
def oev (st : St) : Option Operand → Option (Option LV)
  | none => some none
  | some y => (st.ev y).map some
theorem opt_eval {N : Nat} {U : Nat → Prop} {ρ : Nat → Value} {st st' : St} {a : Act} (fr : FR N U ρ st'.s a) {x : Option Operand} {v : Option Value} (hx : ∀ y, x = some y → st'.ev y = st.ev y) (h : oev st x = some (v.map LV.v)) : x.map a.eval = v := by
  cases x with
  | none => cases v with
    | none => rfl
    | some v => simp [oev] at h
  | some y =>
    cases v with
    | none => simp [oev] at h
    | some v =>
      simp only [oev, Option.map_some, Option.map_eq_some_iff] at h
      obtain ⟨lv, h1, h2⟩ := h
      cases h2
      have := (fr.eval ((hx y rfl).trans h1)).1
      simp [this, LV.val]
theorem T_slF {α : Type} {enc : α → List Cell} {xs : List α} {t i sz l h : Nat} {x : Operand} {lo hi mx : Option Operand} {vl vh vm : Option Value} {ty ety : TyI} (ho : o.op = .slice t x lo hi mx) (hx : st.ev x = some (.r i)) (hob : st.o.lookup i = some (.fz sz (xs.map enc))) (hlo : oev st lo = some (vl.map .v)) (hhi : oev st hi = some (vh.map .v)) (hmx : oev st mx = some (vm.map .v))
    (hi' : D.get t = some ty) (he0 : (ty.elem == 0) = false) (he : D.get ty.elem = some ety) (hs : ety.size = sz) (h1 : l ≤ h) (h2 : h ≤ xs.length) (hb : SlB P xs.length l h vl vh vm) :
    T P N o b [i] st (.r b) 1 [(b, .fz sz ((sub xs l h).map enc))] := by
  intro w0 M U ρ own st' a w hev hp hfrs fr hr
  obtain ⟨hv, hu⟩ := fr.eval ((hev x (by simp [ho, Op.operands])).trans hx)
  have e1 := opt_eval (st := st) fr (x := lo) (fun y hy => hev y (by simp [ho, Op.operands, hy])) hlo
  have e2 := opt_eval (st := st) fr (x := hi) (fun y hy => hev y (by simp [ho, Op.operands, hy])) hhi
  have e3 := opt_eval (st := st) fr (x := mx) (fun y hy => hev y (by simp [ho, Op.operands, hy])) hmx
  obtain ⟨g1, g2, g3⟩ := hr.ob i _ ((hp i (by simp)).trans hob)
  obtain ⟨A, c, hA⟩ := fz_slice g1
  have g1' : Rd w (fun k => own k = none) (.sl sz (xs.map enc)) (ρ i) := g1
  rw [hA] at g1'
  have hlen : (xs.map enc).length = xs.length := by simp
  have hcap : xs.length ≤ c := by
    rw [← hlen]; exact rd_cap g1'
  obtain ⟨m, hm, hm1, hm2⟩ := hb c w hcap
  have hrun := run_slice_op (P := P) (ev := a.eval) (w := w) ho (v := .slice (if m = l then A else A.map (·.add (l * ety.size))) (h - l) (m - l)) (by
    rw [e1, e2, e3, hv]
    simp only [LV.val, hA, hlen]
    exact run_sl (D.ok t ty hi') (by simpa using he0) (D.ok _ ety he) hm)
  have hnew : Rd w (fun k => own k = none) (.sl sz ((sub xs l h).map enc)) (.slice (if m = l then A else A.map (·.add (l * ety.size))) (h - l) (m - l)) := by
    rw [hs, ← sub_map]
    exact g1'.subs h1 (by omega) hm1
  have hb' : ¬ U b := hfrs b (Nat.le_refl _) (by omega)
  exact does_value hrun ⟨upd1 ρ b _, own, by simp [LV.val, upd1_same], fun i hi => upd1_other _ _ (fun e => hb' (e ▸ hi)), .inr ⟨Nat.le_refl _, by omega⟩, hr.addFz b hb' hnew⟩
theorem T_slR {α : Type} {enc : α → List Cell} {xs : List α} {t i e sz l h : Nat} {x : Operand} {lo hi mx : Option Operand} {vl vh vm : Option Value} {ty ety : TyI} (ho : o.op = .slice t x lo hi mx) (hx : st.ev x = some (.r i)) (hob : st.o.lookup i = some (.row e sz (xs.map enc))) (hlo : oev st lo = some (vl.map .v)) (hhi : oev st hi = some (vh.map .v)) (hmx : oev st mx = some (vm.map .v))
    (hi' : D.get t = some ty) (he0 : (ty.elem == 0) = false) (he : D.get ty.elem = some ety) (hs : ety.size = sz) (h1 : l ≤ h) (h2 : h ≤ xs.length) (hb : SlB P xs.length l h vl vh vm) :
    T P N o b [i] st (.r b) 1 [(b, .fz sz ((sub xs l h).map enc)), (i, .fz sz (xs.map enc))] := by
  intro w0 M U ρ own st' a w hev hp hfrs fr hr
  obtain ⟨hv, hu⟩ := fr.eval ((hev x (by simp [ho, Op.operands])).trans hx)
  have e1 := opt_eval (st := st) fr (x := lo) (fun y hy => hev y (by simp [ho, Op.operands, hy])) hlo
  have e2 := opt_eval (st := st) fr (x := hi) (fun y hy => hev y (by simp [ho, Op.operands, hy])) hhi
  have e3 := opt_eval (st := st) fr (x := mx) (fun y hy => hev y (by simp [ho, Op.operands, hy])) hmx
  have hfz := hr.freeze ((hp i (by simp)).trans hob)
  obtain ⟨g1, g2, g3⟩ := hfz.ob i (.fz sz (xs.map enc)) (by simp)
  obtain ⟨A, c, hA⟩ := fz_slice g1
  have g1' : Rd w (fun k => thaw own i k = none) (.sl sz (xs.map enc)) (ρ i) := g1
  rw [hA] at g1'
  have hlen : (xs.map enc).length = xs.length := by simp
  have hcap : xs.length ≤ c := by
    rw [← hlen]; exact rd_cap g1'
  obtain ⟨m, hm, hm1, hm2⟩ := hb c w hcap
  have hrun := run_slice_op (P := P) (ev := a.eval) (w := w) ho (v := .slice (if m = l then A else A.map (·.add (l * ety.size))) (h - l) (m - l)) (by
    rw [e1, e2, e3, hv]
    simp only [LV.val, hA, hlen]
    exact run_sl (D.ok t ty hi') (by simpa using he0) (D.ok _ ety he) hm)
  have hnew : Rd w (fun k => thaw own i k = none) (.sl sz ((sub xs l h).map enc)) (.slice (if m = l then A else A.map (·.add (l * ety.size))) (h - l) (m - l)) := by
    rw [hs, ← sub_map]
    exact g1'.subs h1 (by omega) hm1
  have hb' : ¬ U b := hfrs b (Nat.le_refl _) (by omega)
  exact does_value hrun ⟨upd1 ρ b _, thaw own i, by simp [LV.val, upd1_same], fun i hi => upd1_other _ _ (fun e => hb' (e ▸ hi)), .inr ⟨Nat.le_refl _, by omega⟩, hfz.addFz b hb' hnew⟩
end
theorem sub_getD {α : Type} [Inhabited α] {xs : List α} {l h i : Nat} (hi : i < (sub xs l h).length) : (sub xs l h).getD i default = xs.getD (l + i) default := by
  have h1 := sub_at (xs := xs) (l := l) (h := h) (i := i) (List.getElem?_eq_getElem hi)
  rw [List.getD_eq_getElem?_getD, List.getD_eq_getElem?_getD, List.getElem?_eq_getElem hi, h1]
theorem sub1_length {α : Type} {xs : List α} (h : 1 ≤ xs.length) : (sub xs 1 xs.length).length = xs.length - 1 := sub_length h (Nat.le_refl _)
end Lg
end Go.Proofs.Ytpfhmodjjljpjaa

namespace Go.Proofs.Ytpfhmodjjljpjaa
open Go.RowKit
namespace Lg
set_option linter.unusedSimpArgs false
set_option linter.unusedVariables false
theorem HR.retell {w0 w : World} {M : Fp} {U : Nat → Prop} {ρ : Nat → Value} {own : Nat → Option Nat} {o : List (Nat × Ob)} (hr : HR w0 M U ρ own o w) {i : Nat} {ob ob' : Ob} (hi : o.lookup i = some ob) (h : RepOb w ρ own i ob → RepOb w ρ own i ob') (hu : ob.used U ρ → ob'.used U ρ) : HR w0 M U ρ own ((i, ob') :: o) w := by
  obtain ⟨h1, h2, h3⟩ := hr.ob i ob hi
  refine hr.step (upd := [(i, ob')]) (fun _ => False) rfl rfl rfl (Nat.le_refl _) (fun _ _ _ => ⟨rfl, rfl⟩) (fun _ _ => rfl) (fun _ h => h) (fun _ h => h.elim) (fun q x hq => .inl (by rw [lookup_key hq]; exact ⟨_, hi⟩)) (fun q x hq => ?_)
  have hq' := lookup_key hq
  subst hq'
  obtain rfl : ob' = x := by simpa using hq
  exact ⟨h h1, h2, hu h3⟩
def nilC : Cell := .v (.slice none 0 0)
theorem nest_of_nils {w : World} {ρ : Nat → Value} {own : Nat → Option Nat} {i e e2 sz2 m : Nat} (hs : 0 < sz2) (h : RepOb w ρ own i (.row e 1 ((List.replicate m ()).map fun _ => [nilC]))) : RepOb w ρ own i (.nest e e2 sz2 (List.replicate m []) none) := by
  obtain ⟨h0, cells, h1, h2, h3⟩ := h
  have hlen : ((List.replicate m ()).map fun _ => [nilC]).length = m := by simp
  have hv : ∀ j v, cells[j]? = some v → v = Value.slice none 0 0 := fun j v hj => by
    have hjm : j < m := by
      have := (List.getElem?_eq_some_iff.1 hj).1
      rw [h3.len, hlen] at this; omega
    obtain ⟨u, hu, hR⟩ := (h3.each j [nilC] (by simp [List.getElem?_map, hjm])).2 0 nilC rfl
    rw [Nat.mul_one, Nat.add_zero, hj] at hu
    cases hu
    cases hR with
    | v _ _ => rfl
  refine ⟨cells, hs, by simpa [hlen] using h1, h2, (fun j b hb => by cases hb), fun j r v hj hjv _ => ?_, fun j j' v v' k hne _ _ hjv hjv' hk => ?_⟩
  · have := hv j v hjv
    subst this
    have hr : r = [] := (List.mem_replicate.1 (List.mem_of_getElem? hj)).2
    subst hr
    exact ⟨[], ⟨by simp, .inl ⟨rfl, rfl⟩⟩, ⟨by simp, (fun i r hi => by simp at hi)⟩, (fun k hk => by cases hk)⟩
  · rw [hv j v hjv] at hk; cases hk
section
variable {P : Program} {N b : Nat} {o : Oper} {st : St} (D : Tab P)
theorem T_makeN {t : Nat} {x y : Operand} {m e2 sz2 : Nat} {ty ety : TyI} (ho : o.op = .makeSlice t x y) (hx : st.ev x = some (.v (.int .i64 (m : Int)))) (hy : st.ev y = some (.v (.int .i64 (m : Int))))
    (hi : D.get t = some ty) (he0 : (ty.elem == 0) = false) (he : D.get ty.elem = some ety) (hz : ety.zero = [.slice none 0 0]) (hsz : ety.size = 1) (hs2 : (0 < sz2) = True) (hm : m * ety.bytes ≤ 281474976710656) (hm2 : m ≤ 9223372036854775807) :
    T P N o b [] st (.r b) 1 [(b, .nest ty.elem e2 sz2 (List.replicate m []) none)] := by
  have h := T_make D (enc := fun (_ : Unit) => [nilC]) (zx := ()) (N := N) (b := b) ho hx hy hi he0 he (by rw [hsz]; rfl) (by rw [hz]; exact .v rfl .nil) (by rw [hz, hsz]; rfl) hm hm2
  rw [hsz] at h
  intro w0 M U ρ own st' a w hev hp hf fr hr next Q hn
  refine h w0 M U ρ own st' a w hev hp hf fr hr next Q (fun v w' hv => hn v w' ?_)
  obtain ⟨ρ', own', h1, h2, h3, h4⟩ := hv
  refine ⟨ρ', own', h1, h2, h3, ?_⟩
  have h5 := h4.retell (i := b) (ob := .row ty.elem 1 ((List.replicate m ()).map fun _ => [nilC])) (ob' := .nest ty.elem e2 sz2 (List.replicate m []) none) (by simp) (nest_of_nils (of_eq_true hs2)) (fun _ => fun j q hq => by cases hq)
  refine h5.congr (fun i => ?_)
  simp only [List.cons_append, List.nil_append, List.lookup]
  cases hib : i == b <;> rfl
theorem nest_base {w : World} {ρ : Nat → Value} {own : Nat → Option Nat} {i e e2 sz2 : Nat} {rows : List (List (List Cell))} {hole : Option (Nat × Nat)} (h : RepOb w ρ own i (.nest e e2 sz2 rows hole)) : ∃ A c, ρ i = .slice A rows.length c ∧ (0 < rows.length → ∃ a, A = some a) := by
  obtain ⟨vs, hN⟩ := h
  rcases hN.out.2 with ⟨h4, h5⟩ | ⟨g, off, cap, cur, he, hh, r1, r2, r3, r4⟩
  · exact ⟨none, 0, by rw [h4, h5], fun hp => by omega⟩
  · exact ⟨_, cap, he, fun _ => ⟨_, rfl⟩⟩
theorem T_lenN {α : Type} {enc : α → List Cell} {xs : List (List α)} {t tt i e e2 sz2 : Nat} {hole : Option (Nat × Nat)} {x : Operand} {ty : TyI} (ho : o.op = .call { callee := .builtin .len, args := #[x], argTypes := #[t] }) (hx : st.ev x = some (.r i)) (hob : st.o.lookup i = some (.nest e e2 sz2 (xs.map (List.map enc)) hole))
    (hi : D.get t = some ty) (he0 : (ty.elem == 0) = false) (_htt : o.type = tt) : T P N o b [i] st (.v (.int .i64 (xs.length : Int))) 0 [] := by
  intro w0 M U ρ own st' a w hev hp hfr fr hr
  obtain ⟨hv, hu⟩ := fr.eval ((hev x (by simp [ho, Op.operands, Call.operands])).trans hx)
  obtain ⟨g1, g2, g3⟩ := hr.ob i _ ((hp i (by simp)).trans hob)
  obtain ⟨A, c, hA, hn⟩ := nest_base g1
  rw [List.length_map] at hA
  have hu' := (D.ok t ty hi).sl (by simpa using he0)
  have hrun : (execOp a.eval o).run P w = .ok (.value (.int .i64 (xs.length : Int))) w := by
    simp [execOp, ho, resolve, invoke, builtin, hv, LV.val, hA, Builtin.len_, run_underlying hu', goInt]
  exact does_value hrun ⟨ρ, own, rfl, fun _ _ => rfl, trivial, hr.mono (fun i hi => .inl hi)⟩
theorem T_indexAddrN {α : Type} {enc : α → List Cell} {xs : List (List α)} {t i e e2 sz2 : Nat} {hole : Option (Nat × Nat)} {x y : Operand} {k : IntKind} {j : Int} {ty ety : TyI} (ho : o.op = .indexAddr t x y) (hx : st.ev x = some (.r i)) (hob : st.o.lookup i = some (.nest e e2 sz2 (xs.map (List.map enc)) hole)) (hy : st.ev y = some (.v (.int k j)))
    (hi : D.get t = some ty) (he0 : (ty.elem == 0) = false) (he : D.get ty.elem = some ety) (hs : ety.size = 1) (h0 : 0 ≤ j) (h1 : j < (xs.length : Int)) : T P N o b [i] st (.e i 1 j.toNat 0) 0 [] := by
  intro w0 M U ρ own st' a w hev hp hfr fr hr
  obtain ⟨hv, hu⟩ := fr.eval ((hev x (by simp [ho, Op.operands])).trans hx)
  obtain ⟨hv2, _⟩ := fr.eval ((hev y (by simp [ho, Op.operands])).trans hy)
  obtain ⟨g1, g2, g3⟩ := hr.ob i _ ((hp i (by simp)).trans hob)
  obtain ⟨A, c, hA, hn⟩ := nest_base g1
  rw [List.length_map] at hA hn
  obtain ⟨ad, rfl⟩ := hn (by omega)
  have hb : base (ρ i) = some ad := by rw [hA]; rfl
  have hrun : (execOp a.eval o).run P w = .ok (.value (.pointer (some (ad.add (j.toNat * 1))))) w := by
    simp only [execOp, ho, hv, hv2, LV.val, hA]
    rw [Sem.run_bind, run_indexAddr (D.ok t ty hi) (by simpa using he0) (D.ok _ ety he) h0 h1, hs]
    rfl
  exact does_value hrun ⟨ρ, own, by simp [LV.val, ptrOf, hb], fun _ _ => rfl, ⟨.inl hu, ad, hb⟩, hr.mono (fun i hi => .inl hi)⟩
theorem owns_same {w w' : World} {e sz n : Nat} {v : Value} {cells : List Value} (h : OwnsR w e sz v n cells) (hk : ∀ k, v.ownBlock = some k → w'.heap[k]? = w.heap[k]?) : OwnsR w' e sz v n cells := by
  refine ⟨h.1, ?_⟩
  rcases h.2 with h4 | ⟨g, off, cap, cur, he, hh, r⟩
  · exact .inl h4
  · exact .inr ⟨g, off, cap, cur, he, (hk g (by rw [he]; rfl)).trans hh, r⟩
theorem T_ldN {α : Type} [Inhabited α] {enc : α → List Cell} {xs : List (List α)} {t i e e2 sz2 j : Nat} {x : Operand} {ty : TyI} (ho : o.op = .load t x) (hx : st.ev x = some (.e i 1 j 0)) (hob : st.o.lookup i = some (.nest e e2 sz2 (xs.map (List.map enc)) none)) (hi : D.get t = some ty) (ha : ty.agg = false) (hj : j < xs.length) :
    T P N o b [i] st (.r b) 1 [(b, .row e2 sz2 ((xs.getD j default).map enc)), (i, .nest e e2 sz2 (xs.map (List.map enc)) (some (j, b)))] := by
  intro w0 M U ρ own st' a w hev hp hfrs fr hr
  obtain ⟨hv, hu⟩ := fr.eval ((hev x (by simp [ho, Op.operands])).trans hx)
  obtain ⟨ad, had⟩ := hu.2
  have hob' := (hp i (by simp)).trans hob
  obtain ⟨⟨vs, hN⟩, hUi, _⟩ := hr.ob i _ hob'
  have hbU : ¬ U b := hfrs b (Nat.le_refl _) (by omega)
  have hbi : b ≠ i := fun h => hbU (h ▸ hUi)
  have hrl : (xs.map (List.map enc)).length = xs.length := by simp
  have hvl : vs.length = xs.length := by rw [hN.out.1, hrl]; simp
  have hjv : vs[j]? = some vs[j] := List.getElem?_eq_getElem (by omega)
  have hrow : (xs.map (List.map enc))[j]? = some ((xs.getD j default).map enc) := by
    rw [List.getElem?_map, List.getElem?_eq_getElem hj, List.getD_eq_getElem?_getD, List.getElem?_eq_getElem hj]; rfl
  generalize hvj : vs[j] = v at hjv
  obtain ⟨cells, g1, g2, g3⟩ := hN.inn j _ v hrow hjv (fun b hb => by cases hb)
  have hcell : w.cell? (ad.add (j * 1 + 0)) = some v := by
    rcases hN.out.2 with ⟨h4, h5⟩ | ⟨g, off, cap, cur, he, hh, r⟩
    · omega
    · have had' : ad = ⟨g, off, none⟩ := by rw [he] at had; simpa [base] using had.symm
      subst had'
      rw [Nat.mul_one, Nat.add_zero]
      exact hN.out.cells he _ _ hjv
  have hrun : (execOp a.eval o).run P w = .ok (.value v) w := by
    simp only [execOp, ho]
    rw [Sem.run_bind, run_load1 (D.ok t ty hi) ha (a := ad.add (j * 1 + 0)) (by rw [hv]; simp [LV.val, ptrOf, had]) hcell]
    rfl
  let own' : Nat → Option Nat := fun k => if own k = some i ∧ v.ownBlock = some k then some b else own k
  have hρ : ∀ q, U q → upd1 ρ b v q = ρ q := fun q hq => upd1_other _ _ (fun h => hbU (h ▸ hq))
  have hnone : ∀ k, own k = none → k < w.heap.size → own' k = none ∧ w.heap[k]? = w.heap[k]? := fun k hk _ => ⟨by simp [own', hk], rfl⟩
  have hkeep : ∀ k, v.ownBlock ≠ some k → own' k = own k := fun k hk => by simp [own', hk]
  refine does_value hrun ⟨upd1 ρ b v, own', by simp [LV.val, upd1_same], hρ, .inr ⟨Nat.le_refl _, by omega⟩, ?_⟩
  refine hr.step (fun q => q = i) rfl rfl rfl (Nat.le_refl _) (fun k hk hq => ⟨rfl, ?_⟩) hρ (fun q hq => .inl hq) (fun q hq => ⟨.nest e e2 sz2 (xs.map (List.map enc)) (some (j, b)), by subst hq; simp [List.lookup, show (q == b) = false by simpa using Ne.symm hbi]⟩) (fun q ob' hq => ?_) (fun q ob' hq => ?_)
  · have : own k ≠ some i := fun h => hq i h rfl
    simp [own', this]
  · simp only [List.lookup] at hq
    cases hqb : q == b with
    | true => exact .inr (by rw [show q = b by simpa using hqb]; exact hbU)
    | false =>
      rw [hqb] at hq
      cases hqi : q == i with
      | true => exact .inl (by rw [show q = i by simpa using hqi]; exact ⟨_, hob'⟩)
      | false => rw [hqi] at hq; cases hq
  · simp only [List.lookup] at hq
    cases hqb : q == b with
    | true =>
      rw [hqb] at hq
      obtain rfl : q = b := by simpa using hqb
      obtain rfl : Ob.row e2 sz2 ((xs.getD j default).map enc) = ob' := by injection hq
      refine ⟨⟨hN.pos, cells, by rw [upd1_same]; exact g1, fun k hk => ?_, g2.mono hnone⟩, .inr ⟨Nat.le_refl _, by omega⟩, trivial⟩
      rw [upd1_same] at hk
      simp [own', (g3 k hk).1, hk]
    | false =>
      rw [hqb] at hq
      cases hqi : q == i with
      | false => rw [hqi] at hq; cases hq
      | true =>
        rw [hqi] at hq
        obtain rfl : q = i := by simpa using hqi
        obtain rfl : Ob.nest e e2 sz2 (xs.map (List.map enc)) (some (j, b)) = ob' := by injection hq
        have hρi := hρ q hUi
        refine ⟨⟨vs, hN.pos, by rw [hρi]; exact hN.out, fun k hk => ?_, fun j' b' hb => ?_, fun j' r v' hj' hv' hh => ?_, fun j1 j2 v1 v2 k hne _ _ => hN.dis j1 j2 v1 v2 k hne (fun b hb => by cases hb) (fun b hb => by cases hb)⟩, .inl hUi, fun j' b' hb => ?_⟩
        · rw [hρi] at hk
          rw [hkeep k (fun h => (g3 k h).2 hk)]
          exact hN.blk k hk
        · cases hb
          rw [upd1_same]; exact hjv
        · have hjj : j ≠ j' := fun h => hh b (by rw [h])
          obtain ⟨cells', k1, k2, k3⟩ := hN.inn j' r v' hj' hv' (fun b hb => by cases hb)
          refine ⟨cells', k1, k2.mono hnone, fun k hk => ?_⟩
          rw [hkeep k (fun h => hN.dis j j' v v' k hjj (fun b hb => by cases hb) (fun b hb => by cases hb) hjv hv' h hk), hρi]
          exact k3 k hk
        · cases hb
          exact .inr ⟨Nat.le_refl _, by omega⟩
theorem T_stN {α : Type} {enc : α → List Cell} {xs : List (List α)} {ys : List α} {t i q e e2 sz2 j : Nat} {hole : Option (Nat × Nat)} {x y : Operand} {ty : TyI} (ho : o.op = .store t x y) (hx : st.ev x = some (.e i 1 j 0)) (hob : st.o.lookup i = some (.nest e e2 sz2 (xs.map (List.map enc)) hole)) (hy : st.ev y = some (.r q)) (hoq : st.o.lookup q = some (.row e2 sz2 (ys.map enc)))
    (hi : D.get t = some ty) (hsz : ty.size = 1) (hiq : (i == q) = false) (hj : j < xs.length) (hh : hole = none ∨ ∃ b0, hole = some (j, b0)) :
    T P N o b [i, q] st (.v undef) 0 [(i, .nest e e2 sz2 ((xs.set j ys).map (List.map enc)) none), (q, .no)] := by
  intro w0 M U ρ own st' a w hev hp hfrs fr hr
  obtain ⟨hv, hu⟩ := fr.eval ((hev x (by simp [ho, Op.operands])).trans hx)
  obtain ⟨hv2, hu2⟩ := fr.eval ((hev y (by simp [ho, Op.operands])).trans hy)
  obtain ⟨ad, had⟩ := hu.2
  have hiq' : i ≠ q := by simpa using hiq
  have hob' := (hp i (by simp)).trans hob
  have hoq' := (hp q (by simp)).trans hoq
  obtain ⟨⟨vs, hN⟩, hUi, _⟩ := hr.ob i _ hob'
  obtain ⟨hq1, hUq, _⟩ := hr.ob q _ hoq'
  obtain ⟨A, c, hA⟩ := row_slice hq1
  obtain ⟨_, cellsq, q1, q2, q3⟩ := hq1
  have hrl : (xs.map (List.map enc)).length = xs.length := by simp
  have hvl : vs.length = xs.length := by rw [hN.out.1, hrl]; simp
  have hhole : ∀ j', j' ≠ j → ∀ b, hole ≠ some (j', b) := fun j' hne b hb => by
    rcases hh with rfl | ⟨b0, rfl⟩
    · cases hb
    · cases hb; exact hne rfl
  rcases hN.out.2 with ⟨h4, h5⟩ | ⟨g, off, cap, cur, he, hheap, r1, r2, r3, r4⟩
  · omega
  have hgi : own g = some i := hN.blk g (by rw [he]; rfl)
  have hb : base (ρ i) = some ⟨g, off, none⟩ := by rw [he]; rfl
  have hfits : off + j + [ρ q].length ≤ cur.size := by simp only [List.length_singleton]; omega
  have hcur : cur.toList.length = cur.size := Array.length_toList
  have hrun : (execOp a.eval o).run P w = .ok .skip (w.setRow g (splice cur.toList (off + j) [ρ q]).toArray) := by
    simp only [execOp, ho]
    rw [Sem.run_bind, run_storeAt (D.ok t ty hi) (g := g) (n := off + j) (vs := [ρ q]) (by rw [hv]; simp [LV.val, ptrOf, hb, add_at]) (by rw [hv2]; simp [LV.val, hA, Value.cells]) (by simp [hsz]) hheap hfits (fun u hu => by simp at hu; subst hu; rw [hA]; rfl)]
    rfl
  let own' : Nat → Option Nat := fun k => if own k = some q then some i else own k
  have hkq : ∀ k, own k ≠ some q → own' k = own k := fun k hk => by simp [own', hk]
  have hoth : ∀ k, own k ≠ some i → (w.setRow g (splice cur.toList (off + j) [ρ q]).toArray).heap[k]? = w.heap[k]? := fun k hk => setRow_other w g k _ (fun h => hk (by rw [h]; exact hgi))
  have hne2 : ∀ k, (ρ i).ownBlock ≠ some k → k ≠ g := fun k hk h => hk (by rw [he, h]; rfl)
  have hnone : ∀ k, own k = none → k < w.heap.size → own' k = none ∧ (w.setRow g (splice cur.toList (off + j) [ρ q]).toArray).heap[k]? = w.heap[k]? := fun k hk _ => ⟨by simp [own', hk], hoth k (by rw [hk]; simp)⟩
  refine does_skip hrun ⟨ρ, own', rfl, fun _ _ => rfl, trivial, ?_⟩
  refine HR.mono ?_ (fun i hi => .inl hi)
  refine hr.step (fun p => p = i ∨ p = q) (by simp) (by simp) (by simp) (by simp) (fun k hk hp' => ⟨hoth k (fun h => hp' i h (.inl rfl)), hkq k (fun h => hp' q h (.inr rfl))⟩) (fun _ _ => rfl) (fun _ h => h) (fun p hp' => ?_) (fun p ob' hp' => ?_) (fun p ob' hp' => ?_)
  · rcases hp' with rfl | rfl
    · exact ⟨_, by simp; rfl⟩
    · exact ⟨.no, by simp [List.lookup, show (p == i) = false by simpa using Ne.symm hiq']⟩
  · simp only [List.lookup] at hp'
    cases hpi : p == i with
    | true => exact .inl (by rw [show p = i by simpa using hpi]; exact ⟨_, hob'⟩)
    | false =>
      rw [hpi] at hp'
      cases hpq : p == q with
      | true => exact .inl (by rw [show p = q by simpa using hpq]; exact ⟨_, hoq'⟩)
      | false => rw [hpq] at hp'; cases hp'
  · simp only [List.lookup] at hp'
    cases hpi : p == i with
    | false =>
      rw [hpi] at hp'
      cases hpq : p == q with
      | false => rw [hpq] at hp'; cases hp'
      | true =>
        rw [hpq] at hp'
        obtain rfl : p = q := by simpa using hpq
        obtain rfl : Ob.no = ob' := by injection hp'
        exact ⟨trivial, hUq, trivial⟩
    | true =>
      rw [hpi] at hp'
      obtain rfl : p = i := by simpa using hpi
      obtain rfl : Ob.nest e e2 sz2 ((xs.set j ys).map (List.map enc)) none = ob' := by injection hp'
      have hat : ∀ j' v', (splice vs j [ρ q])[j']? = some v' → (j' = j ∧ v' = ρ q) ∨ (j' ≠ j ∧ vs[j']? = some v') := fun j' v' h => by
        rw [splice_get vs j [ρ q] (by simp; omega)] at h
        simp only [List.length_singleton] at h
        by_cases h1 : j' < j
        · rw [if_pos h1] at h; exact .inr ⟨by omega, h⟩
        · rw [if_neg h1] at h
          by_cases h2 : j' < j + 1
          · rw [if_pos h2] at h
            have : j' = j := by omega
            subst this
            simp at h
            exact .inl ⟨rfl, h.symm⟩
          · rw [if_neg h2] at h; exact .inr ⟨by omega, h⟩
      refine ⟨⟨splice vs j [ρ q], hN.pos, ?_, fun k hk => ?_, (fun j' b' hb => by cases hb), fun j' r v' hj' hv' _ => ?_, fun j1 j2 v1 v2 k hne _ _ hv1 hv2' hk1 hk2 => ?_⟩, hUi, (fun j' b' hb => by cases hb)⟩
      · have hlen : ((xs.set j ys).map (List.map enc)).length = xs.length := by simp
        refine ⟨by rw [splice_length _ _ _ (by simp; omega), hvl, hlen]; simp, .inr ⟨g, off, cap, _, by rw [he, hrl, hlen], setRow_heap w g cur _ e _ hheap, by rw [hlen]; omega, r2, ?_, ?_⟩⟩
        · rw [List.size_toArray, splice_length _ _ _ (by rw [hcur]; exact hfits), Array.length_toList]; exact r3
        · rw [hlen, ← r4, hrl]
          show ((splice cur.toList (off + j) [ρ q]).drop off).take _ = _
          rw [splice_drop _ _ _ _ (by rw [hcur]; omega)]
          exact splice_take _ _ _ _ (by simp; omega) (by rw [List.length_drop, hcur]; omega)
      · rw [hkq k (by rw [hN.blk k hk]; intro h; exact hiq' (Option.some.inj h))]
        exact hN.blk k hk
      · rcases hat j' v' hv' with ⟨rfl, rfl⟩ | ⟨hne, hv''⟩
        · have hr : r = ys.map enc := by
            rw [List.getElem?_map, List.getElem?_set_self (by omega)] at hj'
            simpa using hj'.symm
          subst hr
          refine ⟨cellsq, owns_same q1 (fun k hk => hoth k (by rw [q2 k hk]; intro h; exact hiq' (Option.some.inj h).symm)), q3.mono hnone, fun k hk => ⟨by simp [own', q2 k hk], fun h => ?_⟩⟩
          have h1 := hN.blk k h
          rw [q2 k hk] at h1
          exact hiq' (Option.some.inj h1).symm
        · have hr : (xs.map (List.map enc))[j']? = some r := by
            rw [List.getElem?_map, List.getElem?_set_ne (Ne.symm hne)] at hj'
            rw [List.getElem?_map]; exact hj'
          obtain ⟨cells', k1, k2, k3⟩ := hN.inn j' r v' hr hv'' (hhole j' hne)
          refine ⟨cells', owns_same k1 (fun k hk => setRow_other w g k _ (hne2 k (k3 k hk).2)), k2.mono hnone, fun k hk => ⟨?_, (k3 k hk).2⟩⟩
          rw [hkq k (by rw [(k3 k hk).1]; intro h; exact hiq' (Option.some.inj h))]
          exact (k3 k hk).1
      · have hown : ∀ j' v', j' ≠ j → vs[j']? = some v' → ∀ k, v'.ownBlock = some k → own k = some p := fun j' v' hne hv'' k hk => by
          have hj3 : j' < xs.length := by rw [← hvl]; exact (List.getElem?_eq_some_iff.1 hv'').1
          obtain ⟨cells', k1, k2, k3⟩ := hN.inn j' _ v' (by rw [List.getElem?_map, List.getElem?_eq_getElem hj3]; rfl) hv'' (hhole j' hne)
          exact (k3 k hk).1
        rcases hat j1 v1 hv1 with ⟨rfl, rfl⟩ | ⟨hne1, hv1'⟩
        · rcases hat j2 v2 hv2' with ⟨rfl, rfl⟩ | ⟨hne2', hv2''⟩
          · exact hne rfl
          · have h1 := hown j2 v2 hne2' hv2'' k hk2
            rw [q2 k hk1] at h1
            exact hiq' (Option.some.inj h1).symm
        · rcases hat j2 v2 hv2' with ⟨rfl, rfl⟩ | ⟨hne2', hv2''⟩
          · have h1 := hown j1 v1 hne1 hv1' k hk1
            rw [q2 k hk2] at h1
            exact hiq' (Option.some.inj h1).symm
          · exact hN.dis j1 j2 v1 v2 k hne (hhole j1 hne1) (hhole j2 hne2') hv1' hv2'' hk1 hk2
end
theorem Embs.nestE {o : List (Nat × Ob)} {σ : Nat → Nat} {c e e2 sz2 : Nat} {rows rows' : List (List (List Cell))} {l : List (Nat × Ob)} (h : o.lookup (σ c) = some (.nest e e2 sz2 rows' none)) (t : Embs o σ l) (he : rows' = rows) : Embs o σ ((c, .nest e e2 sz2 rows none) :: l) := .nest (by rw [h, he]) t
theorem Embs.lendNE {o : List (Nat × Ob)} {σ : Nat → Nat} {c e e2 sz2 : Nat} {rows : List (List Cell)} {rows' : List (List (List Cell))} {l : List (Nat × Ob)} (h : o.lookup (σ c) = some (.nest e e2 sz2 rows' none)) (t : Embs o σ l) (he : nestRows sz2 rows' = rows) : Embs o σ ((c, .fz 1 rows) :: l) := by
  subst he
  exact .lendN h t
theorem nestRows_eIs (xs : List (List Int)) : nestRows 1 (xs.map (List.map eI)) = xs.map eIs := by simp [nestRows, eIs, Function.comp_def]
theorem nestRows_eBs (xs : List (List Bool)) : nestRows 1 (xs.map (List.map eB)) = xs.map eBs := by simp [nestRows, eBs, Function.comp_def]
end Lg
end Go.Proofs.Ytpfhmodjjljpjaa

namespace Go.Proofs.Ytpfhmodjjljpjaa
open Go.RowKit
namespace Lg
set_option linter.unusedSimpArgs false
set_option linter.unusedVariables false
theorem lookup2 {β : Type} {i q p : Nat} {x y z : β} (hiq : i ≠ q) (h : List.lookup p [(i, x), (q, y)] = some z) : (p = i ∧ z = x) ∨ (p = q ∧ z = y) := by
  simp only [List.lookup] at h
  cases hpi : p == i with
  | true => rw [hpi] at h; exact .inl ⟨by simpa using hpi, by injection h with h; exact h.symm⟩
  | false =>
    rw [hpi] at h
    cases hpq : p == q with
    | true => rw [hpq] at h; exact .inr ⟨by simpa using hpq, by injection h with h; exact h.symm⟩
    | false => rw [hpq] at h; cases h
theorem get_set {α : Type} {enc : α → List Cell} {xs : List (List α)} {ys : List α} {j j' : Nat} {r : List (List Cell)} (hj : j < xs.length) (h : ((xs.set j ys).map (List.map enc))[j']? = some r) : (j' = j ∧ r = ys.map enc) ∨ (j' ≠ j ∧ (xs.map (List.map enc))[j']? = some r) := by
  by_cases e : j' = j
  · subst e
    rw [List.getElem?_map, List.getElem?_set_self hj] at h
    exact .inl ⟨rfl, by simpa using h.symm⟩
  · rw [List.getElem?_map, List.getElem?_set_ne (Ne.symm e)] at h
    exact .inr ⟨e, by rw [List.getElem?_map]; exact h⟩
section
variable {w0 w : World} {M : Fp} {U : Nat → Prop} {ρ : Nat → Value} {own : Nat → Option Nat} {o : List (Nat × Ob)}
theorem HR.close {α : Type} {enc : α → List Cell} {xs : List (List α)} {ys : List α} {i q e e2 sz2 j : Nat} (hr : HR w0 M U ρ own o w) (hi : o.lookup i = some (.nest e e2 sz2 (xs.map (List.map enc)) (some (j, q)))) (hq : o.lookup q = some (.row e2 sz2 (ys.map enc))) :
    ∃ own', HR w0 M U ρ own' ([(i, .nest e e2 sz2 ((xs.set j ys).map (List.map enc)) none), (q, .no)] ++ o) w := by
  have hiq : i ≠ q := fun h => by subst h; rw [hi] at hq; cases hq
  obtain ⟨⟨vs, hN⟩, hUi, _⟩ := hr.ob i _ hi
  obtain ⟨⟨_, cellsq, q1, q2, q3⟩, hUq, _⟩ := hr.ob q _ hq
  have hvl : vs.length = xs.length := by rw [hN.out.1]; simp
  have hol := hN.hol j q rfl
  have hj : j < xs.length := by rw [← hvl]; exact (List.getElem?_eq_some_iff.1 hol).1
  have hhole : ∀ j', j' ≠ j → ∀ b, (some (j, q) : Option (Nat × Nat)) ≠ some (j', b) := fun j' hne b hb => by cases hb; exact hne rfl
  let own' : Nat → Option Nat := fun k => if own k = some q then some i else own k
  have hkq : ∀ k, own k ≠ some q → own' k = own k := fun k hk => by simp [own', hk]
  have hnone : ∀ k, own k = none → k < w.heap.size → own' k = none ∧ w.heap[k]? = w.heap[k]? := fun k hk _ => ⟨by simp [own', hk], rfl⟩
  refine ⟨own', ?_⟩
  refine hr.step (fun p => p = i ∨ p = q) rfl rfl rfl (Nat.le_refl _) (fun k hk hp' => ⟨rfl, hkq k (fun h => hp' q h (.inr rfl))⟩) (fun _ _ => rfl) (fun _ h => h) (fun p hp' => ?_) (fun p ob' hp' => ?_) (fun p ob' hp' => ?_)
  · rcases hp' with rfl | rfl
    · exact ⟨_, by simp; rfl⟩
    · exact ⟨.no, by simp [List.lookup, show (p == i) = false by simpa using Ne.symm hiq]⟩
  · rcases lookup2 hiq hp' with ⟨rfl, _⟩ | ⟨rfl, _⟩
    · exact .inl ⟨_, hi⟩
    · exact .inl ⟨_, hq⟩
  · rcases lookup2 hiq hp' with ⟨rfl, rfl⟩ | ⟨rfl, rfl⟩
    · have hlen : ((xs.set j ys).map (List.map enc)).length = (xs.map (List.map enc)).length := by simp
      have hown : ∀ j' v', j' ≠ j → vs[j']? = some v' → ∀ k, v'.ownBlock = some k → own k = some p := fun j' v' hne hv'' k hk => by
        have hj3 : j' < xs.length := by rw [← hvl]; exact (List.getElem?_eq_some_iff.1 hv'').1
        obtain ⟨cells', k1, k2, k3⟩ := hN.inn j' _ v' (by rw [List.getElem?_map, List.getElem?_eq_getElem hj3]; rfl) hv'' (hhole j' hne)
        exact (k3 k hk).1
      refine ⟨⟨vs, hN.pos, by rw [hlen]; exact hN.out, fun k hk => ?_, (fun j' b' hb => by cases hb), fun j' r v' hj' hv' _ => ?_, fun j1 j2 v1 v2 k hne _ _ hv1 hv2 hk1 hk2 => ?_⟩, hUi, (fun j' b' hb => by cases hb)⟩
      · rw [hkq k (by rw [hN.blk k hk]; intro h; exact hiq (Option.some.inj h))]
        exact hN.blk k hk
      · rcases get_set hj hj' with ⟨rfl, rfl⟩ | ⟨hne, hr'⟩
        · rw [hol] at hv'
          cases hv'
          refine ⟨cellsq, q1, q3.mono hnone, fun k hk => ⟨by simp [own', q2 k hk], fun h => ?_⟩⟩
          have h1 := hN.blk k h
          rw [q2 k hk] at h1
          exact hiq (Option.some.inj h1).symm
        · obtain ⟨cells', k1, k2, k3⟩ := hN.inn j' r v' hr' hv' (hhole j' hne)
          exact ⟨cells', k1, k2.mono hnone, fun k hk => ⟨by rw [hkq k (by rw [(k3 k hk).1]; intro h; exact hiq (Option.some.inj h))]; exact (k3 k hk).1, (k3 k hk).2⟩⟩
      · by_cases e1 : j1 = j
        · subst e1
          rw [hol] at hv1
          cases hv1
          have h1 := hown j2 v2 (Ne.symm hne) hv2 k hk2
          rw [q2 k hk1] at h1
          exact hiq (Option.some.inj h1).symm
        · by_cases e2 : j2 = j
          · subst e2
            rw [hol] at hv2
            cases hv2
            have h1 := hown j1 v1 hne hv1 k hk1
            rw [q2 k hk2] at h1
            exact hiq (Option.some.inj h1).symm
          · exact hN.dis j1 j2 v1 v2 k hne (hhole j1 e1) (hhole j2 e2) hv1 hv2 hk1 hk2
    · exact ⟨trivial, hUq, trivial⟩
end
section
variable {P : Program} {N b : Nat} {o : Oper} {st : St} (D : Tab P)
theorem T_ldN2 {t i q e e2 sz2 j j' : Nat} {x : Operand} {rows : List (List (List Cell))} {ty : TyI} (ho : o.op = .load t x) (hx : st.ev x = some (.e i 1 j' 0)) (hob : st.o.lookup i = some (.nest e e2 sz2 rows (some (j, q)))) (hi : D.get t = some ty) (ha : ty.agg = false) (hj : j' = j) : T P N o b [i] st (.r q) 0 [] := by
  intro w0 M U ρ own st' a w hev hp hfrs fr hr
  subst hj
  obtain ⟨hv, hu⟩ := fr.eval ((hev x (by simp [ho, Op.operands])).trans hx)
  obtain ⟨ad, had⟩ := hu.2
  obtain ⟨⟨vs, hN⟩, hUi, hUq⟩ := hr.ob i _ ((hp i (by simp)).trans hob)
  have hol := hN.hol j' q rfl
  have hcell : w.cell? (ad.add (j' * 1 + 0)) = some (ρ q) := by
    rcases hN.out.2 with ⟨h4, h5⟩ | ⟨g, off, cap, cur, he, hh, r⟩
    · have h1 := hN.out.1
      rw [h5] at h1
      have := (List.getElem?_eq_some_iff.1 hol).1
      omega
    · have had' : ad = ⟨g, off, none⟩ := by rw [he] at had; simpa [base] using had.symm
      subst had'
      rw [Nat.mul_one, Nat.add_zero]
      exact hN.out.cells he _ _ hol
  have hrun : (execOp a.eval o).run P w = .ok (.value (ρ q)) w := by
    simp only [execOp, ho]
    rw [Sem.run_bind, run_load1 (D.ok t ty hi) ha (a := ad.add (j' * 1 + 0)) (by rw [hv]; simp [LV.val, ptrOf, had]) hcell]
    rfl
  exact does_value hrun ⟨ρ, own, rfl, fun _ _ => rfl, .inl (hUq j' q rfl), hr.mono (fun i hi => .inl hi)⟩
theorem range1 (f : Nat → Value) (v : Value) : ((Array.range 1).map f).setIfInBounds 0 v = #[v] := by
  apply Array.ext
  · simp
  · intro i h1 h2
    have : i = 0 := by simpa using h2
    subst this
    simp
theorem T_bsN {α : Type} {enc : α → List Cell} {ys : List α} {t q e2 sz2 : Nat} {y : Operand} {ty ety : TyI} (ho : o.op = .buildSlice t 1 #[(0, y)]) (hi : D.get t = some ty) (he0 : (ty.elem == 0) = false) (he : D.get ty.elem = some ety) (hz : ety.zero = [.slice none 0 0]) (hsz : ety.size = 1) (hy : st.ev y = some (.r q)) (hoq : st.o.lookup q = some (.row e2 sz2 (ys.map enc))) :
    T P N o b [q] st (.r b) 1 [(b, .nest ty.elem e2 sz2 ([ys].map (List.map enc)) none), (q, .no)] := by
  intro w0 M U ρ own st' a w hev hp hfrs fr hr
  obtain ⟨hv, hu⟩ := fr.eval ((hev y (by simp [ho, Op.operands])).trans hy)
  have hoq' := (hp q (by simp)).trans hoq
  obtain ⟨hq1, hUq, _⟩ := hr.ob q _ hoq'
  obtain ⟨A, c, hA⟩ := row_slice hq1
  obtain ⟨hpos, cellsq, q1, q2, q3⟩ := hq1
  have hbU : ¬ U b := hfrs b (Nat.le_refl _) (by omega)
  have hbq : b ≠ q := fun h => hbU (h ▸ hUq)
  have hrun : (execOp a.eval o).run P w = .ok (.value (.slice (some ⟨w.heap.size, 0, none⟩) 1 1)) (w.alloc (.cells #[ρ q] ty.elem)) := by
    simp only [execOp, ho]
    rw [Sem.run_bind, run_buildSlice (D.ok t ty hi) (by simpa using he0) (D.ok _ ety he) (by rw [hsz]; decide) (cells := #[ρ q]) (by
      rw [hsz, hz]
      simp only [List.map_toArray, List.map_cons, List.map_nil, hv, LV.val, hA]
      simp [Instr.fill, madeCells, Value.cells]
      exact range1 _ _)]
    rfl
  let own' : Nat → Option Nat := fun k => if own k = some q ∨ k = w.heap.size then some b else own k
  have hkq : ∀ k, k < w.heap.size → own k ≠ some q → own' k = own k := fun k hk h => by simp [own', h, show k ≠ w.heap.size by omega]
  have hnone : ∀ k, own k = none → k < w.heap.size → own' k = none ∧ (w.alloc (.cells #[ρ q] ty.elem)).heap[k]? = w.heap[k]? := fun k hk hlt => ⟨by rw [hkq k hlt (by rw [hk]; simp)]; exact hk, heap_alloc_old w _ hlt⟩
  have hρ : ∀ p, U p → upd1 ρ b (.slice (some ⟨w.heap.size, 0, none⟩) 1 1) p = ρ p := fun p hp => upd1_other _ _ (fun h => hbU (h ▸ hp))
  have hblt : ∀ k, (ρ q).ownBlock = some k → k < w.heap.size := fun k hk => by
    rcases q1.2 with ⟨h4, _⟩ | ⟨g, off, cap, cur, he', hh, r⟩
    · rw [h4] at hk; cases hk
    · rw [he'] at hk; cases hk; exact heap_lt hh
  refine does_value hrun ⟨upd1 ρ b (.slice (some ⟨w.heap.size, 0, none⟩) 1 1), own', by simp [LV.val, upd1_same], hρ, .inr ⟨Nat.le_refl _, by omega⟩, ?_⟩
  refine hr.step (fun p => p = q) rfl rfl rfl (by rw [World.size_alloc]; omega) (fun k hk hp' => ⟨heap_alloc_old w _ hk, hkq k hk (fun h => hp' q h rfl)⟩) hρ (fun p hp => .inl hp) (fun p hp' => ?_) (fun p ob' hp' => ?_) (fun p ob' hp' => ?_)
  · subst hp'
    exact ⟨.no, by simp [List.lookup, show (p == b) = false by simpa using Ne.symm hbq]⟩
  · rcases lookup2 hbq hp' with ⟨rfl, _⟩ | ⟨rfl, _⟩
    · exact .inr hbU
    · exact .inl ⟨_, hoq'⟩
  · rcases lookup2 hbq hp' with ⟨rfl, rfl⟩ | ⟨rfl, rfl⟩
    · refine ⟨⟨[ρ q], hpos, ?_, fun k hk => ?_, (fun j b hb => by cases hb), fun j r v hj hv' _ => ?_, fun j j' v v' k hne _ _ hv1 hv2 _ _ => ?_⟩, .inr ⟨Nat.le_refl _, by omega⟩, (fun j b hb => by cases hb)⟩
      · rw [upd1_same]
        exact OwnsR.of (World.ownsRow_lit w #[ρ q] 1 (Nat.zero_le _) (by simp [maxLen]) (by simp))
      · rw [upd1_same] at hk
        simp [Value.ownBlock] at hk
        simp [own', ← hk]
      · have hj0 : j = 0 := by have := (List.getElem?_eq_some_iff.1 hv').1; simp at this; exact this
        subst hj0
        simp at hj hv'
        subst hj hv'
        refine ⟨cellsq, owns_same q1 (fun k hk => heap_alloc_old w _ (hblt k hk)), q3.mono hnone, fun k hk => ⟨by simp [own', q2 k hk], ?_⟩⟩
        rw [upd1_same]
        simp only [Value.ownBlock, ne_eq, Option.some.injEq]
        have := hblt k hk
        simp [Value.ownBlock]
        omega
      · have h1 := (List.getElem?_eq_some_iff.1 hv1).1
        have h2 := (List.getElem?_eq_some_iff.1 hv2).1
        simp at h1 h2
        omega
    · exact ⟨trivial, .inl hUq, trivial⟩
theorem lookup3 {β : Type} {i q r p : Nat} {x y u z : β} (h : List.lookup p [(i, x), (q, y), (r, u)] = some z) : (p = i ∧ z = x) ∨ (p ≠ i ∧ p = q ∧ z = y) ∨ (p ≠ i ∧ p ≠ q ∧ p = r ∧ z = u) := by
  simp only [List.lookup] at h
  cases hpi : p == i with
  | true => rw [hpi] at h; exact .inl ⟨by simpa using hpi, by injection h with h; exact h.symm⟩
  | false =>
    rw [hpi] at h
    cases hpq : p == q with
    | true => rw [hpq] at h; exact .inr (.inl ⟨by simpa using hpi, by simpa using hpq, by injection h with h; exact h.symm⟩)
    | false =>
      rw [hpq] at h
      cases hpr : p == r with
      | true => rw [hpr] at h; exact .inr (.inr ⟨by simpa using hpi, by simpa using hpq, by simpa using hpr, by injection h with h; exact h.symm⟩)
      | false => rw [hpr] at h; cases h
theorem T_appendN {α : Type} {enc : α → List Cell} {xs ys : List (List α)} {t i j e e2 sz2 : Nat} {x y : Operand} {ty ety : TyI} (ho : o.op = .call { callee := .builtin .append, args := #[x, y], argTypes := #[t, t] }) (hx : st.ev x = some (.r i)) (hob : st.o.lookup i = some (.nest e e2 sz2 (xs.map (List.map enc)) none)) (hy : st.ev y = some (.r j)) (hob2 : st.o.lookup j = some (.nest e e2 sz2 (ys.map (List.map enc)) none)) (hij : (i == j) = false)
    (hi : D.get t = some ty) (he0 : (ty.elem == 0) = false) (he : D.get ty.elem = some ety) (hs : ety.size = 1) (hee : ty.elem = e) (hzl : ety.zero.length = ety.size) (hl : (xs.length + ys.length) * ety.bytes ≤ 140737488355328) (hl2 : xs.length + ys.length ≤ 9223372036854775807) :
    T P N o b [i, j] st (.r b) 1 [(b, .nest e e2 sz2 ((xs ++ ys).map (List.map enc)) none), (i, .no), (j, .no)] := by
  intro w0 M U ρ own st' a w hev hp hfrs fr hr
  obtain ⟨hv, hu⟩ := fr.eval ((hev x (by simp [ho, Op.operands, Call.operands])).trans hx)
  obtain ⟨hv2, hu2⟩ := fr.eval ((hev y (by simp [ho, Op.operands, Call.operands])).trans hy)
  have hobi := (hp i (by simp)).trans hob
  have hobj := (hp j (by simp)).trans hob2
  obtain ⟨⟨vi, hN⟩, hUi, _⟩ := hr.ob i _ hobi
  obtain ⟨⟨vj, hK⟩, hUj, _⟩ := hr.ob j _ hobj
  have hne : i ≠ j := by simpa using hij
  have hbU : ¬ U b := hfrs b (Nat.le_refl _) (by omega)
  have hbi : b ≠ i := fun h => hbU (h ▸ hUi)
  have hbj : b ≠ j := fun h => hbU (h ▸ hUj)
  subst hee
  obtain ⟨jt, z, hjt, hjz, hjc, hjs, hjb⟩ := (D.ok _ ety he).ti
  have hut := (D.ok t ty hi).sl (by simpa using he0)
  have hs1 : jt.size = 1 := by rw [hjs]; exact hs
  have hzs' : z.cells.size = jt.size := by rw [← Array.length_toList, hjc, hjs]; exact hzl
  have hxl : (xs.map (List.map enc)).length = xs.length := by simp
  have hyl : (ys.map (List.map enc)).length = ys.length := by simp
  have hvil : vi.length = xs.length := by rw [hN.out.1, hxl]; simp
  have hvjl : vj.length = ys.length := by rw [hK.out.1, hyl]; simp
  have hin : ∀ (q : Nat) (v : Value), vi[q]? = some v → ∃ r cells, (xs.map (List.map enc))[q]? = some r ∧ OwnsR w e2 sz2 v r.length cells ∧ RowsRd w (fun k => own k = none) sz2 r cells ∧ ∀ k, v.ownBlock = some k → own k = some i ∧ (ρ i).ownBlock ≠ some k := fun q v hq => by
    have hlt : q < xs.length := by rw [← hvil]; exact (List.getElem?_eq_some_iff.1 hq).1
    have hr' : (xs.map (List.map enc))[q]? = some ((xs[q]).map enc) := by rw [List.getElem?_map, List.getElem?_eq_getElem hlt]; rfl
    obtain ⟨cells, k1, k2, k3⟩ := hN.inn q _ v hr' hq (fun b hb => by cases hb)
    exact ⟨_, cells, hr', k1, k2, k3⟩
  have hjn : ∀ (q : Nat) (v : Value), vj[q]? = some v → ∃ r cells, (ys.map (List.map enc))[q]? = some r ∧ OwnsR w e2 sz2 v r.length cells ∧ RowsRd w (fun k => own k = none) sz2 r cells ∧ ∀ k, v.ownBlock = some k → own k = some j ∧ (ρ j).ownBlock ≠ some k := fun q v hq => by
    have hlt : q < ys.length := by rw [← hvjl]; exact (List.getElem?_eq_some_iff.1 hq).1
    have hr' : (ys.map (List.map enc))[q]? = some ((ys[q]).map enc) := by rw [List.getElem?_map, List.getElem?_eq_getElem hlt]; rfl
    obtain ⟨cells, k1, k2, k3⟩ := hK.inn q _ v hr' hq (fun b hb => by cases hb)
    exact ⟨_, cells, hr', k1, k2, k3⟩
  have hone : ∀ u ∈ vj, u.oneCell' = true := fun u hu => by
    obtain ⟨q, hq⟩ := List.getElem?_of_mem hu
    obtain ⟨r, cells, _, k1, _⟩ := hjn q u hq
    rcases k1.2 with ⟨h4, _⟩ | ⟨g, off, cap, cur, he', _⟩
    · rw [h4]; rfl
    · rw [he']; rfl
  obtain ⟨A, c, hA, hA0⟩ := nest_base (hr.ob i _ hobi).1
  obtain ⟨B, c', hB, hB0⟩ := nest_base (hr.ob j _ hobj).1
  rw [hxl] at hA
  rw [hyl] at hB hB0
  have hownI : OwnsR w ty.elem jt.size (ρ i) xs.length vi := by rw [hs1]; have := hN.out; rwa [hxl] at this
  have hcy : ∀ ad, B = some ad → ∀ (q : Nat) (u : Value), vj[q]? = some u → w.cell? (ad.add q) = some u := fun ad had q u hq => by
    subst had
    rcases hK.out.2 with ⟨h4, _⟩ | ⟨g, off, cap, cur, he', _⟩
    · rw [hB] at h4; cases h4
    · have h5 := he'
      rw [hB] at h5
      have : ad = ⟨g, off, none⟩ := by injection h5 with h5; injection h5
      subst this
      exact hK.out.cells he' q u hq
  obtain ⟨v', w', r1, r2, r3, r4⟩ := run_appendG (ty := o.type) (c := c') (w := w) hut hjt hjz hzs' (by rw [hs1]; decide) hownI (A := B) (m := ys.length) (news := vj) (by rw [hvjl, hs1]; simp) hcy (fun h => by
    have := Nat.eq_zero_or_pos ys.length
    rcases this with h0 | h0
    · exact h0
    · obtain ⟨a0, h1⟩ := hB0 h0; rw [h] at h1; cases h1) hone (by simpa [maxLen] using hl2) (by rw [hjb]; exact hl)
  have hrun : (execOp a.eval o).run P w = .ok (.value v') w' := by
    simp only [execOp, ho, resolve, invoke, builtin, hv, hv2, LV.val, hB, Sem.run_bind, Sem.run_pure, Result.andThen_ok, List.map_toArray, List.map_cons, List.map_nil]
    rw [r1]
    rfl
  let own' : Nat → Option Nat := fun k => if own k = some i ∨ own k = some j ∨ k = w.heap.size then some b else own k
  have hρ : ∀ p, U p → upd1 ρ b v' p = ρ p := fun p hp => upd1_other _ _ (fun h => hbU (h ▸ hp))
  have hblk : ∀ k, k < w.heap.size → (ρ i).ownBlock ≠ some k → w'.heap[k]? = w.heap[k]? := fun k hk h => r3.block k hk (fun h' => h h'.symm)
  have hko : ∀ k, k < w.heap.size → own k ≠ some i → own k ≠ some j → own' k = own k := fun k hk h1 h2 => by simp [own', h1, h2, show k ≠ w.heap.size by omega]
  have hnone : ∀ k, own k = none → k < w.heap.size → own' k = none ∧ w'.heap[k]? = w.heap[k]? := fun k hk hlt => ⟨by rw [hko k hlt (by rw [hk]; simp) (by rw [hk]; simp)]; exact hk, hblk k hlt (fun h => by have := hN.blk k h; rw [hk] at this; cases this)⟩
  have hlt : ∀ {e n : Nat} {v : Value} {cells : List Value}, OwnsR w e sz2 v n cells → ∀ k, v.ownBlock = some k → k < w.heap.size := fun h k hk => by
    rcases h.2 with ⟨h4, _⟩ | ⟨g, off, cap, cur, he', hh, r⟩
    · rw [h4] at hk; cases hk
    · rw [he'] at hk; cases hk; exact heap_lt hh
  refine does_value hrun ⟨upd1 ρ b v', own', by simp [LV.val, upd1_same], hρ, .inr ⟨Nat.le_refl _, by omega⟩, ?_⟩
  refine hr.step (fun p => p = i ∨ p = j) r3.os r3.tape r3.output r3.size (fun k hk hp' => ?_) hρ (fun p hp => .inl hp) (fun p hp' => ?_) (fun p ob' hp' => ?_) (fun p ob' hp' => ?_)
  · have h1 : own k ≠ some i := fun h => hp' i h (.inl rfl)
    have h2 : own k ≠ some j := fun h => hp' j h (.inr rfl)
    exact ⟨hblk k hk (fun h => h1 (hN.blk k h)), hko k hk h1 h2⟩
  · rcases hp' with rfl | rfl
    · exact ⟨.no, by simp [List.lookup, show (p == b) = false by simpa using Ne.symm hbi]⟩
    · exact ⟨.no, by simp [List.lookup, show (p == b) = false by simpa using Ne.symm hbj, show (p == i) = false by simpa using Ne.symm hne]⟩
  · rcases lookup3 hp' with ⟨rfl, _⟩ | ⟨_, rfl, _⟩ | ⟨_, _, rfl, _⟩
    · exact .inr hbU
    · exact .inl ⟨_, hobi⟩
    · exact .inl ⟨_, hobj⟩
  · rcases lookup3 hp' with ⟨rfl, rfl⟩ | ⟨_, rfl, rfl⟩ | ⟨_, _, rfl, rfl⟩
    · have hat : ∀ q v, (vi ++ vj)[q]? = some v → (q < xs.length ∧ vi[q]? = some v) ∨ (xs.length ≤ q ∧ vj[q - xs.length]? = some v) := fun q v hq => by
        rcases Nat.lt_or_ge q xs.length with h | h
        · rw [List.getElem?_append_left (by omega)] at hq; exact .inl ⟨h, hq⟩
        · rw [List.getElem?_append_right (by omega), hvil] at hq; exact .inr ⟨h, hq⟩
      have hvb : ∀ k, v'.ownBlock = some k → k = w.heap.size ∨ (ρ i).ownBlock = some k := fun k hk => by
        rcases r4 with r4 | r4
        · rw [r4] at hk; exact .inr hk
        · rw [r4] at hk; exact .inl (by injection hk with hk; exact hk.symm)
      refine ⟨⟨vi ++ vj, hN.pos, ?_, fun k hk => ?_, (fun q b hb => by cases hb), fun q r v hq hv' _ => ?_, fun q q' v v2 k hqq _ _ h1 h2 hk1 hk2 => ?_⟩, .inr ⟨Nat.le_refl _, by omega⟩, (fun q b hb => by cases hb)⟩
      · rw [upd1_same]
        have h9 : ((xs ++ ys).map (List.map enc)).length = xs.length + ys.length := by simp
        rw [h9]
        rw [hs1] at r2
        exact r2
      · rw [upd1_same] at hk
        rcases hvb k hk with h | h
        · simp [own', h]
        · simp [own', hN.blk k h]
      · rcases hat q v hv' with ⟨hlq, hvq⟩ | ⟨hlq, hvq⟩
        · obtain ⟨r', cells, e1, k1, k2, k3⟩ := hin q v hvq
          have er : r = r' := by
            rw [List.map_append, List.getElem?_append_left (by rw [hxl]; exact hlq)] at hq
            rw [hq] at e1; injection e1
          subst er
          refine ⟨cells, owns_same k1 (fun k hk => hblk k (hlt k1 k hk) (k3 k hk).2), k2.mono hnone, fun k hk => ⟨by simp [own', (k3 k hk).1], fun h => ?_⟩⟩
          rw [upd1_same] at h
          rcases hvb k h with h | h
          · have := hlt k1 k hk; omega
          · exact (k3 k hk).2 h
        · obtain ⟨r', cells, e1, k1, k2, k3⟩ := hjn _ v hvq
          have er : r = r' := by
            rw [List.map_append, List.getElem?_append_right (by rw [hxl]; exact hlq), hxl] at hq
            rw [hq] at e1; injection e1
          subst er
          have hni : ∀ k, v.ownBlock = some k → (ρ i).ownBlock ≠ some k := fun k hk h => by
            have h1 := hN.blk k h
            rw [(k3 k hk).1] at h1
            exact hne (Option.some.inj h1).symm
          refine ⟨cells, owns_same k1 (fun k hk => hblk k (hlt k1 k hk) (hni k hk)), k2.mono hnone, fun k hk => ⟨by simp [own', (k3 k hk).1], fun h => ?_⟩⟩
          rw [upd1_same] at h
          rcases hvb k h with h | h
          · have := hlt k1 k hk; omega
          · exact hni k hk h
      · rcases hat q v h1 with ⟨l1, g1⟩ | ⟨l1, g1⟩ <;> rcases hat q' v2 h2 with ⟨l2, g2⟩ | ⟨l2, g2⟩
        · exact hN.dis q q' v v2 k hqq (fun b hb => by cases hb) (fun b hb => by cases hb) g1 g2 hk1 hk2
        · obtain ⟨_, _, _, _, _, k3⟩ := hin q v g1
          obtain ⟨_, _, _, _, _, k4⟩ := hjn _ v2 g2
          have := (k3 k hk1).1
          rw [(k4 k hk2).1] at this
          exact hne (Option.some.inj this).symm
        · obtain ⟨_, _, _, _, _, k3⟩ := hjn _ v g1
          obtain ⟨_, _, _, _, _, k4⟩ := hin q' v2 g2
          have := (k4 k hk2).1
          rw [(k3 k hk1).1] at this
          exact hne (Option.some.inj this).symm
        · exact hK.dis _ _ v v2 k (by omega) (fun b hb => by cases hb) (fun b hb => by cases hb) g1 g2 hk1 hk2
    · exact ⟨trivial, .inl hUi, trivial⟩
    · exact ⟨trivial, .inl hUj, trivial⟩
theorem flat_nest {i e e2 sz2 : Nat} {rows : List (List (List Cell))} {hole : Option (Nat × Nat)} (h : st.o.lookup i = some (.nest e e2 sz2 rows hole)) : Flat st (.r i) [.r i] [i] := fun _ _ _ _ ρ _ o' hp hr hu => by
  obtain ⟨A, c, hA, _⟩ := nest_base (hr.ob i _ ((hp i (by simp)).trans h)).1
  exact ⟨by simp [LV.val, LV.vals, hA, Value.cells], ⟨hu, trivial⟩, by simp [LV.val, LV.vals, hA, Value.oneCell']⟩
theorem T_indexAddrM {α : Type} {enc : α → List Cell} {xs : List (List α)} {t i e e2 sz2 j : Nat} {hole : Option (Nat × Nat)} {x y : Operand} {k : IntKind} {ty ety : TyI} (ho : o.op = .indexAddr t x y) (hx : st.ev x = some (.r i)) (hob : st.o.lookup i = some (.nest e e2 sz2 (xs.map (List.map enc)) hole)) (hy : st.ev y = some (.v (.int k (j : Int))))
    (hi : D.get t = some ty) (he0 : (ty.elem == 0) = false) (he : D.get ty.elem = some ety) (hs : ety.size = 1) (h1 : j < xs.length) : T P N o b [i] st (.e i 1 j 0) 0 [] := T_indexAddrN D ho hx hob hy hi he0 he hs (by omega) (by omega)
end
end Lg
end Go.Proofs.Ytpfhmodjjljpjaa

namespace Go.Proofs.Ytpfhmodjjljpjaa
open Go.RowKit
namespace Lg
set_option linter.unusedSimpArgs false
set_option linter.unusedVariables false
set_option maxRecDepth 100000
structure Mid (w0 : World) (M : Fp) (U : Nat → Prop) (ρ : Nat → Value) (b0 : Nat) (Ds : List Nat) (l : Nat) (rec : Loop) (ρ' : Nat → Value) (own' : Nat → Option Nat) (o : List (Nat × Ob)) (W : World) : Prop where
  hr : HR w0 M U ρ' own' o W
  hb : M.n ≤ b0
  ag : ∀ c, c < b0 → U c ∧ ρ' c = ρ c
  ol : own' l = some 0
  l0 : w0.heap.size ≤ l
  mks : Marks w0 own' Ds W
  hl : W.heap[l]? = some (.loop rec)
section
variable {w0 W W' : World} {M : Fp} {U U' : Nat → Prop} {ρ ρ' ρ2 : Nat → Value} {b0 : Nat} {Ds : List Nat} {l : Nat} {rec : Loop} {own' own2 : Nat → Option Nat} {o o2 : List (Nat × Ob)} {ds : List Deferred}
theorem Mid.based (m : Mid w0 M U ρ b0 Ds l rec ρ' own' o W) (k : HR W (reb b0 ρ' own' ds) U' ρ2 own2 o2 W') : Mid w0 M U' ρ b0 Ds l rec ρ2 own2 o2 W' := by
  obtain ⟨h1, h2⟩ := k.based m.ol (heap_lt m.hl)
  exact ⟨m.hr.unbase m.hb k, m.hb, fun c hc => ⟨(k.ag c hc).1, (k.ag c hc).2.trans (m.ag c hc).2⟩, h1, m.l0, m.mks.based k, h2.trans m.hl⟩
theorem Mid.base (m : Mid w0 M U ρ b0 Ds l rec ρ' own' o W) : HR W (reb b0 ρ' own' ds) U ρ' own' o W := m.hr.rebase (fun i hi => (m.ag i hi).1)
theorem Mid.poke (m : Mid w0 M U ρ b0 Ds l rec ρ' own' o W) (rec' : Loop) : Mid w0 M U ρ b0 Ds l rec' ρ' own' o (W.putObj l (.loop rec')) := by
  refine ⟨m.hr.poke (own' := own') m.ol m.l0 rfl rfl rfl (by simp) (fun k _ hk => World.putObj_heap_other hk) (fun _ _ => rfl), m.hb, m.ag, m.ol, m.l0, ⟨m.mks.nd, fun D hD => ?_⟩, World.putObj_heap_same (heap_lt m.hl)⟩
  obtain ⟨h1, h2, h3⟩ := m.mks.at_ D hD
  refine ⟨h1, h2, (World.putObj_heap_other (fun e => ?_)).trans h3⟩
  subst e
  rw [m.hl] at h3
  cases h3
theorem Mid.rep {N : Nat} {s : List (Nat × LV)} {a : Act} (m : Mid w0 M U ρ b0 Ds l rec ρ' own' o W) (fr : FR N U ρ' s a) (hd : a.defers = ds) : RepD N W (reb b0 ρ' own' ds) U ⟨s, o⟩ a W := ⟨ρ', own', [], fr, m.base, hd, ⟨List.nodup_nil, fun D hD => by cases hD⟩⟩
theorem Mid.rep1 {N : Nat} {s : List (Nat × LV)} {a : Act} (m : Mid w0 M U ρ b0 Ds l rec ρ' own' o W) (fr : FR N U ρ' s a) (hd : a.defers = ds) : Rep N W (reb b0 ρ' own' ds) U ⟨s, o⟩ a W := ⟨ρ', own', fr, m.base, hd⟩
end
def asgK (ro : Option Nat) (P : Program) (N n : Nat) (body : Code) (K : Exit → Nat → St → Prop) : Exit → Nat → St → Prop := fun x b s => x = .normal ∧ W ro P N n body b s K
def endRK {ι : Type} (b0 : Nat) (O : ι → List (Nat × Ob)) (J : ι → Prop) : Exit → Nat → St → Prop := fun x _ s => x = .normal ∧ ∃ i, J i ∧ Le b0 s b0 ⟨[], O i⟩
theorem fr_agree {N : Nat} {U' : Nat → Prop} {ρ ρ' : Nat → Value} {s : List (Nat × LV)} {a : Act} {b0 : Nat} (h : FR N (fun c => c < b0) ρ s a) (hag : ∀ c, c < b0 → U' c ∧ ρ' c = ρ c) : FR N U' ρ' s a := h.keep (fun i hi => (hag i hi).2) (fun i hi => (hag i hi).1)
theorem round_of {ι : Type} {P : Program} {N b0 B l p0 p1 : Nat} {s : List (Nat × LV)} {O : ι → List (Nat × Ob)} {J' : ι → Prop} {lv0 lv1 : LV} {o : List (Nat × Ob)} {rec : Loop} (hps : rec.params = #[p0, p1]) (hst : rec.state = .ready) (hpe : rec.pending = none) (hp0 : p0 < N) (hp1 : p1 < N)
    (hW : W (some l) P N b0 rec.assign B ⟨(p1, lv1) :: (p0, lv0) :: s, o⟩ (asgK (some l) P N b0 rec.body (endRK b0 O J')))
    {w0 W0 : World} {M : Fp} {ρ ρ' : Nat → Value} {own' : Nat → Option Nat} {Ds : List Nat} (m : Mid w0 M (fun c => c < B) ρ b0 Ds l rec ρ' own' o W0) (fr : FR N (fun c => c < b0) ρ s ⟨rec.tmps, []⟩)
    (hu0 : lv0.used (fun c => c < B) ρ') (hu1 : lv1.used (fun c => c < B) ρ') :
    YieldAt (Fw none) 0 P l #[lv0.val ρ', lv1.val ρ'] W0 (fun e W' => e = .returned (.bool true) ∧ ∃ i ρ2 own2, J' i ∧ Mid w0 M (fun c => c < b0) ρ b0 Ds l rec ρ2 own2 (O i) W') := by
  refine ⟨rec.fn, _, rec.assign, rec.body, run_yield m.hl (by rw [hps]; rfl), roundIn_of_wpIn trivial ?_⟩
  have fr0 : FR N (fun c => c < B) ρ' s ⟨rec.tmps, []⟩ := fr_agree fr m.ag
  have fr1 := (fr0.put (fun _ _ => rfl) (fun _ h => h) hu0 p0 hp0).put (fun _ _ => rfl) (fun _ h => h) hu1 p1 hp1
  have ht : (rec.params.zip #[lv0.val ρ', lv1.val ρ']).foldl (fun tmps (x : Tmp × Value) => tmps.setIfInBounds x.1 x.2) rec.tmps = (rec.tmps.setIfInBounds p0 (lv0.val ρ')).setIfInBounds p1 (lv1.val ρ') := by rw [hps]; simp
  have ht' : (rec.params.zip #[lv0.val ρ', lv1.val ρ']).foldl (fun tmps (t, a) => tmps.setIfInBounds t a) rec.tmps = (rec.tmps.setIfInBounds p0 (lv0.val ρ')).setIfInBounds p1 (lv1.val ρ') := ht
  rw [ht']
  refine hW W0 (reb b0 ρ' own' []) _ _ W0 rfl (fun x b' st' a1 w1 hk hr1 => ?_) (m.rep fr1 rfl)
  obtain ⟨rfl, hbody⟩ := hk
  obtain ⟨ρ1, own1, Ds1, fr1', hr1', hd1, mk1⟩ := hr1
  have m1 := m.based hr1'
  have hbr := run_beginRound (P := P) m1.hl hst
  refine ⟨_, hbr, ?_⟩
  have m2 := m1.poke { rec with state := .busy }
  refine hbody _ (reb b0 ρ1 own1 a1.defers) _ a1 _ rfl (fun x b2 st2 a2 w2 hk2 hr2 => ?_) ⟨ρ1, own1, [], fr1', m2.base, rfl, ⟨List.nodup_nil, fun D hD => by cases hD⟩⟩
  obtain ⟨rfl, i, hi, hle⟩ := hk2
  obtain ⟨ρ2, own2, Ds2, fr2, hr2', hd2, mk2⟩ := hr2.le rfl hle
  have m3 := m2.based hr2'
  have m4 := m3.poke rec
  refine ⟨_, _, run_endRound none m3.hl, rfl, i, ρ2, own2, hi, ?_⟩
  have e : ({ ({ rec with state := .busy } : Loop) with state := if (none : Option Code).isNone = true then .ready else .done, pending := none } : Loop) = rec := by
    obtain ⟨a1, a2, a3, a4, a5, a6, a7, a8⟩ := rec
    simp only at hst hpe
    subst hst hpe
    rfl
  rw [e]
  exact m4
def IterB (P : Program) (f sz : Nat) : Prop :=
  ∀ {ι α : Type} [Inhabited α] (enc : α → List Cell) (xs : List α) (bt c j : Nat) (w0 : World) (M : Fp) (ρ : Nat → Value) (b0 : Nat) (Ds : List Nat) (l : Nat) (rec : Loop) (O : ι → List (Nat × Ob)) (J : Nat → ι → Prop) (W : World),
    c < b0 → (∃ a, base (ρ c) = some a) → xs.length ≤ maxLen → (∀ x ∈ xs, (enc x).length = sz ∧ cellsN (enc x) ≤ 16) → (∀ i, (O i).lookup c = some (.box bt [.r j])) → (∀ i, ((O i).lookup j).bind Ob.rows? = some (sz, xs.map enc)) →
    (∀ k i W ρ' own', k < xs.length → J (k + 1) i → Mid w0 M (fun q => q < b0 + 96) ρ b0 Ds l rec ρ' own' (cellsOb (b0 + 80) (enc (xs.getD k default)) ++ O i) W → (LV.agg (cellsLV (b0 + 80) (enc (xs.getD k default)))).used (fun q => q < b0 + 96) ρ' →
      YieldAt (Fw none) 0 P l #[.int .i64 (k : Int), LV.val ρ' (.agg (cellsLV (b0 + 80) (enc (xs.getD k default))))] W (fun e W' => e = .returned (.bool true) ∧ ∃ i' ρ2 own2, J k i' ∧ Mid w0 M (fun q => q < b0) ρ b0 Ds l rec ρ2 own2 (O i') W')) →
    (∃ i ρ' own', J xs.length i ∧ Mid w0 M (fun q => q < b0) ρ b0 Ds l rec ρ' own' (O i) W) →
    CallsIn (Fw none) 0 P f #[.func (.yield l) #[] #[], ptrOf (ρ c) 0] W (fun e W' => (∃ v, e = .returned v) ∧ ∃ i ρ' own', J 0 i ∧ Mid w0 M (fun q => q < b0) ρ b0 Ds l rec ρ' own' (O i) W')
theorem W_range {P : Program} {N n b b0 f sz : Nat} (hit : IterB P f sz) {g : Operand} {p0 p1 : Nat} {assign body : Code} {st : St} {K : Exit → Nat → St → Prop} {ι α : Type} [Inhabited α] {enc : α → List Cell} {xs : List α} (bt c j : Nat) (s : List (Nat × LV)) (O : ι → List (Nat × Ob)) (J : Nat → ι → Prop) (i0 : ι)
    (hJ : J xs.length i0) (hle : Le n st b0 ⟨s, O i0⟩) (hg : (⟨s, O i0⟩ : St).ev g = some (.fn f [.p c 0])) (hcb : decide (c < b0) = true) (hxl : xs.length ≤ maxLen) (hx : ∀ x ∈ xs, (enc x).length = sz ∧ cellsN (enc x) ≤ 16) (hc : ∀ i, (O i).lookup c = some (.box bt [.r j])) (hj : ∀ i, ((O i).lookup j).bind Ob.rows? = some (sz, xs.map enc))
    (hp0 : decide (p0 < N) = true) (hp1 : decide (p1 < N) = true) (hef : ∀ args w, (callFunc f args).run P w = .ok (.enter f args) w)
    (round : ∀ k i l, k < xs.length → J (k + 1) i → W (some l) P N b0 assign (b0 + 96) ⟨(p1, .agg (cellsLV (b0 + 80) (enc (xs.getD k default)))) :: (p0, .v (.int .i64 (k : Int))) :: s, cellsOb (b0 + 80) (enc (xs.getD k default)) ++ O i⟩ (asgK (some l) P N b0 body (endRK b0 O (J k))))
    (h : ∀ i, J 0 i → K .normal b0 ⟨s, O i⟩) : W none P N n (.rangeFunc g #[p0, p1] assign body) b st K := by
  intro w0 M Q a w hM hq hr
  have hle' := hle
  obtain ⟨_, _, _, hB⟩ := hle'
  simp only [leB, Bool.and_eq_true, decide_eq_true_eq] at hB
  have hnb : M.n ≤ b0 := by have := hB.1.2; omega
  obtain ⟨ρ, own, Ds, fr, hh, hdf, mk⟩ := hr.le hM hle
  have hgv := (fr.eval hg)
  have hcb' : c < b0 := of_decide_eq_true hcb
  obtain ⟨⟨_, ad, had⟩, _⟩ := hgv.2
  refine wpIn_rangeFunc (fun fn _ => ?_)
  obtain ⟨rec, hrec⟩ : ∃ rec : Loop, rec = { state := .ready, pending := none, fn, tmps := a.tmps, params := #[p0, p1], assign, body, defers := w.heap.size } := ⟨_, rfl⟩
  obtain ⟨W1, hW1⟩ : ∃ W1, (w.alloc (.deferred (some []))).alloc (.loop rec) = W1 := ⟨_, rfl⟩
  have hL1 : W1.heap[w.heap.size + 1]? = some (.loop rec) := by
    rw [← hW1]; have := World.alloc_heap_new (w.alloc (.deferred (some []))) (.loop rec); rwa [World.size_alloc] at this
  have hold : ∀ k, k < w.heap.size → W1.heap[k]? = w.heap[k]? := fun k hk => by
    rw [← hW1]; exact (Below.heap_alloc _ _ k (by simp; omega)).trans (Below.heap_alloc _ _ k hk)
  have hD1 : W1.heap[w.heap.size]? = some (.deferred (some [])) := by
    rw [← hW1]; exact (Below.heap_alloc _ _ _ (by simp)).trans (World.alloc_heap_new w _)
  have hsz1 : W1.heap.size = w.heap.size + 2 := by rw [← hW1]; simp
  have hgs := hh.gr.size
  let own1 : Nat → Option Nat := fun k => if w.heap.size ≤ k then some 0 else own k
  have hh1 : HR w0 M (fun q => q < b0) ρ own1 (O i0) W1 := by
    have := hh.step (w' := W1) (U' := fun q => q < b0) (ρ' := ρ) (own' := own1) (upd := []) (fun _ => False) (by rw [← hW1]; rfl) (by rw [← hW1]; rfl) (by rw [← hW1]; rfl) (by omega) (fun k hk _ => ⟨hold k hk, by simp [own1]; omega⟩) (fun _ _ => rfl) (fun _ h => h) (fun _ h => h.elim) (fun _ _ h => by cases h) (fun _ _ h => by cases h)
    exact this
  have mk1 : Marks w0 own1 (w.heap.size :: Ds) W1 := ⟨List.nodup_cons.2 ⟨fun h => by have := heap_lt (mk.at_ _ h).2.2; omega, mk.nd⟩, fun D hD => by
    rcases List.mem_cons.1 hD with rfl | hD
    · exact ⟨by simp [own1], by omega, hD1⟩
    · obtain ⟨h1, h2, h3⟩ := mk.at_ D hD
      have := heap_lt h3
      exact ⟨by simp only [own1]; rw [if_neg (by omega)]; exact h1, h2, (hold D this).trans h3⟩⟩
  have m1 : Mid w0 M (fun q => q < b0) ρ b0 (w.heap.size :: Ds) (w.heap.size + 1) rec ρ own1 (O i0) W1 :=
    ⟨hh1, hnb, fun q hq => ⟨hq, rfl⟩, by simp [own1], by omega, mk1, hL1⟩
  have frt : FR N (fun c => c < b0) ρ s ⟨rec.tmps, []⟩ := ⟨by rw [hrec]; exact fr.sz, by rw [hrec]; exact fr.sl⟩
  refine ⟨w.heap.size + 1, [markD w.heap.size], W1, { target := .fn (.func f) #[ptrOf (ρ c) 0], args := #[.func (.yield (w.heap.size + 1)) #[] #[]] }, W1, f, #[.func (.yield (w.heap.size + 1)) #[] #[]] ++ #[ptrOf (ρ c) 0], W1, ?_, ?_, fun _ _ => trivial, ?_, fun h => (by cases h), ?_⟩
  · rw [← hW1, hrec]; exact run_enterLoop_outer _ _ _ _ _
  · have hev : a.eval g = .func (.func f) #[] #[ptrOf (ρ c) 0] := by rw [hgv.1]; rfl
    simp only [resolve, rangeCall, hev]
    simp [go_sem]
  · simp [invoke, go_sem, hef]
  · refine (hit enc xs bt c j w0 M ρ b0 (w.heap.size :: Ds) (w.heap.size + 1) rec O J W1 hcb' ⟨ad, had⟩ hxl hx hc hj (fun k i W ρ' own' hk hJk m hu => ?_) ⟨i0, ρ, own1, hJ, m1⟩).mono (fun e W2 hE => ?_)
    · have hRd := round_of (rec := rec) (P := P) (p0 := p0) (p1 := p1) (lv0 := .v (.int .i64 (k : Int))) (by rw [hrec]) (by rw [hrec]) (by rw [hrec]) (of_decide_eq_true hp0) (of_decide_eq_true hp1) (by rw [hrec]; exact round k i (w.heap.size + 1) hk hJk) m frt trivial hu
      exact hRd
    · obtain ⟨⟨v, rfl⟩, i, ρ2, own2, hJ0, m2⟩ := hE
      have m3 := m2.poke { rec with state := .exhausted }
      have hend := run_endLoop (P := P) m2.hl (by rw [hrec]; simp)
      have hp : rec.pending = none := by rw [hrec]
      refine ⟨none, _, hend.trans (congrArg (fun p => Result.ok p _) hp), ?_⟩
      refine hq _ _ _ _ _ (h i hJ0) ⟨ρ2, own2, w.heap.size :: Ds, ?_, m3.hr, ?_, m3.mks⟩
      · exact ⟨fr.sz, (fr_agree fr m2.ag).sl⟩
      · simp [hdf]
end Lg
end Go.Proofs.Ytpfhmodjjljpjaa

namespace Go.Proofs.Ytpfhmodjjljpjaa
open Go.RowKit
namespace Lg
set_option linter.unusedSimpArgs false
set_option linter.unusedVariables false
set_option maxRecDepth 100000
theorem HR.shrink {w0 w1 w w' : World} {M M' : Fp} {U U' : Nat → Prop} {ρ ρ' : Nat → Value} {own own' : Nat → Option Nat} {o : List (Nat × Ob)} (h : HR w0 M U ρ own o w) (h' : HR w1 M' U' ρ' own' o w') (hρ : ∀ i, U' i → ρ i = ρ' i) (hn : ∀ i, i < M.n → U' i) : HR w0 M U' ρ own o w :=
  ⟨fun i b hi => ⟨(h.ob i b hi).1, (h'.ob i b hi).2.1, Ob.used_mono hρ (fun _ h => h) (h'.ob i b hi).2.2⟩, h.gr, h.fr, h.z, h'.z0, fun i hi => ⟨hn i hi, (h.ag i hi).2⟩⟩
section
variable {w0 W W' : World} {M : Fp} {U : Nat → Prop} {ρ ρ' ρ2 : Nat → Value} {b0 : Nat} {Ds : List Nat} {l : Nat} {rec : Loop} {own' own2 : Nat → Option Nat} {o : List (Nat × Ob)} {ds : List Deferred}
theorem Mid.shrink {N : Nat} {a : Act} {s s' : List (Nat × LV)} (m : Mid w0 M (fun q => q < b0) ρ b0 Ds l rec ρ' own' o W) (k : HR W (reb b0 ρ' own' ds) U ρ2 own2 o W') (fr : FR N U ρ2 s a) (hs : ∀ p ∈ s', s.lookup p.1 = some p.2) (hu : (∀ q, q < b0 → q < b0 ∧ ρ2 q = ρ q) → ∀ p ∈ s', p.2.used (fun q => q < b0) ρ2) :
    Mid w0 M (fun q => q < b0) ρ b0 Ds l rec ρ2 own2 o W' ∧ FR N (fun q => q < b0) ρ2 s' a := by
  have m1 := m.based k
  have hag : ∀ q, q < b0 → q < b0 ∧ ρ2 q = ρ q := fun q hq => ⟨hq, (m1.ag q hq).2⟩
  refine ⟨⟨m1.hr.shrink m.hr (fun q hq => (m1.ag q hq).2.trans (m.ag q hq).2.symm) (fun q hq => Nat.lt_of_lt_of_le hq m.hb), m1.hb, hag, m1.ol, m1.l0, m1.mks, m1.hl⟩, fr.sz, fun d lv hd => ?_⟩
  have hm : ∃ p ∈ s', p.1 = d ∧ p.2 = lv := ⟨(d, lv), lookup_mem hd, rfl, rfl⟩
  obtain ⟨p, hp, rfl, rfl⟩ := hm
  exact ⟨(fr.sl _ _ (hs p hp)).1, hu hag p hp⟩
end
theorem op_step {ro : Option Nat} {P : Program} {N b nn j : Nat} {ops : Array Oper} {o : Oper} {rest : List Nat} {pre : List Nat} {st : St} {lv : LV} {upd : List (Nat × Ob)} {w0 : World} {M : Fp} {U U' : Nat → Prop} {a : Act} {w : World} {Q : Exit → Act → World → Prop} (h : Rep N w0 M U st a w) (ho : ops[j]? = some o) (hg : On ops st o true) (ht : T P N o b pre st lv nn upd) (hd : ∀ d, o.dst = some d → d < N)
    (hf : ∀ i, b ≤ i → i < b + nn → ¬ U i) (hU : ∀ i, grow U b nn i → U' i) (next : ∀ a' w', Rep N w0 M U' (st.app o.dst lv upd) a' w' → wpOpsIn (Fw ro) 0 P ops Q rest a' w') : wpOpsIn (Fw ro) 0 P ops Q (j :: rest) a w := by
  have h' := h
  obtain ⟨ρ, own, fr, hh, hdf⟩ := h'
  simp only [wpOpsIn, ho, wanted_of hg fr, if_true]
  exact rep_op ht h (fun _ _ => rfl) (fun _ _ => rfl) hf hU hd _ Q next
theorem op_step0 {ro : Option Nat} {P : Program} {N b j : Nat} {ops : Array Oper} {o : Oper} {rest : List Nat} {pre : List Nat} {st : St} {lv : LV} {upd : List (Nat × Ob)} {w0 : World} {M : Fp} {U : Nat → Prop} {a : Act} {w : World} {Q : Exit → Act → World → Prop} (h : Rep N w0 M U st a w) (ho : ops[j]? = some o) (hg : On ops st o true) (ht : T P N o b pre st lv 0 upd) (hd : ∀ d, o.dst = some d → d < N)
    (next : ∀ a' w', Rep N w0 M U (st.app o.dst lv upd) a' w' → wpOpsIn (Fw ro) 0 P ops Q rest a' w') : wpOpsIn (Fw ro) 0 P ops Q (j :: rest) a w :=
  op_step h ho hg ht hd (fun i h1 h2 => by omega) (fun i hi => by rcases hi with hi | hi; exact hi; omega) next
theorem FR.swap {N : Nat} {U U' : Nat → Prop} {ρ ρ' : Nat → Value} {s s' : List (Nat × LV)} {a : Act} (fr : FR N U ρ s a) (hs : ∀ p ∈ s', s.lookup p.1 = some p.2) (hv : ∀ p ∈ s', p.2.val ρ' = p.2.val ρ ∧ p.2.used U' ρ') : FR N U' ρ' s' a :=
  ⟨fr.sz, fun d lv hd => by
    have hm := lookup_mem hd
    exact ⟨by rw [(fr.sl _ _ (hs _ hm)).1, (hv _ hm).1], (hv _ hm).2⟩⟩
theorem yield_op {P : Program} {j l : Nat} {ops : Array Oper} {o : Oper} {rest : List Nat} {x y1 y2 : Operand} {ts : Array TypeId} {a : Act} {w : World} {Q R} (ho : ops[j]? = some o) (hgd : o.guard = none) (hop : o.op = .call { callee := .value x, args := #[y1, y2], argTypes := ts }) (hx : a.eval x = .func (.yield l) #[] #[]) (hY : YieldAt (Fw none) 0 P l #[a.eval y1, a.eval y2] w R)
    (next : ∀ e w', R e w' → ∃ v, e = .returned v ∧ wpOpsIn (Fw none) 0 P ops Q rest (a.put o.dst v) w') : wpOpsIn (Fw none) 0 P ops Q (j :: rest) a w := by
  obtain ⟨fn, tmps, assign, body, hy, hR⟩ := hY
  have hw : Region.wanted o (yielded ops a.tmps) = true := by simp [Region.wanted, hgd]
  simp only [wpOpsIn, ho, hw, if_true]
  refine ⟨fun _ _ => trivial, ?_⟩
  have key : ∀ ev : Operand → Value, ev x = .func (.yield l) #[] #[] → (Instr.yield l #[ev y1, ev y2]).run P w = .ok (.round l fn tmps assign body) w → (execOp ev o).run P w = .ok (.round l fn tmps assign body) w := fun ev h1 h2 => by
    simp only [execOp, hop, resolve, h1]
    simp [go_sem, invoke, h2]
  have hrun : (o.semAt (Fw none).round a.eval).run P w = .ok (.round l fn tmps assign body) w := by
    rw [show (Fw none).round = none from rfl, Oper.semAt_none]
    exact key _ hx hy
  rw [hrun]
  refine ⟨fun h => (by cases h), hR.mono (fun e w' he => ?_)⟩
  obtain ⟨v, rfl, h⟩ := next e w' he
  exact h
set_option maxHeartbeats 1600000 in
theorem iter129 : IterB Try.prog 129 8 := by
  intro ι α _ enc xs bt c j w0 M ρ b0 Ds l rec O J W hc hb hxl hx hOc hOj hY hI
  obtain ⟨ad, had⟩ := hb
  have hlen : (xs.length : Int) ≤ 9223372036854775807 := by simp only [maxLen] at hxl; omega
  refine callsIn_of_wp (fn := Try.f129) (c := _) Try.func129 rfl trivial ?_ rfl
  obtain ⟨i, ρ', own', hJ0, m⟩ := hI
  let y : Value := .func (.yield l) #[] #[]
  have frI : ∀ ρ', (∀ q, q < b0 → q < b0 ∧ ρ' q = ρ q) → (LV.p c 0).used (fun q => q < b0) ρ' := fun ρ' hag => ⟨hc, ad, by rw [(hag c hc).2]; exact had⟩
  have fr0 : FR 19 (fun q => q < b0) ρ' [(0, .v y), (1, .p c 0)] { tmps := #[y, ptrOf (ρ c) 0] ++ Array.replicate (19 - 2) undef, defers := [] } := by
    refine ⟨rfl, fun d lv hd => ?_⟩
    simp only [List.lookup] at hd
    have hρc := (m.ag c hc).2
    split at hd
    · rename_i h; obtain rfl : d = 0 := by simpa using h
      cases hd; exact ⟨by simp [LV.val], trivial⟩
    · split at hd
      · rename_i h; obtain rfl : d = 1 := by simpa using h
        cases hd; exact ⟨by simp [LV.val, hρc], frI ρ' m.ag⟩
      · cases hd
  refine wpIn_seq ?_
  refine region_seq (N := 19) (bs := b0) rfl (.op rfl (.plain rfl) (T_load_b D rfl rfl (hOc i) rfl rfl rfl) rfl <| .op rfl (.plain rfl) (T_len D rfl rfl (hOj i) rfl rfl rfl) rfl <| .op rfl (.plain rfl) (T_sub64 rfl rfl rfl (by omega)) rfl <| .op rfl (.plain rfl) (T_assign rfl rfl) rfl <| .done rfl) (m.rep1 fr0 rfl) (fun a1 W1 hr1 => ?_)
  obtain ⟨ρ1, own1, fr1, hr1', hd1⟩ := hr1
  obtain ⟨m1, fr1⟩ := Mid.shrink m hr1' fr1 (s' := [(0, .v y), (1, .p c 0), (3, .v (.int .i64 ((xs.length : Int) - 1)))]) (fun p hp => by simp only [List.mem_cons, List.not_mem_nil, or_false] at hp; rcases hp with rfl | rfl | rfl <;> rfl) (fun hag p hp => by simp only [List.mem_cons, List.not_mem_nil, or_false] at hp; rcases hp with rfl | rfl | rfl <;> first | trivial | exact frI _ hag)
  refine wpIn_block (wpIn_lessen (fun k a W => ∃ (n : Nat) (i : ι) (ρ' : Nat → Value) (own' : Nat → Option Nat), k = n ∧ n ≤ xs.length ∧ J n i ∧ Mid w0 M (fun q => q < b0) ρ b0 Ds l rec ρ' own' (O i) W ∧ FR 19 (fun q => q < b0) ρ' [(0, .v y), (1, .p c 0), (3, .v (.int .i64 ((n : Int) - 1)))] a ∧ a.defers = []) xs.length ⟨xs.length, i, ρ1, own1, rfl, Nat.le_refl _, hJ0, m1, fr1, hd1⟩ (fun n a W hk => ?_))
  obtain ⟨_, i, ρ', own', rfl, hn, hJn, m, fr, hd⟩ := hk
  refine wpIn_seq (wpIn_seq ?_)
  refine region_seq (N := 19) (bs := b0) rfl (.op rfl (.plain rfl) (T_move rfl rfl) rfl <| .op rfl (.plain rfl) (T_cmp rfl rfl rfl rfl) rfl <| .done rfl) (m.rep1 fr hd) (fun a1 W1 hr1 => ?_)
  obtain ⟨ρ1, own1, fr1, hr1', hd1⟩ := hr1
  have h8 := (FR.eval (st := ⟨_, []⟩) (x := .tmp 8) fr1 rfl).1
  obtain ⟨m1, fr1⟩ := Mid.shrink m hr1' fr1 (s' := [(0, .v y), (1, .p c 0), (3, .v (.int .i64 ((n : Int) - 1)))]) (fun p hp => by simp only [List.mem_cons, List.not_mem_nil, or_false] at hp; rcases hp with rfl | rfl | rfl <;> rfl) (fun hag p hp => by simp only [List.mem_cons, List.not_mem_nil, or_false] at hp; rcases hp with rfl | rfl | rfl <;> first | trivial | exact frI _ hag)
  refine wpIn_cond_split h8 (fun hge => ?_) (fun hlt => ?_)
  · refine wpIn_skip ?_
    have hn0 : (n : Int) - 1 ≥ 0 := of_decide_eq_true hge
    obtain ⟨k, rfl⟩ : ∃ k, n = k + 1 := ⟨n - 1, by omega⟩
    have e : ((k + 1 : Nat) : Int) - 1 = (k : Int) := by omega
    rw [e] at fr1
    have hk : k < xs.length := by omega
    have hxk := hx _ (getD_mem hk)
    refine wpIn_seq (wpIn_block (wpIn_seq (wpIn_region ?_)))
    show wpOpsIn (Fw none) 0 Try.prog _ _ [0, 1, 2, 3, 4, 5, 6, 7] a1 W1
    refine op_step0 (b := b0) (m1.rep1 fr1 hd1) rfl (.plain rfl) (T_move rfl rfl) (fun d hd => by cases hd; decide) (fun a2 W2 h2 => ?_)
    refine op_step0 (b := b0) h2 rfl (.plain rfl) (T_move rfl rfl) (fun d hd => by cases hd; decide) (fun a3 W3 h3 => ?_)
    refine op_step0 (b := b0) h3 rfl (.plain rfl) (T_load_b D rfl rfl (hOc i) rfl rfl rfl) (fun d hd => by cases hd; decide) (fun a4 W4 h4 => ?_)
    refine op_step0 (b := b0) h4 rfl (.plain rfl) (T_move rfl rfl) (fun d hd => by cases hd; decide) (fun a5 W5 h5 => ?_)
    refine op_step0 (b := b0) h5 rfl (.plain rfl) (T_indexAddr D rfl rfl (hOj i) rfl rfl rfl rfl rfl hk) (fun d hd => by cases hd; decide) (fun a6 W6 h6 => ?_)
    refine op_step (b := b0 + 80) (U' := fun q => q < b0 + 96) h6 rfl (.plain rfl) (T_ldEA D rfl rfl (hOj i) rfl rfl hk (cls := enc (xs.getD k default)) (by rw [List.drop_zero]; exact List.take_of_length_le (Nat.le_of_eq hxk.1)) hxk.1 rfl rfl rfl) (fun d hd => by cases hd; decide) (fun q h1 h2 h3 => by omega) (fun q hq => by rcases hq with hq | hq <;> omega) (fun a7 W7 h7 => ?_)
    obtain ⟨ρ7, own7, fr7, hr7, hd7⟩ := h7
    have m7 := m1.based hr7
    have e0 := FR.eval (st := ⟨_, []⟩) (x := .tmp 11) fr7 rfl
    have e1 := FR.eval (st := ⟨_, []⟩) (x := .tmp 12) fr7 rfl
    have e2 := FR.eval (st := ⟨_, []⟩) (x := .tmp 16) fr7 rfl
    refine yield_op (l := l) rfl rfl rfl e0.1 (by rw [e1.1, e2.1]; exact hY k i _ ρ7 own7 hk hJn m7 e2.2) (fun e W8 he => ?_)
    obtain ⟨rfl, i', ρ8, own8, hJ8, m8⟩ := he
    refine ⟨.bool true, rfl, ?_⟩
    have fr8 : FR 19 (fun q => q < b0) ρ8 [(0, .v y), (1, .p c 0), (3, .v (.int .i64 (k : Int)))] a7 := fr7.swap (fun p hp => by simp only [List.mem_cons, List.not_mem_nil, or_false] at hp; rcases hp with rfl | rfl | rfl <;> rfl) (fun p hp => by
      simp only [List.mem_cons, List.not_mem_nil, or_false] at hp
      rcases hp with rfl | rfl | rfl
      · exact ⟨rfl, trivial⟩
      · exact ⟨by simp only [LV.val]; rw [(m8.ag c hc).2, (m7.ag c hc).2], frI _ m8.ag⟩
      · exact ⟨rfl, trivial⟩)
    have fr9 := fr8.put (fun _ _ => rfl) (fun _ h => h) (lv := .v (.bool true)) trivial 17 (by decide)
    refine op_step0 (b := b0) (m8.rep1 fr9 ((put_defers _ _ _).trans hd7)) rfl (.plain rfl) (T_not rfl rfl) (fun d hd => by cases hd; decide) (fun a9 W9 h9 => ?_)
    obtain ⟨ρ9, own9, fr9', hr9, hd9⟩ := h9
    have h18 := (FR.eval (st := ⟨_, []⟩) (x := .tmp 18) fr9' rfl).1
    obtain ⟨m9, fr9⟩ := Mid.shrink m8 hr9 fr9' (s' := [(0, .v y), (1, .p c 0), (3, .v (.int .i64 (k : Int)))]) (fun p hp => by simp only [List.mem_cons, List.not_mem_nil, or_false] at hp; rcases hp with rfl | rfl | rfl <;> rfl) (fun hag p hp => by simp only [List.mem_cons, List.not_mem_nil, or_false] at hp; rcases hp with rfl | rfl | rfl <;> first | trivial | exact frI _ hag)
    refine wpIn_cond_split h18 (fun h => by cases h) (fun _ => wpIn_skip ?_)
    refine region_seq (N := 19) (bs := b0) rfl (.op rfl (.plain rfl) (T_move rfl rfl) rfl <| .op rfl (.plain rfl) (T_sub64 rfl rfl rfl (by omega)) rfl <| .op rfl (.plain rfl) (T_assign rfl rfl) rfl <| .done rfl) (m9.rep1 fr9 hd9) (fun a10 W10 hr10 => ?_)
    obtain ⟨ρ10, own10, fr10, hr10', hd10⟩ := hr10
    obtain ⟨m10, fr10⟩ := Mid.shrink m9 hr10' fr10 (s' := [(0, .v y), (1, .p c 0), (3, .v (.int .i64 ((k : Int) - 1)))]) (fun p hp => by simp only [List.mem_cons, List.not_mem_nil, or_false] at hp; rcases hp with rfl | rfl | rfl <;> rfl) (fun hag p hp => by simp only [List.mem_cons, List.not_mem_nil, or_false] at hp; rcases hp with rfl | rfl | rfl <;> first | trivial | exact frI _ hag)
    exact ⟨k, Nat.lt_succ_self k, k, i', ρ10, own10, rfl, by omega, hJ8, m10, fr10, hd10⟩
  · refine wpIn_exit ?_
    have hn0 : ¬ ((n : Int) - 1 ≥ 0) := of_decide_eq_false hlt
    obtain rfl : n = 0 := by omega
    exact ⟨hd1, _, results_none rfl _ _ _, ⟨_, rfl⟩, i, ρ1, own1, hJn, m1⟩
set_option maxHeartbeats 1600000 in
theorem iter126 : IterB Try.prog 126 5 := by
  intro ι α _ enc xs bt c j w0 M ρ b0 Ds l rec O J W hc hb hxl hx hOc hOj hY hI
  obtain ⟨ad, had⟩ := hb
  have hlen : (xs.length : Int) ≤ 9223372036854775807 := by simp only [maxLen] at hxl; omega
  refine callsIn_of_wp (fn := Try.f126) (c := _) Try.func126 rfl trivial ?_ rfl
  obtain ⟨i, ρ', own', hJ0, m⟩ := hI
  let y : Value := .func (.yield l) #[] #[]
  have frI : ∀ ρ', (∀ q, q < b0 → q < b0 ∧ ρ' q = ρ q) → (LV.p c 0).used (fun q => q < b0) ρ' := fun ρ' hag => ⟨hc, ad, by rw [(hag c hc).2]; exact had⟩
  have fr0 : FR 19 (fun q => q < b0) ρ' [(0, .v y), (1, .p c 0)] { tmps := #[y, ptrOf (ρ c) 0] ++ Array.replicate (19 - 2) undef, defers := [] } := by
    refine ⟨rfl, fun d lv hd => ?_⟩
    simp only [List.lookup] at hd
    have hρc := (m.ag c hc).2
    split at hd
    · rename_i h; obtain rfl : d = 0 := by simpa using h
      cases hd; exact ⟨by simp [LV.val], trivial⟩
    · split at hd
      · rename_i h; obtain rfl : d = 1 := by simpa using h
        cases hd; exact ⟨by simp [LV.val, hρc], frI ρ' m.ag⟩
      · cases hd
  refine wpIn_seq ?_
  refine region_seq (N := 19) (bs := b0) rfl (.op rfl (.plain rfl) (T_load_b D rfl rfl (hOc i) rfl rfl rfl) rfl <| .op rfl (.plain rfl) (T_len D rfl rfl (hOj i) rfl rfl rfl) rfl <| .op rfl (.plain rfl) (T_sub64 rfl rfl rfl (by omega)) rfl <| .op rfl (.plain rfl) (T_assign rfl rfl) rfl <| .done rfl) (m.rep1 fr0 rfl) (fun a1 W1 hr1 => ?_)
  obtain ⟨ρ1, own1, fr1, hr1', hd1⟩ := hr1
  obtain ⟨m1, fr1⟩ := Mid.shrink m hr1' fr1 (s' := [(0, .v y), (1, .p c 0), (3, .v (.int .i64 ((xs.length : Int) - 1)))]) (fun p hp => by simp only [List.mem_cons, List.not_mem_nil, or_false] at hp; rcases hp with rfl | rfl | rfl <;> rfl) (fun hag p hp => by simp only [List.mem_cons, List.not_mem_nil, or_false] at hp; rcases hp with rfl | rfl | rfl <;> first | trivial | exact frI _ hag)
  refine wpIn_block (wpIn_lessen (fun k a W => ∃ (n : Nat) (i : ι) (ρ' : Nat → Value) (own' : Nat → Option Nat), k = n ∧ n ≤ xs.length ∧ J n i ∧ Mid w0 M (fun q => q < b0) ρ b0 Ds l rec ρ' own' (O i) W ∧ FR 19 (fun q => q < b0) ρ' [(0, .v y), (1, .p c 0), (3, .v (.int .i64 ((n : Int) - 1)))] a ∧ a.defers = []) xs.length ⟨xs.length, i, ρ1, own1, rfl, Nat.le_refl _, hJ0, m1, fr1, hd1⟩ (fun n a W hk => ?_))
  obtain ⟨_, i, ρ', own', rfl, hn, hJn, m, fr, hd⟩ := hk
  refine wpIn_seq (wpIn_seq ?_)
  refine region_seq (N := 19) (bs := b0) rfl (.op rfl (.plain rfl) (T_move rfl rfl) rfl <| .op rfl (.plain rfl) (T_cmp rfl rfl rfl rfl) rfl <| .done rfl) (m.rep1 fr hd) (fun a1 W1 hr1 => ?_)
  obtain ⟨ρ1, own1, fr1, hr1', hd1⟩ := hr1
  have h8 := (FR.eval (st := ⟨_, []⟩) (x := .tmp 8) fr1 rfl).1
  obtain ⟨m1, fr1⟩ := Mid.shrink m hr1' fr1 (s' := [(0, .v y), (1, .p c 0), (3, .v (.int .i64 ((n : Int) - 1)))]) (fun p hp => by simp only [List.mem_cons, List.not_mem_nil, or_false] at hp; rcases hp with rfl | rfl | rfl <;> rfl) (fun hag p hp => by simp only [List.mem_cons, List.not_mem_nil, or_false] at hp; rcases hp with rfl | rfl | rfl <;> first | trivial | exact frI _ hag)
  refine wpIn_cond_split h8 (fun hge => ?_) (fun hlt => ?_)
  · refine wpIn_skip ?_
    have hn0 : (n : Int) - 1 ≥ 0 := of_decide_eq_true hge
    obtain ⟨k, rfl⟩ : ∃ k, n = k + 1 := ⟨n - 1, by omega⟩
    have e : ((k + 1 : Nat) : Int) - 1 = (k : Int) := by omega
    rw [e] at fr1
    have hk : k < xs.length := by omega
    have hxk := hx _ (getD_mem hk)
    refine wpIn_seq (wpIn_block (wpIn_seq (wpIn_region ?_)))
    show wpOpsIn (Fw none) 0 Try.prog _ _ [0, 1, 2, 3, 4, 5, 6, 7] a1 W1
    refine op_step0 (b := b0) (m1.rep1 fr1 hd1) rfl (.plain rfl) (T_move rfl rfl) (fun d hd => by cases hd; decide) (fun a2 W2 h2 => ?_)
    refine op_step0 (b := b0) h2 rfl (.plain rfl) (T_move rfl rfl) (fun d hd => by cases hd; decide) (fun a3 W3 h3 => ?_)
    refine op_step0 (b := b0) h3 rfl (.plain rfl) (T_load_b D rfl rfl (hOc i) rfl rfl rfl) (fun d hd => by cases hd; decide) (fun a4 W4 h4 => ?_)
    refine op_step0 (b := b0) h4 rfl (.plain rfl) (T_move rfl rfl) (fun d hd => by cases hd; decide) (fun a5 W5 h5 => ?_)
    refine op_step0 (b := b0) h5 rfl (.plain rfl) (T_indexAddr D rfl rfl (hOj i) rfl rfl rfl rfl rfl hk) (fun d hd => by cases hd; decide) (fun a6 W6 h6 => ?_)
    refine op_step (b := b0 + 80) (U' := fun q => q < b0 + 96) h6 rfl (.plain rfl) (T_ldEA D rfl rfl (hOj i) rfl rfl hk (cls := enc (xs.getD k default)) (by rw [List.drop_zero]; exact List.take_of_length_le (Nat.le_of_eq hxk.1)) hxk.1 rfl rfl rfl) (fun d hd => by cases hd; decide) (fun q h1 h2 h3 => by omega) (fun q hq => by rcases hq with hq | hq <;> omega) (fun a7 W7 h7 => ?_)
    obtain ⟨ρ7, own7, fr7, hr7, hd7⟩ := h7
    have m7 := m1.based hr7
    have e0 := FR.eval (st := ⟨_, []⟩) (x := .tmp 11) fr7 rfl
    have e1 := FR.eval (st := ⟨_, []⟩) (x := .tmp 12) fr7 rfl
    have e2 := FR.eval (st := ⟨_, []⟩) (x := .tmp 16) fr7 rfl
    refine yield_op (l := l) rfl rfl rfl e0.1 (by rw [e1.1, e2.1]; exact hY k i _ ρ7 own7 hk hJn m7 e2.2) (fun e W8 he => ?_)
    obtain ⟨rfl, i', ρ8, own8, hJ8, m8⟩ := he
    refine ⟨.bool true, rfl, ?_⟩
    have fr8 : FR 19 (fun q => q < b0) ρ8 [(0, .v y), (1, .p c 0), (3, .v (.int .i64 (k : Int)))] a7 := fr7.swap (fun p hp => by simp only [List.mem_cons, List.not_mem_nil, or_false] at hp; rcases hp with rfl | rfl | rfl <;> rfl) (fun p hp => by
      simp only [List.mem_cons, List.not_mem_nil, or_false] at hp
      rcases hp with rfl | rfl | rfl
      · exact ⟨rfl, trivial⟩
      · exact ⟨by simp only [LV.val]; rw [(m8.ag c hc).2, (m7.ag c hc).2], frI _ m8.ag⟩
      · exact ⟨rfl, trivial⟩)
    have fr9 := fr8.put (fun _ _ => rfl) (fun _ h => h) (lv := .v (.bool true)) trivial 17 (by decide)
    refine op_step0 (b := b0) (m8.rep1 fr9 ((put_defers _ _ _).trans hd7)) rfl (.plain rfl) (T_not rfl rfl) (fun d hd => by cases hd; decide) (fun a9 W9 h9 => ?_)
    obtain ⟨ρ9, own9, fr9', hr9, hd9⟩ := h9
    have h18 := (FR.eval (st := ⟨_, []⟩) (x := .tmp 18) fr9' rfl).1
    obtain ⟨m9, fr9⟩ := Mid.shrink m8 hr9 fr9' (s' := [(0, .v y), (1, .p c 0), (3, .v (.int .i64 (k : Int)))]) (fun p hp => by simp only [List.mem_cons, List.not_mem_nil, or_false] at hp; rcases hp with rfl | rfl | rfl <;> rfl) (fun hag p hp => by simp only [List.mem_cons, List.not_mem_nil, or_false] at hp; rcases hp with rfl | rfl | rfl <;> first | trivial | exact frI _ hag)
    refine wpIn_cond_split h18 (fun h => by cases h) (fun _ => wpIn_skip ?_)
    refine region_seq (N := 19) (bs := b0) rfl (.op rfl (.plain rfl) (T_move rfl rfl) rfl <| .op rfl (.plain rfl) (T_sub64 rfl rfl rfl (by omega)) rfl <| .op rfl (.plain rfl) (T_assign rfl rfl) rfl <| .done rfl) (m9.rep1 fr9 hd9) (fun a10 W10 hr10 => ?_)
    obtain ⟨ρ10, own10, fr10, hr10', hd10⟩ := hr10
    obtain ⟨m10, fr10⟩ := Mid.shrink m9 hr10' fr10 (s' := [(0, .v y), (1, .p c 0), (3, .v (.int .i64 ((k : Int) - 1)))]) (fun p hp => by simp only [List.mem_cons, List.not_mem_nil, or_false] at hp; rcases hp with rfl | rfl | rfl <;> rfl) (fun hag p hp => by simp only [List.mem_cons, List.not_mem_nil, or_false] at hp; rcases hp with rfl | rfl | rfl <;> first | trivial | exact frI _ hag)
    exact ⟨k, Nat.lt_succ_self k, k, i', ρ10, own10, rfl, by omega, hJ8, m10, fr10, hd10⟩
  · refine wpIn_exit ?_
    have hn0 : ¬ ((n : Int) - 1 ≥ 0) := of_decide_eq_false hlt
    obtain rfl : n = 0 := by omega
    exact ⟨hd1, _, results_none rfl _ _ _, ⟨_, rfl⟩, i, ρ1, own1, hJn, m1⟩
end Lg
end Go.Proofs.Ytpfhmodjjljpjaa

namespace Go.Proofs.Ytpfhmodjjljpjaa
open Go.RowKit
namespace Lg
set_option linter.unusedSimpArgs false
set_option linter.unusedVariables false
inductive Clo : St → St → Prop
  | refl {st : St} : Clo st st
  | step {α : Type} {enc : α → List Cell} {xs : List (List α)} {ys : List α} {i q e e2 sz2 j : Nat} {st st' : St} (hi : st.o.lookup i = some (.nest e e2 sz2 (xs.map (List.map enc)) (some (j, q)))) (hq : st.o.lookup q = some (.row e2 sz2 (ys.map enc)))
      (h : Clo ⟨st.s, (i, .nest e e2 sz2 ((xs.set j ys).map (List.map enc)) none) :: (q, .no) :: st.o⟩ st') : Clo st st'
  | nil {α : Type} {enc : α → List Cell} {i e e2 sz2 : Nat} {st st' : St} (hi : st.o.lookup i = some (.row e 1 [])) (hs : (0 < sz2) = True) (h : Clo ⟨st.s, (i, .nest e e2 sz2 (([] : List (List α)).map (List.map enc)) none) :: st.o⟩ st') : Clo st st'
theorem Rep.clo {N : Nat} {w0 : World} {M : Fp} {U : Nat → Prop} {st st' : St} {a : Act} {w : World} (c : Clo st st') (h : Rep N w0 M U st a w) : Rep N w0 M U st' a w := by
  induction c with
  | refl => exact h
  | @step α enc xs ys i q e e2 sz2 j st st' hi hq _ ih =>
    obtain ⟨ρ, own, fr, hr, hd⟩ := h
    obtain ⟨own', hr'⟩ := hr.close hi hq
    exact ih ⟨ρ, own', fr, hr', hd⟩
  | @nil α enc i e e2 sz2 st st' hi hs _ ih =>
    obtain ⟨ρ, own, fr, hr, hd⟩ := h
    have h1 := hr.retell hi (ob' := .nest e e2 sz2 (([] : List (List α)).map (List.map enc)) none) (fun h => by
      have := nest_of_nils (e := e) (e2 := e2) (m := 0) (of_eq_true hs) (by simpa using h)
      simpa using this) (fun _ => fun j b hb => by cases hb)
    exact ih ⟨ρ, own, fr, h1, hd⟩
section
variable {ro : Option Nat} {P : Program} {N n b b' id : Nat} {st : St} {ops : Array Oper} {K : Exit → Nat → St → Prop}
theorem W_clo {c : Code} {st' : St} (hc : Clo st st') (h : W ro P N n c b st' K) : W ro P N n c b st K := by
  intro w0 M Q a w hn hq hr
  obtain ⟨M', h1, h2, h3⟩ := hr.via
  exact h w0 M Q a w hn hq (h3 _ _ _ _ (h2.clo hc))
theorem W_seqC (hd : dstsOk ops N = true) (hb : b + 16 * ops.size = b') (r : RunK P N ops b 0 st (fun _ st' => ∃ st2, Clo st' st2 ∧ K .normal b' st2)) : W ro P N n (.region id ops false) b st K := by
  obtain ⟨tr, st', r, st2, hc, h⟩ := r
  intro w0 M Q a w hn hq hr
  subst hb
  obtain ⟨M', h1, h2, h3⟩ := hr.via
  exact region_seq hd r h2 (fun a' w' hr' => hq _ _ _ _ _ h (h3 _ _ _ _ (hr'.clo hc)))
theorem W_anyC (hm : P.follows .mixedOrders = true) (hd : dstsOk ops N = true) (hb : b + 16 * ops.size = b') (r : RunK P N ops b 0 st (fun tr st' => chk ops tr = true ∧ ∃ st2, Clo st' st2 ∧ K .normal b' st2)) : W ro P N n (.region id ops true) b st K := by
  obtain ⟨tr, st', r, hk, st2, hc, h⟩ := r
  intro w0 M Q a w hn hq hr
  subst hb
  obtain ⟨M', h1, h2, h3⟩ := hr.via
  exact region_any hm hd r hk h2 (fun a' w' hr' => hq _ _ _ _ _ h (h3 _ _ _ _ (hr'.clo hc)))
theorem W_nilR {o0 o1 : Oper} {d0 d1 i sz : Nat} {x0 : Operand} {t t' : TypeId} {v : Value} {rows : List (List Cell)} (hd : dstsOk #[o0, o1] N = true) (h0 : o0.op = .move x0) (h0d : o0.dst = some d0) (h0g : o0.guard = none) (hx0 : st.ev x0 = some (.r i)) (h1 : o1.op = .binOp .eql t (.tmp d0) (.const v) t') (hv : v = .slice none 0 0) (h1d : o1.dst = some d1) (h1g : o1.guard = none)
    (ht : (match P.underlying t with | some (.slice _) => true | _ => false) = true) (hob : (st.o.lookup i).bind Ob.rows? = some (sz, rows)) (hb : b + 32 = b') (h : ∀ c, (c = true → rows = []) → K .normal b' ⟨(d1, .v (.bool c)) :: (d0, .r i) :: st.s, st.o⟩) : W ro P N n (.region id #[o0, o1] false) b st K := by
  intro w0 M Q a w hn hq hr
  subst hb hv
  obtain ⟨M', e1, e2, e3⟩ := hr.via
  refine wpIn_region ?_
  show wpOpsIn _ _ _ _ _ [0, 1] _ _
  refine op_step0 (b := b) e2 (o := o0) rfl (.plain h0g) (T_move h0 hx0) (fun d hd' => dsts_ok hd (j := 0) rfl d hd') (fun a1 w1 r1 => ?_)
  obtain ⟨ρ, own, fr, hh, hdf⟩ := r1
  have hst : (⟨st.s, st.o⟩ : St) = st := rfl
  simp only [St.app, h0d, List.nil_append] at fr hh
  have hv0 := FR.eval (st := ⟨(d0, .r i) :: st.s, []⟩) (x := .tmp d0) (lv := .r i) fr (by simp [St.ev])
  obtain ⟨ob, ho1, ho2⟩ := Option.bind_eq_some_iff.1 hob
  obtain ⟨g1, g2, _⟩ := hh.ob i _ ho1
  obtain ⟨A, c, hA, _, hne⟩ := rows_base g1 ho2
  have hw : Region.wanted o1 (yielded #[o0, o1] a1.tmps) = true := by simp [Region.wanted, h1g]
  obtain ⟨cb, hcb, hcr⟩ : ∃ cb : Bool, (execOp a1.eval o1).run P w1 = .ok (.value (.bool cb)) w1 ∧ (cb = true → rows = []) := by
    have key : ∀ ev : Operand → Value, ev (.tmp d0) = .slice A rows.length c → ev (.const (.slice none 0 0)) = .slice none 0 0 → (execOp ev o1).run P w1 = .ok (.value (.bool A.isNone)) w1 := fun ev k1 k2 => by
      simp only [execOp, h1, k1, k2]
      cases hu : P.underlying t with
      | none => rw [hu] at ht; cases ht
      | some q =>
        rw [hu] at ht
        cases q with
        | slice e => simp [eqGuard, binOp, run_equal_slice_nil w1 t e A rows.length c hu]
        | _ => cases ht
    refine ⟨A.isNone, key _ (by rw [hv0.1]; exact hA) rfl, fun hn => ?_⟩
    cases hr0 : rows with
    | nil => rfl
    | cons r rs =>
      obtain ⟨a0, ha0⟩ := hne (by rw [hr0]; simp)
      rw [ha0] at hn; cases hn
  simp only [wpOpsIn, List.getElem?_toArray]
  show (if Region.wanted o1 (yielded #[o0, o1] a1.tmps) = true then _ else _)
  rw [if_pos hw]
  refine (OpDoes.wpIn (R := fun v w' => v = .bool cb ∧ w' = w1) (does_value hcb ⟨rfl, rfl⟩)) _ _ (fun v w' hv' => ?_)
  obtain ⟨rfl, rfl⟩ := hv'
  refine hq _ _ _ _ _ (h cb hcr) (e3 _ _ _ _ ?_)
  refine ⟨ρ, own, ?_, hh.mono (fun i hi => by omega), (put_defers _ _ _).trans hdf⟩
  rw [h1d]
  exact fr.put (fun _ _ => rfl) (fun i hi => by omega) (lv := .v (.bool cb)) trivial d1 (dsts_ok hd (j := 1) rfl d1 h1d)
end
end Lg
end Go.Proofs.Ytpfhmodjjljpjaa

namespace Go.Proofs.Ytpfhmodjjljpjaa
open Go.RowKit
namespace Lg
theorem T_eqTac8 {N : Nat} {o : Oper} {b : Nat} {st : St} {x y : Operand} (u : GTac) {v1 v2 v3 v4 v5 v6 v7 v8 : Int} {t' : TypeId} (ho : o.op = .binOp .eql 70 x y t') (hx : st.ev x = some (lvTac u))
    (hy : st.ev y = some (.agg [.v (.int .i64 v1), .v (.int .i64 v2), .v (.int .i64 v3), .v (.int .i64 v4), .v (.int .i64 v5), .v (.int .i64 v6), .v (.int .i64 v7), .v (.int .u32 v8)])) : T Try.prog N o b [] st (.v (.bool (decide (u = ⟨v1, v2, v3, v4, v5, v6, v7, v8⟩)))) 0 [] :=
  T_eqTac u ⟨v1, v2, v3, v4, v5, v6, v7, v8⟩ ho hx hy
def withinB (i n : Int) : Bool := decide (0 ≤ i) && decide (i < n)
def setsOp (op : Int) : Bool := decide (op = 1 ∨ op = 2 ∨ op = 3 ∨ op = 4 ∨ op = 6 ∨ op = 8)
def setsT (t : GTac) : Int := if setsOp t.op = true then t.d else -1
def usesT (t : GTac) : List Int := if t.op = 2 ∨ t.op = 5 ∨ t.op = 6 ∨ t.op = 9 then [t.a] else if t.op = 3 ∨ t.op = 7 then [t.a, t.b] else []
def wantT (t : GTac) : GTac :=
  ⟨t.op, if setsOp t.op = true then t.d else 0, if 0 < (usesT t).length then t.a else 0, if 1 < (usesT t).length then t.b else 0, if t.op = 3 then t.k else 0, if t.op = 4 ∨ t.op = 5 ∨ t.op = 6 ∨ t.op = 7 ∨ t.op = 10 then t.base else 0, if t.op = 6 ∨ t.op = 7 then t.size else 0, if t.op = 1 then t.n else 0⟩
def FitsP (t : GTac) (f regs words : Int) : Prop :=
  (1 ≤ t.op ∧ t.op ≤ 10) ∧ (setsOp t.op = true → withinB t.d regs = true) ∧ (∀ u ∈ usesT t, withinB u regs = true) ∧ (t.op = 3 → 4 ≤ t.k ∧ t.k ≤ 15) ∧ (t.op = 4 ∨ t.op = 5 → withinB t.base words = true) ∧
  (t.op = 6 ∨ t.op = 7 → 1 ≤ t.size ∧ t.size ≤ 4096 ∧ 0 ≤ t.base ∧ t.base ≤ words - t.size) ∧ (t.op = 10 → withinB t.base f = true) ∧ t = wantT t
instance (t : GTac) (f regs words : Int) : Decidable (FitsP t f regs words) := by unfold FitsP; infer_instance
def fitsB (t : GTac) (f regs words : Int) : Bool := decide (FitsP t f regs words)
def endsB (b : GBlock) (blocks regs : Int) : Bool :=
  if b.fin = 1 then withinB b.to blocks && (b.v == 0) && (b.els == 0)
  else if b.fin = 2 then withinB b.to blocks && withinB b.els blocks && withinB b.v regs
  else (b.fin == 3) && (b.v == 0) && (b.to == 0) && (b.els == 0)
def blockB (b : GBlock) (blocks number regs words : Int) : Bool := endsB b blocks regs && b.ins.all (fun t => fitsB t number regs words)
def oneB (f : GFn) (number words : Int) : Bool := decide (0 ≤ f.regs ∧ f.regs ≤ 4000 ∧ f.blocks ≠ []) && f.blocks.all (fun b => blockB b f.blocks.length number f.regs words)
def rightB (p : GProg) : Bool := decide (0 ≤ p.words ∧ p.words ≤ 1048576 ∧ p.funcs ≠ []) && (List.range p.funcs.length).all (fun i => oneB (p.funcs.getD i default) (i : Int) p.words)
theorem setsOp_t {op : Int} (h : op = 1 ∨ op = 2 ∨ op = 3 ∨ op = 4 ∨ op = 6 ∨ op = 8) : setsOp op = true := decide_eq_true h
theorem setsOp_f {op : Int} (h : ¬ (op = 1 ∨ op = 2 ∨ op = 3 ∨ op = 4 ∨ op = 6 ∨ op = 8)) : setsOp op = false := decide_eq_false h
theorem setsT_ge {t : GTac} (h : setsT t ≥ 0) : setsOp t.op = true := by
  unfold setsT at h
  split at h
  · assumption
  · omega
theorem fits_fin {t : GTac} {f regs words k base size n : Int} (h : (1 ≤ t.op ∧ t.op ≤ 10) ∧ (setsOp t.op = true → withinB t.d regs = true) ∧ (∀ u ∈ usesT t, withinB u regs = true)) (h3 : t.op = 3 → 4 ≤ t.k ∧ t.k ≤ 15) (h4 : t.op = 4 ∨ t.op = 5 → withinB t.base words = true)
    (h6 : t.op = 6 ∨ t.op = 7 → 1 ≤ t.size ∧ t.size ≤ 4096 ∧ 0 ≤ t.base ∧ t.base ≤ words - t.size) (h10 : t.op = 10 → withinB t.base f = true)
    (hk : k = if t.op = 3 then t.k else 0) (hb : base = if t.op = 4 ∨ t.op = 5 ∨ t.op = 6 ∨ t.op = 7 ∨ t.op = 10 then t.base else 0) (hs : size = if t.op = 6 ∨ t.op = 7 then t.size else 0) (hn : n = if t.op = 1 then t.n else 0) :
    decide (t = ⟨t.op, if setsOp t.op = true then t.d else 0, if 0 < (usesT t).length then t.a else 0, if 1 < (usesT t).length then t.b else 0, k, base, size, n⟩) = fitsB t f regs words := by
  subst hk hb hs hn
  show decide (t = wantT t) = _
  unfold fitsB
  by_cases hw : t = wantT t
  · rw [decide_eq_true hw, decide_eq_true]
    exact ⟨h.1, h.2.1, h.2.2, h3, h4, h6, h10, hw⟩
  · rw [decide_eq_false hw, decide_eq_false]
    exact fun hF => hw hF.2.2.2.2.2.2.2
theorem fits_no {t : GTac} {f regs words : Int} (h : ¬ FitsP t f regs words) : false = fitsB t f regs words := (decide_eq_false h).symm
theorem usesT_le (t : GTac) : (usesT t).length ≤ 2 := by
  unfold usesT
  split
  · simp
  · split <;> simp
theorem blockB_t {b : GBlock} {n number regs words : Int} (h : endsB b n regs = true) (h2 : ∀ m, m < b.ins.length → fitsB (b.ins.getD m default) number regs words = true) : blockB b n number regs words = true := by
  unfold blockB
  rw [h, all_iff_getD.2 h2]
  rfl
theorem one_no1 {f : GFn} {number words : Int} (h : ¬ (0 ≤ f.regs ∧ f.regs ≤ 4000 ∧ ¬ (f.blocks.length : Int) = 0)) : false = oneB f number words := by
  unfold oneB
  rw [decide_eq_false (fun hk => h ⟨hk.1, hk.2.1, fun e => hk.2.2 (List.eq_nil_of_length_eq_zero (by omega))⟩)]
  rfl
theorem one_no2 {f : GFn} {number words : Int} {j : Nat} (hj : j < f.blocks.length) (h : endsB (f.blocks.getD j default) f.blocks.length f.regs = false) : false = oneB f number words := by
  unfold oneB
  rw [all_false_at hj (by unfold blockB; rw [h]; rfl), Bool.and_false]
theorem one_no3 {f : GFn} {number words : Int} {j i : Nat} (hj : j < f.blocks.length) (hi : i < (f.blocks.getD j default).ins.length) (h : fitsB ((f.blocks.getD j default).ins.getD i default) number f.regs words = false) : false = oneB f number words := by
  unfold oneB
  rw [all_false_at hj (by unfold blockB; rw [all_false_at hi h, Bool.and_false]), Bool.and_false]
theorem one_yes {f : GFn} {number words : Int} (h : 0 ≤ f.regs ∧ f.regs ≤ 4000) (h0 : ¬ (f.blocks.length : Int) = 0) (hb : ∀ i, i < f.blocks.length → blockB (f.blocks.getD i default) f.blocks.length number f.regs words = true) : true = oneB f number words := by
  unfold oneB
  rw [decide_eq_true ⟨h.1, h.2, fun e => h0 (by rw [e]; rfl)⟩, all_iff_getD.2 hb]
  rfl
end Lg
end Go.Proofs.Ytpfhmodjjljpjaa

namespace Go.Proofs.Ytpfhmodjjljpjaa
open Go.RowKit
namespace Lg
set_option linter.unusedSimpArgs false
set_option linter.unusedVariables false
def withinS (s t : List Bool) : Bool := (List.range s.length).all fun i => !(s.getD i default) || t.getD i default
theorem withinS_iff {s t : List Bool} : withinS s t = true ↔ ∀ i, i < s.length → s.getD i default = true → t.getD i default = true := by
  unfold withinS
  rw [List.all_eq_true]
  constructor
  · intro h i hi hs
    have := h i (List.mem_range.2 hi)
    rw [hs] at this
    simpa using this
  · intro h i hi
    have := h i (List.mem_range.1 hi)
    cases hs : s.getD i default
    · rfl
    · rw [this hs]; rfl
theorem withinS_no {s t : List Bool} {j : Nat} (hj : j < s.length) (h1 : s.getD j default = true) (h2 : t.getD j default = false) : false = withinS s t := by
  cases h : withinS s t
  · rfl
  · have := withinS_iff.1 h j hj h1
    rw [h2] at this; cases this
theorem withinS_yes {s t : List Bool} (h : ∀ i, i < s.length → s.getD i default = true → t.getD i default = true) : true = withinS s t := (withinS_iff.2 h).symm
def addJ (s t : List Bool) : Nat → List Bool × Bool
  | 0 => (s, false)
  | j + 1 => if t.getD j default = true ∧ (addJ s t j).1.getD j default = false then ((addJ s t j).1.set j true, true) else addJ s t j
theorem addJ_yes {s t : List Bool} {j : Nat} (h1 : t.getD j default = true) (h2 : (addJ s t j).1.getD j default = false) : addJ s t (j + 1) = ((addJ s t j).1.set j true, true) := by rw [addJ, if_pos ⟨h1, h2⟩]
theorem addJ_no1 {s t : List Bool} {j : Nat} (h1 : t.getD j default = false) : addJ s t (j + 1) = addJ s t j := by rw [addJ, if_neg (fun h => by rw [h1] at h; cases h.1)]
theorem addJ_no2 {s t : List Bool} {j : Nat} (h1 : (addJ s t j).1.getD j default = true) : addJ s t (j + 1) = addJ s t j := by rw [addJ, if_neg (fun h => by rw [h1] at h; cases h.2)]
theorem addJ_len (s t : List Bool) : ∀ j, (addJ s t j).1.length = s.length
  | 0 => rfl
  | j + 1 => by
    rw [addJ]
    split
    · simp [addJ_len s t j]
    · exact addJ_len s t j
def addS (s t : List Bool) : List Bool := (addJ s t t.length).1
def moreS (s t : List Bool) : Bool := (addJ s t t.length).2
theorem addS_len (s t : List Bool) : (addS s t).length = s.length := addJ_len s t _
theorem getD_set {s : List Bool} {j i : Nat} {v : Bool} (hj : j < s.length) : (s.set j v).getD i default = if i = j then v else s.getD i default := by
  simp only [List.getD, List.getElem?_set]
  by_cases h : j = i
  · subst h; simp [hj]
  · rw [if_neg h, if_neg (fun e => h e.symm)]
theorem addJ_get (s t : List Bool) (hl : t.length ≤ s.length) : ∀ (j : Nat), j ≤ t.length → ∀ i, (addJ s t j).1.getD i default = (s.getD i default || (decide (i < j) && t.getD i default))
  | 0, _, i => by simp [addJ]
  | j + 1, hj, i => by
    have ih := addJ_get s t hl j (by omega)
    have hlen := addJ_len s t j
    rw [addJ]
    split
    · rename_i h
      rw [getD_set (by omega)]
      by_cases e : i = j
      · subst e; rw [if_pos rfl, h.1]; simp
      · rw [if_neg e, ih i]
        have : decide (i < j + 1) = decide (i < j) := by by_cases h : i < j <;> simp [h] <;> omega
        rw [this]
    · rename_i h
      rw [ih i]
      by_cases e : i = j
      · subst e
        have h2 := ih i
        simp only [Nat.lt_irrefl, decide_false, Bool.false_and, Bool.or_false] at h2
        rw [h2] at h
        cases ht : t.getD i default <;> cases hs : s.getD i default <;> simp_all
      · have : decide (i < j + 1) = decide (i < j) := by by_cases h : i < j <;> simp [h] <;> omega
        rw [this]
theorem addS_get {s t : List Bool} (hl : t.length ≤ s.length) (i : Nat) : (addS s t).getD i default = (s.getD i default || t.getD i default) := by
  rw [addS, addJ_get s t hl _ (Nat.le_refl _)]
  by_cases h : i < t.length
  · simp [h]
  · have : t.getD i default = false := by rw [List.getD, List.getElem?_eq_none (by omega)]; rfl
    rw [this]; simp
def aheadT (t : GTac) (s : List Bool) : List Bool := (usesT t).foldl (fun s u => s.set u.toNat true) (if 0 ≤ setsT t then s.set (setsT t).toNat false else s)
def aheadJ (t : GTac) (s : List Bool) (j : Nat) : List Bool := ((usesT t).take j).foldl (fun s u => s.set u.toNat true) (if 0 ≤ setsT t then s.set (setsT t).toNat false else s)
theorem aheadJ_t {t : GTac} {s : List Bool} (h : setsT t ≥ 0) : aheadJ t s 0 = s.set (setsT t).toNat false := by simp [aheadJ, show 0 ≤ setsT t from h]
theorem aheadJ_f {t : GTac} {s : List Bool} (h : ¬ setsT t ≥ 0) : aheadJ t s 0 = s := by simp [aheadJ, show ¬ 0 ≤ setsT t from h]
theorem aheadJ_succ {t : GTac} {s : List Bool} {j : Nat} (h : j < (usesT t).length) : aheadJ t s (j + 1) = (aheadJ t s j).set ((usesT t).getD j default).toNat true := by
  unfold aheadJ
  rw [List.take_add_one, List.getElem?_eq_getElem h, List.foldl_append]
  simp [List.getD, List.getElem?_eq_getElem h]
theorem aheadJ_all {t : GTac} {s : List Bool} {j : Nat} (h : (usesT t).length ≤ j) : aheadJ t s j = aheadT t s := by unfold aheadJ aheadT; rw [List.take_of_length_le h]
theorem setAll_len : ∀ (l : List Int) (s : List Bool), (l.foldl (fun s (u : Int) => s.set u.toNat true) s).length = s.length
  | [], _ => rfl
  | u :: l, s => by rw [List.foldl_cons, setAll_len l]; simp
theorem aheadJ_len (t : GTac) (s : List Bool) (j : Nat) : (aheadJ t s j).length = s.length := by
  unfold aheadJ
  rw [setAll_len]
  split <;> simp
theorem aheadT_len (t : GTac) (s : List Bool) : (aheadT t s).length = s.length := by rw [← aheadJ_all (Nat.le_refl _)]; exact aheadJ_len t s _
def endS (b : GBlock) (out : List Bool) : List Bool := if b.fin = 2 then out.set b.v.toNat true else out
theorem endS_len (b : GBlock) (out : List Bool) : (endS b out).length = out.length := by unfold endS; split <;> simp
theorem endS_t {b : GBlock} {out : List Bool} (h : b.fin = 2) : endS b out = out.set b.v.toNat true := if_pos h
theorem endS_f {b : GBlock} {out : List Bool} (h : ¬ b.fin = 2) : endS b out = out := if_neg h
def thrK (b : GBlock) (out : List Bool) (k : Nat) : List Bool := (b.ins.drop k).foldr aheadT (endS b out)
def thrS (b : GBlock) (out : List Bool) : List Bool := thrK b out 0
theorem thrK_len (b : GBlock) (out : List Bool) (k : Nat) : (thrK b out k).length = out.length := by
  unfold thrK
  generalize b.ins.drop k = l
  induction l with
  | nil => exact endS_len b out
  | cons t l ih => rw [List.foldr_cons, aheadT_len, ih]
theorem thrS_len (b : GBlock) (out : List Bool) : (thrS b out).length = out.length := thrK_len b out 0
theorem thrK_end (b : GBlock) (out : List Bool) {k : Nat} (h : b.ins.length ≤ k) : thrK b out k = endS b out := by unfold thrK; rw [List.drop_of_length_le h]; rfl
theorem thrK_step (b : GBlock) (out : List Bool) {k : Nat} (h : k < b.ins.length) : thrK b out k = aheadT (b.ins.getD k default) (thrK b out (k + 1)) := by
  unfold thrK
  rw [List.drop_eq_getElem_cons h, List.foldr_cons, List.getD, List.getElem?_eq_getElem h]
  rfl
def behL (b : GBlock) (out : List Bool) : List (List Bool) := (List.range b.ins.length).map fun i => thrK b out (i + 1)
theorem thrK_prev (b : GBlock) (out : List Bool) {k : Nat} (h0 : 0 < k) (hk : k ≤ b.ins.length) : thrK b out (k - 1) = aheadT (b.ins.getD ((k : Int) - 1).toNat default) (thrK b out k) := by
  rw [thrK_step b out (k := k - 1) (by omega), show k - 1 + 1 = k by omega, show ((k : Int) - 1).toNat = k - 1 by omega]
theorem behL_len (b : GBlock) (out : List Bool) : (behL b out).length = b.ins.length := by simp [behL]
theorem behL_getD (b : GBlock) (out : List Bool) {k : Nat} (h : k < b.ins.length) : (behL b out).getD k default = thrK b out (k + 1) := by
  simp [behL, List.getD, h]
theorem fill_back {α : Type} [Inhabited α] (L : List α) (d z : α) {k : Nat} (h : k < L.length) (hz : z = L.getD k default) : (List.replicate (k + 1) d ++ L.drop (k + 1)).set k z = List.replicate k d ++ L.drop k := by
  subst hz
  rw [List.set_append, if_pos (by simp), List.drop_eq_getElem_cons h, List.replicate_succ']
  rw [List.set_append, if_neg (by simp)]
  simp [List.getD, h]
def TOk (n : Nat) (t : GTac) : Prop := (0 ≤ setsT t → setsT t < (n : Int)) ∧ ∀ u ∈ usesT t, 0 ≤ u ∧ u < (n : Int)
def BOk (n : Nat) (b : GBlock) : Prop := (∀ t ∈ b.ins, TOk n t) ∧ (b.fin = 2 → 0 ≤ b.v ∧ b.v < (n : Int))
structure LF (f : GFn) : Prop where
  len : f.blocks.length ≤ 1000
  regs : 0 ≤ f.regs ∧ f.regs ≤ 4000
  ins : ∀ b ∈ f.blocks, b.ins.length ≤ 1000
  ok : ∀ b ∈ f.blocks, BOk f.regs.toNat b
  nx : ∀ b ∈ f.blocks, ∀ x ∈ follows b, 0 ≤ x ∧ x < (f.blocks.length : Int)
def wrongLen (m : Int) (s : List Bool) : Bool := decide ((s.length : Int) ≠ m)
def sizedB (l : List (List Bool)) (n m : Int) : Bool := decide ((l.length : Int) = n) && !(l.any (wrongLen m))
theorem sizedB_iff {l : List (List Bool)} {n m : Int} : sizedB l n m = true ↔ (l.length : Int) = n ∧ ∀ s ∈ l, (s.length : Int) = m := by
  unfold sizedB wrongLen
  simp only [Bool.and_eq_true, decide_eq_true_eq, Bool.not_eq_true', List.any_eq_false, Decidable.not_not]
theorem sizedB_no1 {l : List (List Bool)} {n m : Int} (h : ¬ (l.length : Int) = n) : false = sizedB l n m := by
  cases h1 : sizedB l n m
  · rfl
  · exact absurd (sizedB_iff.1 h1).1 h
theorem sizedB_no2 {l : List (List Bool)} {n m : Int} {j : Nat} (hj : j < l.length) (h : ¬ ((l.getD j default).length : Int) = m) : false = sizedB l n m := by
  cases h1 : sizedB l n m
  · rfl
  · exact absurd ((sizedB_iff.1 h1).2 _ (getD_mem hj)) h
theorem sizedB_yes {l : List (List Bool)} {n m : Int} (h : (l.length : Int) = n) (h2 : ∀ i, i < l.length → ((l.getD i default).length : Int) = m) : true = sizedB l n m :=
  (sizedB_iff.2 ⟨h, fun s hs => by obtain ⟨i, hi, rfl⟩ := mem_getD hs; exact h2 i hi⟩).symm
def sizedL (f : GFn) (li lo : List (List Bool)) : Bool := sizedB li f.blocks.length f.regs && sizedB lo f.blocks.length f.regs
theorem sizedL_iff {f : GFn} {li lo : List (List Bool)} : sizedL f li lo = true ↔ sizedB li f.blocks.length f.regs = true ∧ sizedB lo f.blocks.length f.regs = true := by
  unfold sizedL; rw [Bool.and_eq_true]
structure SzL (f : GFn) (l : List (List Bool)) : Prop where
  len : l.length = f.blocks.length
  each : ∀ s ∈ l, s.length = f.regs.toNat
theorem szL_of {f : GFn} {l : List (List Bool)} (h : sizedB l f.blocks.length f.regs = true) : SzL f l := by
  obtain ⟨h1, h2⟩ := sizedB_iff.1 h
  exact ⟨by omega, fun s hs => by have := h2 s hs; omega⟩
theorem SzL.sized {f : GFn} {l : List (List Bool)} (h : SzL f l) (hr : 0 ≤ f.regs) : sizedB l f.blocks.length f.regs = true :=
  sizedB_iff.2 ⟨by rw [h.len], fun s hs => by rw [h.each s hs]; omega⟩
theorem SzL.at {f : GFn} {l : List (List Bool)} (h : SzL f l) {k : Nat} (hk : k < f.blocks.length) : (l.getD k default).length = f.regs.toNat := h.each _ (getD_mem (by rw [h.len]; exact hk))
theorem LF.follow {f : GFn} (h : LF f) {j m : Nat} (hj : j < f.blocks.length) (hm : m < ((nextL f).getD j default).length) : 0 ≤ ((nextL f).getD j default).getD m default ∧ ((nextL f).getD j default).getD m default < (f.blocks.length : Int) := by
  have := h.nx _ (getD_mem hj) (((nextL f).getD j default).getD m default) (by rw [← nextL_getD]; exact getD_mem hm)
  exact this
def okB (f : GFn) (li lo : List (List Bool)) (b : Nat) : Bool := ((nextL f).getD b default).all (fun k => withinS (li.getD k.toNat default) (lo.getD b default)) && withinS (thrS (f.blocks.getD b default) (lo.getD b default)) (li.getD b default)
def checkL (f : GFn) (li lo : List (List Bool)) : Bool := sizedL f li lo && (List.range f.blocks.length).all (okB f li lo)
theorem okB_iff {f : GFn} {li lo : List (List Bool)} {b : Nat} : okB f li lo b = true ↔ (∀ m, m < ((nextL f).getD b default).length → withinS (li.getD (((nextL f).getD b default).getD m default).toNat default) (lo.getD b default) = true) ∧ withinS (thrS (f.blocks.getD b default) (lo.getD b default)) (li.getD b default) = true := by
  unfold okB
  rw [Bool.and_eq_true, List.all_eq_true]
  constructor
  · exact fun h => ⟨fun m hm => h.1 _ (getD_mem hm), h.2⟩
  · exact fun h => ⟨fun k hk => by obtain ⟨m, hm, rfl⟩ := mem_getD hk; exact h.1 m hm, h.2⟩
theorem checkL_iff {f : GFn} {li lo : List (List Bool)} : checkL f li lo = true ↔ sizedL f li lo = true ∧ ∀ b, b < f.blocks.length → okB f li lo b = true := by
  unfold checkL
  rw [Bool.and_eq_true, List.all_eq_true]
  exact ⟨fun h => ⟨h.1, fun b hb => h.2 b (List.mem_range.2 hb)⟩, fun h => ⟨h.1, fun b hb => h.2 b (List.mem_range.1 hb)⟩⟩
theorem checkL_no1 {f : GFn} {li lo : List (List Bool)} (h : sizedL f li lo = false) : false = checkL f li lo := by unfold checkL; rw [h]; rfl
theorem checkL_no {f : GFn} {li lo : List (List Bool)} {j : Nat} (hj : j < f.blocks.length) (h : okB f li lo j = false) : false = checkL f li lo := by
  cases h1 : checkL f li lo
  · rfl
  · have := (checkL_iff.1 h1).2 j hj
    rw [h] at this; cases this
theorem okB_no1 {f : GFn} {li lo : List (List Bool)} {j m : Nat} (hm : m < ((nextL f).getD j default).length) (h : withinS (li.getD (((nextL f).getD j default).getD m default).toNat default) (lo.getD j default) = false) : okB f li lo j = false := by
  cases h1 : okB f li lo j
  · rfl
  · have := (okB_iff.1 h1).1 m hm
    rw [h] at this; cases this
theorem okB_no2 {f : GFn} {li lo : List (List Bool)} {j : Nat} (h : withinS (thrS (f.blocks.getD j default) (lo.getD j default)) (li.getD j default) = false) : okB f li lo j = false := by
  cases h1 : okB f li lo j
  · rfl
  · have := (okB_iff.1 h1).2
    rw [h] at this; cases this
theorem checkL_yes {f : GFn} {li lo : List (List Bool)} (h : sizedL f li lo = true) (h2 : ∀ b, b < f.blocks.length → okB f li lo b = true) : true = checkL f li lo := (checkL_iff.2 ⟨h, h2⟩).symm
theorem sizedL_f1 {f : GFn} {li lo : List (List Bool)} (h : sizedB li f.blocks.length f.regs = false) : sizedL f li lo = false := by unfold sizedL; rw [h]; rfl
theorem sizedL_f2 {f : GFn} {li lo : List (List Bool)} (h : sizedB lo f.blocks.length f.regs = false) : sizedL f li lo = false := by unfold sizedL; rw [h, Bool.and_false]
theorem within_eq {a b : List Bool} (hl : a.length = b.length) (h1 : withinS a b = true) (h2 : withinS b a = true) : a = b := by
  refine List.ext_getElem hl (fun i hi hi2 => ?_)
  have e1 : a.getD i default = a[i] := by simp [List.getD, hi]
  have e2 : b.getD i default = b[i] := by simp [List.getD, hi2]
  have k1 := withinS_iff.1 h1 i hi
  have k2 := withinS_iff.1 h2 i hi2
  rw [e1, e2] at k1 k2
  cases ha : a[i] <;> cases hb : b[i] <;> simp_all
theorem within_self (a : List Bool) : withinS a a = true := withinS_iff.2 fun _ _ h => h
theorem within_ne {a b : List Bool} (h : withinS a b = false) : a ≠ b := fun e => by subst e; rw [within_self] at h; cases h
theorem within_ne' {a b : List Bool} (h : withinS b a = false) : a ≠ b := fun e => by subst e; rw [within_self] at h; cases h
theorem bne_f {x y : Bool} (h : (x != y) = false) : x = y := by cases x <;> cases y <;> first | rfl | cases h
theorem bne_t {x y : Bool} (h : (x != y) = true) : x ≠ y := by cases x <;> cases y <;> first | (intro h; cases h; done) | cases h
end Lg
end Go.Proofs.Ytpfhmodjjljpjaa
