import Derived.Test.YtpfhmodjjljpjaaTidyTrue1
import Derived.Test.YtpfhmodjjljpjaaProg
import Derived.KernelRfl
import Derived.SizedLaws
import Derived.OpenShut
import Derived.ChangeOld
import Derived.Test.YtpfhmodjjljpjaaRows
import Derived.WalkKit
import Derived.ProofKit
import Derived.ShutString
import Derived.Below
import Derived.Tactics
set_option linter.unusedVariables false
set_option linter.unusedSimpArgs false
namespace Go.Proofs.Ytpfhmodjjljpjaa
open Go.RowKit
namespace Lg
set_option linter.unusedSimpArgs false
set_option linter.unusedVariables false
def ty3 : TyI := ⟨false, 1, 8, [.int .i64 0], 0, []⟩
theorem ty3_good : Good Try.prog 3 ty3 := ⟨by kernel_rfl, by kernel_rfl, by kernel_rfl, by kernel_rfl⟩
def ty4 : TyI := ⟨false, 1, 1, [.bool false], 0, []⟩
theorem ty4_good : Good Try.prog 4 ty4 := ⟨by kernel_rfl, by kernel_rfl, by kernel_rfl, by kernel_rfl⟩
def ty5 : TyI := ⟨false, 1, 1, [.int .u8 0], 0, []⟩
theorem ty5_good : Good Try.prog 5 ty5 := ⟨by kernel_rfl, by kernel_rfl, by kernel_rfl, by kernel_rfl⟩
def ty68 : TyI := ⟨false, 1, 4, [.int .u32 0], 0, []⟩
theorem ty68_good : Good Try.prog 68 ty68 := ⟨by kernel_rfl, by kernel_rfl, by kernel_rfl, by kernel_rfl⟩
def ty22 : TyI := ⟨false, 1, 24, [.slice none 0 0], 29, []⟩
theorem ty22_good : Good Try.prog 22 ty22 := ⟨by kernel_rfl, by kernel_rfl, by kernel_rfl, by kernel_rfl⟩
def ty27 : TyI := ⟨false, 1, 24, [.slice none 0 0], 72, []⟩
theorem ty27_good : Good Try.prog 27 ty27 := ⟨by kernel_rfl, by kernel_rfl, by kernel_rfl, by kernel_rfl⟩
def ty30 : TyI := ⟨false, 1, 24, [.slice none 0 0], 52, []⟩
theorem ty30_good : Good Try.prog 30 ty30 := ⟨by kernel_rfl, by kernel_rfl, by kernel_rfl, by kernel_rfl⟩
def ty48 : TyI := ⟨false, 1, 24, [.slice none 0 0], 4, []⟩
theorem ty48_good : Good Try.prog 48 ty48 := ⟨by kernel_rfl, by kernel_rfl, by kernel_rfl, by kernel_rfl⟩
def ty52 : TyI := ⟨false, 1, 24, [.slice none 0 0], 3, []⟩
theorem ty52_good : Good Try.prog 52 ty52 := ⟨by kernel_rfl, by kernel_rfl, by kernel_rfl, by kernel_rfl⟩
def ty55 : TyI := ⟨false, 1, 24, [.slice none 0 0], 48, []⟩
theorem ty55_good : Good Try.prog 55 ty55 := ⟨by kernel_rfl, by kernel_rfl, by kernel_rfl, by kernel_rfl⟩
def ty66 : TyI := ⟨false, 1, 24, [.slice none 0 0], 5, []⟩
theorem ty66_good : Good Try.prog 66 ty66 := ⟨by kernel_rfl, by kernel_rfl, by kernel_rfl, by kernel_rfl⟩
def ty67 : TyI := ⟨false, 1, 24, [.slice none 0 0], 70, []⟩
theorem ty67_good : Good Try.prog 67 ty67 := ⟨by kernel_rfl, by kernel_rfl, by kernel_rfl, by kernel_rfl⟩
def ty105 : TyI := ⟨false, 1, 24, [.slice none 0 0], 68, []⟩
theorem ty105_good : Good Try.prog 105 ty105 := ⟨by kernel_rfl, by kernel_rfl, by kernel_rfl, by kernel_rfl⟩
def ty123 : TyI := ⟨false, 1, 24, [.slice none 0 0], 124, []⟩
theorem ty123_good : Good Try.prog 123 ty123 := ⟨by kernel_rfl, by kernel_rfl, by kernel_rfl, by kernel_rfl⟩
def ty1 : TyI := ⟨false, 1, 8, [.nilFunc], 0, []⟩
theorem ty1_good : Good Try.prog 1 ty1 := ⟨by kernel_rfl, by kernel_rfl, by kernel_rfl, by kernel_rfl⟩
def ty96 : TyI := ⟨false, 1, 8, [.nilFunc], 0, []⟩
theorem ty96_good : Good Try.prog 96 ty96 := ⟨by kernel_rfl, by kernel_rfl, by kernel_rfl, by kernel_rfl⟩
def ty97 : TyI := ⟨false, 1, 8, [.nilFunc], 0, []⟩
theorem ty97_good : Good Try.prog 97 ty97 := ⟨by kernel_rfl, by kernel_rfl, by kernel_rfl, by kernel_rfl⟩
def ty101 : TyI := ⟨false, 1, 8, [.nilFunc], 0, []⟩
theorem ty101_good : Good Try.prog 101 ty101 := ⟨by kernel_rfl, by kernel_rfl, by kernel_rfl, by kernel_rfl⟩
def ty108 : TyI := ⟨false, 1, 8, [.nilFunc], 0, []⟩
theorem ty108_good : Good Try.prog 108 ty108 := ⟨by kernel_rfl, by kernel_rfl, by kernel_rfl, by kernel_rfl⟩
def ty144 : TyI := ⟨false, 1, 8, [.nilFunc], 0, []⟩
theorem ty144_good : Good Try.prog 144 ty144 := ⟨by kernel_rfl, by kernel_rfl, by kernel_rfl, by kernel_rfl⟩
def ty135 : TyI := ⟨false, 1, 8, [.nilFunc], 0, []⟩
theorem ty135_good : Good Try.prog 135 ty135 := ⟨by kernel_rfl, by kernel_rfl, by kernel_rfl, by kernel_rfl⟩
def ty127 : TyI := ⟨false, 1, 8, [.nilFunc], 0, []⟩
theorem ty127_good : Good Try.prog 127 ty127 := ⟨by kernel_rfl, by kernel_rfl, by kernel_rfl, by kernel_rfl⟩
def ty119 : TyI := ⟨false, 1, 8, [.nilFunc], 0, []⟩
theorem ty119_good : Good Try.prog 119 ty119 := ⟨by kernel_rfl, by kernel_rfl, by kernel_rfl, by kernel_rfl⟩
def ty126 : TyI := ⟨false, 1, 8, [.nilFunc], 0, []⟩
theorem ty126_good : Good Try.prog 126 ty126 := ⟨by kernel_rfl, by kernel_rfl, by kernel_rfl, by kernel_rfl⟩
def ty134 : TyI := ⟨false, 1, 8, [.nilFunc], 0, []⟩
theorem ty134_good : Good Try.prog 134 ty134 := ⟨by kernel_rfl, by kernel_rfl, by kernel_rfl, by kernel_rfl⟩
def ty9 : TyI := ⟨false, 1, 16, [.string .empty], 0, []⟩
theorem ty9_good : Good Try.prog 9 ty9 := ⟨by kernel_rfl, by kernel_rfl, by kernel_rfl, by kernel_rfl⟩
def ty29 : TyI := ⟨true, 2, 32, [.int .i64 0, .slice none 0 0], 0, [(0, 1), (1, 1)]⟩
theorem ty29_good : Good Try.prog 29 ty29 := ⟨by kernel_rfl, by kernel_rfl, by kernel_rfl, by kernel_rfl⟩
def ty24 : TyI := ⟨true, 2, 32, [.int .i64 0, .slice none 0 0], 0, [(0, 1), (1, 1)]⟩
theorem ty24_good : Good Try.prog 24 ty24 := ⟨by kernel_rfl, by kernel_rfl, by kernel_rfl, by kernel_rfl⟩
def ty70 : TyI := ⟨true, 8, 64, [.int .i64 0, .int .i64 0, .int .i64 0, .int .i64 0, .int .i64 0, .int .i64 0, .int .i64 0, .int .u32 0], 0, [(0, 1), (1, 1), (2, 1), (3, 1), (4, 1), (5, 1), (6, 1), (7, 1)]⟩
theorem ty70_good : Good Try.prog 70 ty70 := ⟨by kernel_rfl, by kernel_rfl, by kernel_rfl, by kernel_rfl⟩
def ty72 : TyI := ⟨true, 5, 56, [.slice none 0 0, .int .i64 0, .int .i64 0, .int .i64 0, .int .i64 0], 0, [(0, 1), (1, 1), (2, 1), (3, 1), (4, 1)]⟩
theorem ty72_good : Good Try.prog 72 ty72 := ⟨by kernel_rfl, by kernel_rfl, by kernel_rfl, by kernel_rfl⟩
def ty57 : TyI := ⟨true, 2, 48, [.slice none 0 0, .slice none 0 0], 0, [(0, 1), (1, 1)]⟩
theorem ty57_good : Good Try.prog 57 ty57 := ⟨by kernel_rfl, by kernel_rfl, by kernel_rfl, by kernel_rfl⟩
def ty60 : TyI := ⟨true, 1, 24, [.slice none 0 0], 0, [(0, 1)]⟩
theorem ty60_good : Good Try.prog 60 ty60 := ⟨by kernel_rfl, by kernel_rfl, by kernel_rfl, by kernel_rfl⟩
def ty46 : TyI := ⟨true, 5, 88, [.int .i64 0, .slice none 0 0, .int .i64 0, .slice none 0 0, .slice none 0 0], 0, [(0, 2), (2, 2), (4, 1)]⟩
theorem ty46_good : Good Try.prog 46 ty46 := ⟨by kernel_rfl, by kernel_rfl, by kernel_rfl, by kernel_rfl⟩
def ty75 : TyI := ⟨true, 6, 112, [.int .i64 0, .slice none 0 0, .slice none 0 0, .slice none 0 0, .slice none 0 0, .int .i64 0], 0, [(0, 2), (2, 2), (4, 1), (5, 1)]⟩
theorem ty75_good : Good Try.prog 75 ty75 := ⟨by kernel_rfl, by kernel_rfl, by kernel_rfl, by kernel_rfl⟩
def ty78 : TyI := ⟨true, 8, 144, [.int .i64 0, .slice none 0 0, .int .i64 0, .slice none 0 0, .int .i64 0, .slice none 0 0, .slice none 0 0, .slice none 0 0], 0, [(0, 2), (2, 2), (4, 2), (6, 1), (7, 1)]⟩
theorem ty78_good : Good Try.prog 78 ty78 := ⟨by kernel_rfl, by kernel_rfl, by kernel_rfl, by kernel_rfl⟩
def ty107 : TyI := ⟨true, 9, 128, [.int .i64 0, .slice none 0 0, .string .empty, .int .i64 0, .slice none 0 0, .slice none 0 0, .int .i64 0, .int .i64 0, .int .i64 0], 0, [(0, 2), (2, 1), (3, 1), (4, 1), (5, 1), (6, 1), (7, 1), (8, 1)]⟩
theorem ty107_good : Good Try.prog 107 ty107 := ⟨by kernel_rfl, by kernel_rfl, by kernel_rfl, by kernel_rfl⟩
def ty42 : TyI := ⟨true, 3, 32, [.int .i64 0, .string .empty, .int .i64 0], 0, [(0, 1), (1, 1), (2, 1)]⟩
theorem ty42_good : Good Try.prog 42 ty42 := ⟨by kernel_rfl, by kernel_rfl, by kernel_rfl, by kernel_rfl⟩
def ty53 : TyI := ⟨true, 2, 2, [.int .u8 0, .int .u8 0], 0, []⟩
theorem ty53_good : Good Try.prog 53 ty53 := ⟨by kernel_rfl, by kernel_rfl, by kernel_rfl, by kernel_rfl⟩
def ty124 : TyI := ⟨false, 1, 24, [.slice none 0 0], 4, []⟩
theorem ty124_good : Good Try.prog 124 ty124 := ⟨by kernel_rfl, by kernel_rfl, by kernel_rfl, by kernel_rfl⟩
def tyGet : Nat → Option TyI
  | 1 => some ty1
  | 3 => some ty3
  | 4 => some ty4
  | 5 => some ty5
  | 9 => some ty9
  | 22 => some ty22
  | 24 => some ty24
  | 27 => some ty27
  | 29 => some ty29
  | 30 => some ty30
  | 42 => some ty42
  | 46 => some ty46
  | 48 => some ty48
  | 52 => some ty52
  | 53 => some ty53
  | 55 => some ty55
  | 57 => some ty57
  | 60 => some ty60
  | 66 => some ty66
  | 67 => some ty67
  | 68 => some ty68
  | 70 => some ty70
  | 72 => some ty72
  | 75 => some ty75
  | 78 => some ty78
  | 96 => some ty96
  | 97 => some ty97
  | 101 => some ty101
  | 105 => some ty105
  | 107 => some ty107
  | 108 => some ty108
  | 119 => some ty119
  | 123 => some ty123
  | 124 => some ty124
  | 126 => some ty126
  | 127 => some ty127
  | 134 => some ty134
  | 135 => some ty135
  | 144 => some ty144
  | _ => none
theorem tyGet_ok (t : Nat) (i : TyI) (h : tyGet t = some i) : Good Try.prog t i := by
  unfold tyGet at h
  split at h
  · cases h; exact ty1_good
  · cases h; exact ty3_good
  · cases h; exact ty4_good
  · cases h; exact ty5_good
  · cases h; exact ty9_good
  · cases h; exact ty22_good
  · cases h; exact ty24_good
  · cases h; exact ty27_good
  · cases h; exact ty29_good
  · cases h; exact ty30_good
  · cases h; exact ty42_good
  · cases h; exact ty46_good
  · cases h; exact ty48_good
  · cases h; exact ty52_good
  · cases h; exact ty53_good
  · cases h; exact ty55_good
  · cases h; exact ty57_good
  · cases h; exact ty60_good
  · cases h; exact ty66_good
  · cases h; exact ty67_good
  · cases h; exact ty68_good
  · cases h; exact ty70_good
  · cases h; exact ty72_good
  · cases h; exact ty75_good
  · cases h; exact ty78_good
  · cases h; exact ty96_good
  · cases h; exact ty97_good
  · cases h; exact ty101_good
  · cases h; exact ty105_good
  · cases h; exact ty107_good
  · cases h; exact ty108_good
  · cases h; exact ty119_good
  · cases h; exact ty123_good
  · cases h; exact ty124_good
  · cases h; exact ty126_good
  · cases h; exact ty127_good
  · cases h; exact ty134_good
  · cases h; exact ty135_good
  · cases h; exact ty144_good
  · cases h
def D : Tab Try.prog := ⟨tyGet, tyGet_ok⟩
end Lg
end Go.Proofs.Ytpfhmodjjljpjaa

namespace Go.Proofs.Ytpfhmodjjljpjaa
open Go.RowKit
namespace Lg
set_option linter.unusedSimpArgs false
set_option linter.unusedVariables false
structure GTac where
  op : Int
  d : Int
  a : Int
  b : Int
  k : Int
  base : Int
  size : Int
  n : Int
  deriving DecidableEq, Inhabited
structure GBlock where
  ins : List GTac
  fin : Int
  v : Int
  to : Int
  els : Int
  deriving DecidableEq, Inhabited
structure GFn where
  regs : Int
  blocks : List GBlock
  deriving DecidableEq, Inhabited
structure GProg where
  words : Int
  funcs : List GFn
  deriving DecidableEq, Inhabited
structure GLive where
  inn : List (List Bool)
  out : List (List Bool)
  deriving DecidableEq, Inhabited
def eI (x : Int) : List Cell := [.v (.int .i64 x)]
def eB (x : Bool) : List Cell := [.v (.bool x)]
def eU8 (x : Int) : List Cell := [.v (.int .u8 x)]
def eU32 (x : Int) : List Cell := [.v (.int .u32 x)]
def eIs (l : List Int) : List Cell := [.sl 1 (l.map eI)]
def eBs (l : List Bool) : List Cell := [.sl 1 (l.map eB)]
def eTac (t : GTac) : List Cell := [.v (.int .i64 t.op), .v (.int .i64 t.d), .v (.int .i64 t.a), .v (.int .i64 t.b), .v (.int .i64 t.k), .v (.int .i64 t.base), .v (.int .i64 t.size), .v (.int .u32 t.n)]
def eBlock (b : GBlock) : List Cell := [.sl 8 (b.ins.map eTac), .v (.int .i64 b.fin), .v (.int .i64 b.v), .v (.int .i64 b.to), .v (.int .i64 b.els)]
def eFn (f : GFn) : List Cell := [.v (.int .i64 f.regs), .sl 5 (f.blocks.map eBlock)]
def follows (b : GBlock) : List Int := if b.fin = 1 then [b.to] else if b.fin = 2 then [b.to, b.els] else []
end Lg
end Go.Proofs.Ytpfhmodjjljpjaa

namespace Go.Proofs.Ytpfhmodjjljpjaa
open Go.RowKit
namespace Lg
def RdL (w : World) : List Cell → List Value → Prop
  | [], [] => True
  | c :: cs, v :: vs => Rd w (fun _ => True) c v ∧ RdL w cs vs
  | _, _ => False
theorem RdL.len {w : World} : ∀ {cs : List Cell} {vs : List Value}, RdL w cs vs → cs.length = vs.length
  | [], [], _ => rfl
  | _ :: _, _ :: _, h => by simp [RdL.len h.2]
  | [], _ :: _, h => h.elim
  | _ :: _, [], h => h.elim
theorem RdL.at {w : World} : ∀ {cs : List Cell} {vs : List Value}, RdL w cs vs → ∀ (j : Nat) (c : Cell), cs[j]? = some c → ∃ u, vs[j]? = some u ∧ Rd w (fun _ => True) c u
  | [], [], _, j, c, hj => by simp at hj
  | c0 :: cs, v :: vs, h, 0, c, hj => by
    simp at hj
    subst hj
    exact ⟨v, rfl, h.1⟩
  | c0 :: cs, v :: vs, h, j + 1, c, hj => by
    simp at hj
    obtain ⟨u, h1, h2⟩ := RdL.at h.2 j c hj
    exact ⟨u, by simpa using h1, h2⟩
  | [], _ :: _, h, _, _, _ => h.elim
  | _ :: _, [], h, _, _, _ => h.elim
theorem RdL.append {w : World} : ∀ {a c : List Cell} {b d : List Value}, RdL w a b → RdL w c d → RdL w (a ++ c) (b ++ d)
  | [], _, [], _, _, h => h
  | _ :: _, _, _ :: _, _, h, k => ⟨h.1, RdL.append h.2 k⟩
  | [], _, _ :: _, _, h, _ => h.elim
  | _ :: _, _, [], _, h, _ => h.elim
theorem mapM_at {α β : Type} {f : α → Option β} : ∀ {l : List α} {r : List β}, l.mapM f = some r → r.length = l.length ∧ ∀ (i : Nat) x, l[i]? = some x → f x = r[i]?
  | [], r, h => by
    simp at h
    subst h
    exact ⟨rfl, fun i x hx => by simp at hx⟩
  | a :: l, r, h => by
    rw [List.mapM_cons] at h
    simp only [bind, Option.bind_eq_some_iff, pure, Option.some.injEq] at h
    obtain ⟨y, h1, ys, h2, rfl⟩ := h
    obtain ⟨h3, h4⟩ := mapM_at h2
    refine ⟨by simp [h3], fun i x hx => ?_⟩
    cases i with
    | zero => simp at hx; subst hx; simpa using h1
    | succ i => simpa using h4 i x (by simpa using hx)
theorem cells?_at {w : World} {base : Nat} {a : Addr} {n : Nat} {cs : List Value} (h : w.cells? base a n = some cs) : cs.length = n ∧ ∀ (j : Nat) u, cs[j]? = some u → w.cell? (a.add j) = some u := by
  unfold World.cells? at h
  split at h
  · obtain ⟨h1, h2⟩ := mapM_at h
    simp at h1
    refine ⟨h1, fun j u hj => ?_⟩
    have hlt := (List.getElem?_eq_some_iff.1 hj).1
    rw [h2 j j (List.getElem?_range (by omega)), hj]
  · cases h
theorem choose_list {α : Type} {Q : Nat → α → Prop} : ∀ (n : Nat), (∀ i, i < n → ∃ x, Q i x) → ∃ xs : List α, xs.length = n ∧ ∀ (i : Nat) x, xs[i]? = some x → Q i x
  | 0, _ => ⟨[], rfl, fun i x h => by simp at h⟩
  | n + 1, h => by
    obtain ⟨xs, h1, h2⟩ := choose_list n (fun i hi => h i (by omega))
    obtain ⟨x, hx⟩ := h n (by omega)
    refine ⟨xs ++ [x], by simp [h1], fun i y hy => ?_⟩
    rcases Nat.lt_or_ge i n with hi | hi
    · rw [List.getElem?_append_left (by omega)] at hy; exact h2 i y hy
    · rw [List.getElem?_append_right (by omega), h1] at hy
      have : i - n = 0 := by
        have := (List.getElem?_eq_some_iff.1 hy).1
        simp at this; omega
      rw [this] at hy
      simp at hy
      subst hy
      rwa [show i = n by omega]
section
variable {H : Type} (enc : TypeId × Value → H) (P : Program) (w : World)
def Opens (t : Nat) {α : Type} (en : α → List Cell) (WF : α → Prop) : Prop :=
  ∀ (fuel : Nat) (cs : List Value) (d : DataW H) (p : List MemPlace), DataW.trod enc P w 0 (fun _ => true) true fuel t cs = some (d, p) → (d.weights P t).all (· ≤ reachBytes) = true → ∃ x, RdL w (en x) cs ∧ WF x
def OpensF (n : Nat) (fs : List Field) (off : Nat) {α : Type} (en : α → List Cell) (WF : α → Prop) : Prop :=
  ∀ (m : Nat) (cs : List Value) (xs : List (DataW H × List MemPlace)), cs.length = n → xs.length = fs.length → (∀ (i : Nat) (f : Field), fs[i]? = some f → DataW.trod enc P w 0 (fun _ => true) true m f.type ((cs.drop f.offset).take (P.cellsOf f.type)) = xs[i]?) →
    (DataW.weightsEach P (fs.map (·.type)) (xs.map (·.1))).all (· ≤ reachBytes) = true → ∃ x, RdL w (en x) (cs.drop off) ∧ WF x
end
section
variable {H : Type} {enc : TypeId × Value → H} {P : Program} {w : World}
theorem opens_int {t : Nat} {k : IntKind} (hu : P.underlying t = some (.int k)) : Opens enc P w t (fun x : Int => [.v (.int k x)]) (fun x => (Lit.int k x).wf = true) := by
  intro fuel cs d p h _
  obtain ⟨n, rfl, _, hw⟩ := DataW.trod_int hu h
  exact ⟨n, ⟨.v _ rfl, trivial⟩, hw⟩
theorem opens_bool {t : Nat} (hu : P.underlying t = some .bool) : Opens enc P w t (fun x : Bool => [.v (.bool x)]) (fun _ => True) := by
  intro fuel cs d p h _
  obtain ⟨n, rfl, _⟩ := DataW.trod_bool hu h
  exact ⟨n, ⟨.v _ rfl, trivial⟩, trivial⟩
theorem opens_string {t : Nat} (hu : P.underlying t = some .string) : Opens enc P w t (fun x : ByteArray => [.v (.string x)]) (fun x => x.size ≤ reachBytes) := by
  intro fuel cs d p h hwt
  obtain ⟨s, rfl, hx, hw⟩ := DataW.trod_string hu h
  refine ⟨s, ⟨.v _ rfl, trivial⟩, ?_⟩
  simp only [Prod.mk.injEq] at hx
  rw [hx.1] at hwt
  have : s.data.size ≤ reachBytes := by simpa [DataW.weights] using hwt
  exact this
theorem weightsAll_mem {e : Nat} : ∀ {ds : List (DataW H)} {d : DataW H}, d ∈ ds → ∀ n ∈ d.weights P e, n ∈ DataW.weightsAll P e ds
  | d0 :: ds, d, hd, n, hn => by
    simp only [DataW.weightsAll, List.mem_append]
    rcases List.mem_cons.1 hd with rfl | hd
    · exact .inl hn
    · exact .inr (weightsAll_mem hd n hn)
theorem opens_slice {t e sz by_ : Nat} {α : Type} {en : α → List Cell} {WF : α → Prop} (hu : P.underlying t = some (.slice e)) (hz : P.cellsOf e = sz) (hb : P.bytesOf e = by_) (he : Opens enc P w e en WF) :
    Opens enc P w t (fun l : List α => [.sl sz (l.map en)]) (fun l => l.length ≤ maxLen ∧ l.length * by_ ≤ reachBytes ∧ ∀ x ∈ l, WF x) := by
  intro fuel cs d p h hwt
  rcases DataW.trod_slice hu h with ⟨rfl, hx⟩ | ⟨a, len, cap, elems, rest, n, _, rfl, hx, hb', hl, hm, hlen, hel, hsp, hns⟩
  · refine ⟨[], ⟨?_, trivial⟩, by simp, by simp, by simp⟩
    exact .sl sz [] none 0 (fun _ _ => undef) (Nat.le_refl _) (Nat.zero_le _) (by simp) (by simp) (by simp) (by simp)
  · simp only [Prod.mk.injEq] at hx
    have hw1 : ∀ m ∈ d.weights P t, m ≤ reachBytes := fun m hm => by simpa using List.all_eq_true.1 hwt m hm
    rw [hx.1] at hw1
    simp only [DataW.weights, hu, List.length_map] at hw1
    have hw2 : (elems.length + rest.length) * P.bytesOf e ≤ reachBytes := hw1 _ (by simp)
    have hw3 : ∀ y ∈ elems, (y.1.weights P e).all (· ≤ reachBytes) = true := fun y hy => by
      rw [List.all_eq_true]
      intro m hm
      simpa using hw1 m (List.mem_cons_of_mem _ (List.mem_append_left _ (weightsAll_mem (List.mem_map_of_mem hy) m hm)))
    have hex : ∀ i, i < len → ∃ x, (∃ cs, w.cells? 0 (a.add (i * sz)) sz = some cs ∧ RdL w (en x) cs) ∧ WF x := by
      intro i hi
      obtain ⟨y, hy⟩ : ∃ y, elems[i]? = some y := ⟨elems[i], List.getElem?_eq_getElem (by omega)⟩
      have h1 := hel i hi
      rw [hy, Option.bind_eq_some_iff] at h1
      obtain ⟨cs, h2, h3⟩ := h1
      obtain ⟨x, h4, h5⟩ := he n cs y.1 y.2 h3 (hw3 y (List.mem_of_getElem? hy))
      exact ⟨x, ⟨cs, hz ▸ h2, h4⟩, h5⟩
    obtain ⟨xs, hxl, hxs⟩ := choose_list len hex
    refine ⟨xs, ⟨?_, trivial⟩, by omega, ?_, fun x hx => ?_⟩
    · have e1 : (xs.map en).length = len := by simp [hxl]
      rw [← e1]
      have key : ∀ (i : Nat) (r : List Cell), (xs.map en)[i]? = some r → ∃ cs, cs.length = sz ∧ r.length = sz ∧ (∀ (j : Nat) u, cs[j]? = some u → w.cell? (a.add (i * sz + j)) = some u) ∧ RdL w r cs := fun i r hi => by
        rw [List.getElem?_map, Option.map_eq_some_iff] at hi
        obtain ⟨x, hx, rfl⟩ := hi
        obtain ⟨⟨cs, h1, h2⟩, _⟩ := hxs i x hx
        obtain ⟨h3, h4⟩ := cells?_at h1
        refine ⟨cs, h3, by rw [h2.len, h3], fun j u hj => ?_, h2⟩
        rw [← h4 j u hj, add_add]
      refine .sl sz (xs.map en) (some a) cap (fun i j => (w.cell? (a.add (i * sz + j))).getD undef) (by omega) (by omega) (fun r hr => ?_) (fun _ => ⟨a, rfl⟩) (fun i r j cl hi hj => ?_) (fun i r j cl hi hj => ?_)
      · obtain ⟨i, hi⟩ := List.getElem?_of_mem hr
        obtain ⟨cs, _, h2, _⟩ := key i r hi
        exact h2
      · obtain ⟨cs, h1, h2, h3, h4⟩ := key i r hi
        obtain ⟨u, h5, h6⟩ := h4.at j cl hj
        exact ⟨a, rfl, trivial, by rw [h3 j u h5]; rfl⟩
      · obtain ⟨cs, h1, h2, h3, h4⟩ := key i r hi
        obtain ⟨u, h5, h6⟩ := h4.at j cl hj
        rw [h3 j u h5]
        exact h6
    · rw [hb] at hw2
      exact Nat.le_trans (Nat.mul_le_mul_right _ (by omega)) hw2
    · obtain ⟨i, hi⟩ := List.getElem?_of_mem hx
      exact (hxs i x hi).2
theorem opensF_nil {n off : Nat} (ho : off = n) : OpensF enc P w n [] off (fun _ : Unit => []) (fun _ => True) := by
  intro m cs xs hn _ _ _
  rw [List.drop_of_length_le (by omega)]
  exact ⟨(), trivial, trivial⟩
theorem opensF_cons {n off k : Nat} {f : Field} {fs : List Field} {α β : Type} {en : α → List Cell} {WF : α → Prop} {en' : β → List Cell} {WF' : β → Prop} (ho : f.offset = off) (hk : P.cellsOf f.type = k)
    (h : Opens enc P w f.type en WF) (h' : OpensF enc P w n fs (off + k) en' WF') : OpensF enc P w n (f :: fs) off (fun x : α × β => en x.1 ++ en' x.2) (fun x => WF x.1 ∧ WF' x.2) := by
  intro m cs xs hn hl ht hw
  cases xs with
  | nil => simp at hl
  | cons y ys =>
    simp only [List.map_cons, DataW.weightsEach, List.all_append, Bool.and_eq_true] at hw
    have h0 := ht 0 f rfl
    simp only [List.getElem?_cons_zero] at h0
    obtain ⟨x, h1, h2⟩ := h m _ y.1 y.2 h0 hw.1
    obtain ⟨x', h3, h4⟩ := h' m cs ys hn (by simpa using hl) (fun i g hg => by simpa using ht (i + 1) g (by simpa using hg)) hw.2
    refine ⟨(x, x'), ?_, h2, h4⟩
    have e : cs.drop off = (cs.drop f.offset).take (P.cellsOf f.type) ++ cs.drop (off + k) := by
      rw [ho, hk, ← List.drop_drop, List.take_append_drop]
    rw [e]
    exact h1.append h3
theorem opens_struct {t n : Nat} {fs : Array Field} {α : Type} {en : α → List Cell} {WF : α → Prop} (hu : P.underlying t = some (.struct fs)) (hn : P.cellsOf t = n) (h : OpensF enc P w n fs.toList 0 en WF) : Opens enc P w t en WF := by
  intro fuel cs d p hd hw
  obtain ⟨xs, m, _, hx, hl, hlen, hf⟩ := DataW.trod_struct hu hd
  simp only [Prod.mk.injEq] at hx
  rw [hx.1] at hw
  simp only [DataW.weights, hu] at hw
  obtain ⟨x, h1, h2⟩ := h m cs xs (by omega) (by simpa using hlen) (fun i f hi => hf i f (by simpa using hi)) hw
  exact ⟨x, by simpa using h1, h2⟩
theorem Opens.map {t : Nat} {α β : Type} {en : α → List Cell} {WF : α → Prop} {en' : β → List Cell} {WF' : β → Prop} (h : Opens enc P w t en WF) (hm : ∀ x, WF x → ∃ y, en' y = en x ∧ WF' y) : Opens enc P w t en' WF' := by
  intro fuel cs d p hd hw
  obtain ⟨x, h1, h2⟩ := h fuel cs d p hd hw
  obtain ⟨y, h3, h4⟩ := hm x h2
  exact ⟨y, by rw [h3]; exact h1, h4⟩
end
theorem start_HR {w : World} {b0 : Nat} {ρ : Nat → Value} {o : List (Nat × Ob)} (h0 : 0 < b0) (hz : o.lookup 0 = none) (ho : ∀ i b, o.lookup i = some b → i < b0 ∧ ∃ sz rows, b = .fz sz rows ∧ Rd w (fun _ => True) (.sl sz rows) (ρ i)) :
    HR w ⟨fun _ => False, fun _ => True, b0, ρ, []⟩ (fun c => c < b0) ρ (fun _ => none) o w := by
  refine ⟨fun i b hi => ?_, Grew.refl _ _, fun k _ _ => ⟨fun _ => rfl, fun h => absurd trivial h⟩, hz, h0, fun i hi => ⟨hi, rfl⟩⟩
  obtain ⟨h1, sz, rows, rfl, h2⟩ := ho i b hi
  exact ⟨h2.mono (fun _ _ _ => ⟨rfl, rfl⟩), h1, trivial⟩
theorem run_law {P : Program} {f : Nat} {args : List LV} {b0 b1 : Nat} {oc oc' : List (Nat × Ob)} {r : Value} (hs : Spec P f args b0 oc (.v r) b1 oc') {w : World} {ρ : Nat → Value} (h0 : 0 < b0) (hz : oc.lookup 0 = none)
    (ho : ∀ i b, oc.lookup i = some b → i < b0 ∧ ∃ sz rows, b = .fz sz rows ∧ Rd w (fun _ => True) (.sl sz rows) (ρ i)) (hu : LV.useds (fun c => c < b0) ρ args) :
    Calls P f (LV.vals ρ args).toArray w (fun e w' => e = .returned r ∧ Below w.heap.size w w') := by
  refine Calls.mono (hs w ⟨fun _ => False, fun _ => True, b0, ρ, []⟩ ρ (fun _ => none) w rfl (start_HR h0 hz ho) hu) (fun e w' h => ?_)
  obtain ⟨ρ', own', h1, _, h3⟩ := h
  exact ⟨h1, h3.gr.below⟩
end Lg
end Go.Proofs.Ytpfhmodjjljpjaa

namespace Go.Proofs.Ytpfhmodjjljpjaa
open Go.ChangeShapes Go.WideShapes Go.ChangeAt Go.RowKit
namespace Lg
set_option maxRecDepth 100000
def I64 (x : Int) : Prop := -9223372036854775808 ≤ x ∧ x ≤ 9223372036854775807
structure WTac (t : GTac) : Prop where
  op : I64 t.op
  d : I64 t.d
  a : I64 t.a
  b : I64 t.b
  k : I64 t.k
  base : I64 t.base
  size : I64 t.size
  n : 0 ≤ t.n ∧ t.n < 4294967296
structure WBlock (b : GBlock) : Prop where
  len : b.ins.length * 64 ≤ 140737488351232
  ins : ∀ t ∈ b.ins, WTac t
  fin : I64 b.fin
  v : I64 b.v
  to : I64 b.to
  els : I64 b.els
structure WFn (f : GFn) : Prop where
  regs : I64 f.regs
  len : f.blocks.length * 56 ≤ 140737488351232
  each : ∀ b ∈ f.blocks, WBlock b
structure WIs (l : List Int) : Prop where
  len : l.length * 8 ≤ 140737488351232
  each : ∀ x ∈ l, I64 x
structure WIss (l : List (List Int)) : Prop where
  len : l.length * 24 ≤ 140737488351232
  each : ∀ x ∈ l, WIs x
structure WProg (p : GProg) : Prop where
  words : I64 p.words
  len : p.funcs.length * 32 ≤ 140737488351232
  each : ∀ f ∈ p.funcs, WFn f
section
variable {H : Type} {enc : TypeId × Value → H} {w : World}
theorem i64_of {x : Int} (h : (Lit.int .i64 x).wf = true) : I64 x := by
  simp only [Lit.wf, Bool.and_eq_true, decide_eq_true_eq] at h
  exact h
theorem o_int : Opens enc Try.prog w 3 (fun x : Int => [.v (.int .i64 x)]) I64 := (opens_int Try.underlying3).map (fun x h => ⟨x, rfl, i64_of h⟩)
theorem o_u32 : Opens enc Try.prog w 68 (fun x : Int => [.v (.int .u32 x)]) (fun x => 0 ≤ x ∧ x < 4294967296) := (opens_int Try.underlying68).map (fun x h => ⟨x, rfl, by
  simp only [Lit.wf, Bool.and_eq_true, decide_eq_true_eq] at h
  have h1 : (0 : Int) ≤ x := h.1
  have h2 : x ≤ (4294967295 : Int) := h.2
  omega⟩)
theorem o_u8 : Opens enc Try.prog w 5 (fun x : Int => [.v (.int .u8 x)]) (fun x => 0 ≤ x ∧ x < 256) := (opens_int Try.underlying5).map (fun x h => ⟨x, rfl, by
  simp only [Lit.wf, Bool.and_eq_true, decide_eq_true_eq] at h
  have h1 : (0 : Int) ≤ x := h.1
  have h2 : x ≤ (255 : Int) := h.2
  omega⟩)
theorem o_tac : Opens enc Try.prog w 70 eTac WTac :=
  (opens_struct (n := 8) Try.underlying70 (by kernel_rfl) (opensF_cons (k := 1) rfl (by kernel_rfl) o_int <| opensF_cons (k := 1) rfl (by kernel_rfl) o_int <| opensF_cons (k := 1) rfl (by kernel_rfl) o_int <| opensF_cons (k := 1) rfl (by kernel_rfl) o_int <|
    opensF_cons (k := 1) rfl (by kernel_rfl) o_int <| opensF_cons (k := 1) rfl (by kernel_rfl) o_int <| opensF_cons (k := 1) rfl (by kernel_rfl) o_int <| opensF_cons (k := 1) rfl (by kernel_rfl) o_u32 <| opensF_nil rfl)).map
  (fun x h => ⟨⟨x.1, x.2.1, x.2.2.1, x.2.2.2.1, x.2.2.2.2.1, x.2.2.2.2.2.1, x.2.2.2.2.2.2.1, x.2.2.2.2.2.2.2.1⟩, rfl, ⟨h.1, h.2.1, h.2.2.1, h.2.2.2.1, h.2.2.2.2.1, h.2.2.2.2.2.1, h.2.2.2.2.2.2.1, h.2.2.2.2.2.2.2.1⟩⟩)
theorem o_tacs : Opens enc Try.prog w 67 (fun l : List GTac => [.sl 8 (l.map eTac)]) (fun l => l.length ≤ maxLen ∧ l.length * 64 ≤ reachBytes ∧ ∀ x ∈ l, WTac x) := opens_slice (by_ := 64) Try.underlying67 (by kernel_rfl) (by kernel_rfl) o_tac
theorem o_block : Opens enc Try.prog w 72 eBlock WBlock :=
  (opens_struct (n := 5) Try.underlying72 (by kernel_rfl) (opensF_cons (k := 1) rfl (by kernel_rfl) o_tacs <| opensF_cons (k := 1) rfl (by kernel_rfl) o_int <| opensF_cons (k := 1) rfl (by kernel_rfl) o_int <| opensF_cons (k := 1) rfl (by kernel_rfl) o_int <|
    opensF_cons (k := 1) rfl (by kernel_rfl) o_int <| opensF_nil rfl)).map
  (fun x h => ⟨⟨x.1, x.2.1, x.2.2.1, x.2.2.2.1, x.2.2.2.2.1⟩, rfl, ⟨h.1.2.1, h.1.2.2, h.2.1, h.2.2.1, h.2.2.2.1, h.2.2.2.2.1⟩⟩)
theorem o_blocks : Opens enc Try.prog w 27 (fun l : List GBlock => [.sl 5 (l.map eBlock)]) (fun l => l.length ≤ maxLen ∧ l.length * 56 ≤ reachBytes ∧ ∀ x ∈ l, WBlock x) := opens_slice (by_ := 56) Try.underlying27 (by kernel_rfl) (by kernel_rfl) o_block
theorem o_fn : Opens enc Try.prog w 29 eFn WFn :=
  (opens_struct (n := 2) Try.underlying29 (by kernel_rfl) (opensF_cons (k := 1) rfl (by kernel_rfl) o_int <| opensF_cons (k := 1) rfl (by kernel_rfl) o_blocks <| opensF_nil rfl)).map
  (fun x h => ⟨⟨x.1, x.2.1⟩, rfl, ⟨h.1, h.2.1.2.1, h.2.1.2.2⟩⟩)
theorem o_fns : Opens enc Try.prog w 22 (fun l : List GFn => [.sl 2 (l.map eFn)]) (fun l => l.length ≤ maxLen ∧ l.length * 32 ≤ reachBytes ∧ ∀ x ∈ l, WFn x) := opens_slice (by_ := 32) Try.underlying22 (by kernel_rfl) (by kernel_rfl) o_fn
def eProg (p : GProg) : List Cell := [.v (.int .i64 p.words), .sl 2 (p.funcs.map eFn)]
theorem o_prog : Opens enc Try.prog w 24 eProg WProg :=
  (opens_struct (n := 2) Try.underlying24 (by kernel_rfl) (opensF_cons (k := 1) rfl (by kernel_rfl) o_int <| opensF_cons (k := 1) rfl (by kernel_rfl) o_fns <| opensF_nil rfl)).map
  (fun x h => ⟨⟨x.1, x.2.1⟩, rfl, ⟨h.1, h.2.1.2.1, h.2.1.2.2⟩⟩)
theorem o_is : Opens enc Try.prog w 52 eIs WIs := (opens_slice (by_ := 8) (sz := 1) Try.underlying52 (by kernel_rfl) (by kernel_rfl) o_int).map (fun x h => ⟨x, rfl, ⟨h.2.1, h.2.2⟩⟩)
theorem o_iss : Opens enc Try.prog w 30 (fun l : List (List Int) => [.sl 1 (l.map eIs)]) WIss := (opens_slice (by_ := 24) Try.underlying30 (by kernel_rfl) (by kernel_rfl) o_is).map (fun x h => ⟨x, rfl, ⟨h.2.1, h.2.2⟩⟩)
theorem arg_agg {t : Nat} {α : Type} {en : α → List Cell} {WF : α → Prop} (ho : Opens enc Try.prog w t en WF) (hs : (match Try.prog.underlying t with | some (.struct _) => true | some (.array _ _) => true | _ => false) = true)
    {r : Reach} {b : Nat} {v : Value} {d : DataW H} {p : List MemPlace} (hv : Value.okWide Try.prog w r b t v) (hd : DataW.Trod enc Try.prog w 0 (fun _ => true) true t v d p) (hw : (d.weights Try.prog t).all (· ≤ reachBytes) = true) :
    ∃ x cs, v = .agg cs ∧ RdL w (en x) cs.toList ∧ WF x := by
  unfold Value.okWide at hv
  obtain ⟨fuel, hf⟩ := hd
  cases hu : Try.prog.underlying t with
  | none => rw [hu] at hs; cases hs
  | some q =>
    rw [hu] at hs hv
    cases q with
    | struct fs =>
      obtain ⟨cs, rfl, _⟩ := hv
      obtain ⟨x, h1, h2⟩ := ho fuel _ d p hf hw
      exact ⟨x, cs, rfl, h1, h2⟩
    | array n e =>
      obtain ⟨cs, rfl, _⟩ := hv
      obtain ⟨x, h1, h2⟩ := ho fuel _ d p hf hw
      exact ⟨x, cs, rfl, h1, h2⟩
    | _ => cases hs
theorem arg_slice {t e : Nat} {α : Type} {en : α → List Cell} {WF : α → Prop} (ho : Opens enc Try.prog w t en WF) (hs : Try.prog.underlying t = some (.slice e))
    {r : Reach} {b : Nat} {v : Value} {d : DataW H} {p : List MemPlace} (hv : Value.okWide Try.prog w r b t v) (hd : DataW.Trod enc Try.prog w 0 (fun _ => true) true t v d p) (hw : (d.weights Try.prog t).all (· ≤ reachBytes) = true) :
    ∃ x, RdL w (en x) [v] ∧ WF x := by
  obtain ⟨a, l, c, rfl⟩ := okWide_slice hs hv
  obtain ⟨fuel, hf⟩ := hd
  obtain ⟨x, h1, h2⟩ := ho fuel _ d p hf hw
  exact ⟨x, by simpa [Value.cells] using h1, h2⟩
theorem rdl_one {c : Cell} {v : Value} (h : RdL w [c] [v]) : Rd w (fun _ => True) c v := h.1
theorem arg_fn {r : Reach} {b : Nat} {v : Value} {d : DataW H} {p : List MemPlace} (hv : Value.okWide Try.prog w r b 29 v) (hd : DataW.Trod enc Try.prog w 0 (fun _ => true) true 29 v d p) (hw : (d.weights Try.prog 29).all (· ≤ reachBytes) = true) :
    ∃ (f : GFn) (s : Value), v = .agg #[.int .i64 f.regs, s] ∧ Rd w (fun _ => True) (.sl 5 (f.blocks.map eBlock)) s ∧ WFn f := by
  obtain ⟨f, cs, rfl, h1, h2⟩ := arg_agg o_fn (by rw [Try.underlying29]) hv hd hw
  obtain ⟨l⟩ := cs
  match l, h1 with
  | [x, s], h1 =>
    refine ⟨f, s, ?_, h1.2.1, h2⟩
    have h3 := h1.1
    cases h3
    rfl
theorem arg_iss {r : Reach} {b : Nat} {v : Value} {d : DataW H} {p : List MemPlace} (hv : Value.okWide Try.prog w r b 30 v) (hd : DataW.Trod enc Try.prog w 0 (fun _ => true) true 30 v d p) (hw : (d.weights Try.prog 30).all (· ≤ reachBytes) = true) :
    ∃ (l : List (List Int)), Rd w (fun _ => True) (.sl 1 (l.map eIs)) v ∧ WIss l := by
  obtain ⟨l, h1, h2⟩ := arg_slice o_iss Try.underlying30 hv hd hw
  exact ⟨l, h1.1, h2⟩
end
def FzAll (w : World) (ρ : Nat → Value) (b0 : Nat) : List (Nat × Ob) → Prop
  | [] => True
  | (i, .fz sz rows) :: l => (0 < i ∧ i < b0) ∧ Rd w (fun _ => True) (.sl sz rows) (ρ i) ∧ FzAll w ρ b0 l
  | _ => False
theorem FzAll.at {w : World} {ρ : Nat → Value} {b0 : Nat} : ∀ {l : List (Nat × Ob)}, FzAll w ρ b0 l → ∀ i b, l.lookup i = some b → (0 < i ∧ i < b0) ∧ ∃ sz rows, b = .fz sz rows ∧ Rd w (fun _ => True) (.sl sz rows) (ρ i)
  | (j, .fz sz rows) :: l, h, i, b, hi => by
    simp only [List.lookup] at hi
    cases hk : i == j with
    | true =>
      rw [hk] at hi
      have e : i = j := by simpa using hk
      subst e
      cases hi
      exact ⟨h.1, sz, rows, rfl, h.2.1⟩
    | false => rw [hk] at hi; exact h.2.2.at i b hi
theorem law_run {P : Program} {f : Nat} {args : List LV} {b0 b1 : Nat} {oc oc' : List (Nat × Ob)} {r : Value} (hs : Spec P f args b0 oc (.v r) b1 oc') {w : World} {ρ : Nat → Value} (h0 : 0 < b0) (ho : FzAll w ρ b0 oc) (hu : LV.useds (fun c => c < b0) ρ args) :
    Calls P f (LV.vals ρ args).toArray w (fun e w' => e = .returned r ∧ Below w.heap.size w w') := by
  refine run_law hs h0 ?_ (fun i b hi => ⟨(ho.at i b hi).1.2, (ho.at i b hi).2⟩) hu
  cases h : oc.lookup 0 with
  | none => rfl
  | some b => exact absurd (ho.at 0 b h).1.1 (by omega)
end Lg
end Go.Proofs.Ytpfhmodjjljpjaa

namespace Go.Proofs.Ytpfhmodjjljpjaa
open Go.RowKit
namespace Lg
set_option linter.unusedSimpArgs false
set_option linter.unusedVariables false
section
variable {P : Program} {N bs j j' b d nn i : Nat} {ops : Array Oper} {o : Oper} {s : List (Nat × LV)} {ob : List (Nat × Ob)} {lv : LV} {x : Ob} {pre : List Nat} {upd : List (Nat × Ob)} {tr : List Tr} {st' : St}
theorem Run.op0 (ho : ops[j]? = some o) (hd : o.dst = some d) (hb : bs + 16 * j = b) (hj : j + 1 = j') (hg : On ops ⟨s, ob⟩ o true) (ht : T P N o b pre ⟨s, ob⟩ lv nn []) (hn : decide (nn ≤ 16) = true) (r : Run P N ops bs j' ⟨(d, lv) :: s, ob⟩ tr st') :
    Run P N ops bs j ⟨s, ob⟩ (⟨true, pre, lv, nn, []⟩ :: tr) st' := by
  subst hb hj
  exact .op ho hg ht hn (by simpa [St.app, hd] using r)
theorem Run.op1 (ho : ops[j]? = some o) (hd : o.dst = some d) (hb : bs + 16 * j = b) (hj : j + 1 = j') (hg : On ops ⟨s, ob⟩ o true) (ht : T P N o b pre ⟨s, ob⟩ lv nn [(i, x)]) (hn : decide (nn ≤ 16) = true) (r : Run P N ops bs j' ⟨(d, lv) :: s, (i, x) :: ob⟩ tr st') :
    Run P N ops bs j ⟨s, ob⟩ (⟨true, pre, lv, nn, [(i, x)]⟩ :: tr) st' := by
  subst hb hj
  exact .op ho hg ht hn (by simpa [St.app, hd] using r)
theorem Run.opn (ho : ops[j]? = some o) (hd : o.dst = some d) (hb : bs + 16 * j = b) (hj : j + 1 = j') (hg : On ops ⟨s, ob⟩ o true) (ht : T P N o b pre ⟨s, ob⟩ lv nn upd) (hn : decide (nn ≤ 16) = true) (r : Run P N ops bs j' ⟨(d, lv) :: s, upd ++ ob⟩ tr st') :
    Run P N ops bs j ⟨s, ob⟩ (⟨true, pre, lv, nn, upd⟩ :: tr) st' := by
  subst hb hj
  exact .op ho hg ht hn (by simpa [St.app, hd] using r)
theorem Run.st0 (ho : ops[j]? = some o) (hd : o.dst = none) (hb : bs + 16 * j = b) (hj : j + 1 = j') (hg : On ops ⟨s, ob⟩ o true) (ht : T P N o b pre ⟨s, ob⟩ lv nn []) (hn : decide (nn ≤ 16) = true) (r : Run P N ops bs j' ⟨s, ob⟩ tr st') :
    Run P N ops bs j ⟨s, ob⟩ (⟨true, pre, lv, nn, []⟩ :: tr) st' := by
  subst hb hj
  exact .op ho hg ht hn (by simpa [St.app, hd] using r)
theorem Run.st1 (ho : ops[j]? = some o) (hd : o.dst = none) (hb : bs + 16 * j = b) (hj : j + 1 = j') (hg : On ops ⟨s, ob⟩ o true) (ht : T P N o b pre ⟨s, ob⟩ lv nn [(i, x)]) (hn : decide (nn ≤ 16) = true) (r : Run P N ops bs j' ⟨s, (i, x) :: ob⟩ tr st') :
    Run P N ops bs j ⟨s, ob⟩ (⟨true, pre, lv, nn, [(i, x)]⟩ :: tr) st' := by
  subst hb hj
  exact .op ho hg ht hn (by simpa [St.app, hd] using r)
theorem Run.stn (ho : ops[j]? = some o) (hd : o.dst = none) (hb : bs + 16 * j = b) (hj : j + 1 = j') (hg : On ops ⟨s, ob⟩ o true) (ht : T P N o b pre ⟨s, ob⟩ lv nn upd) (hn : decide (nn ≤ 16) = true) (r : Run P N ops bs j' ⟨s, upd ++ ob⟩ tr st') :
    Run P N ops bs j ⟨s, ob⟩ (⟨true, pre, lv, nn, upd⟩ :: tr) st' := by
  subst hb hj
  exact .op ho hg ht hn (by simpa [St.app, hd] using r)
theorem Run.no (ho : ops[j]? = some o) (hd : o.dst = some d) (hj : j + 1 = j') (hg : On ops ⟨s, ob⟩ o false) (r : Run P N ops bs j' ⟨(d, .v undef) :: s, ob⟩ tr st') :
    Run P N ops bs j ⟨s, ob⟩ (⟨false, [], .v undef, 0, []⟩ :: tr) st' := by
  subst hj
  exact .off ho hg (by simpa [St.app, hd] using r)
end
section
variable {J : Nat → St → Prop} {K : Exit → Nat → St → Prop} {b : Nat} {s : St} {i id : Nat}
theorem thenK_n (h : J b s) : thenK J K .normal b s := h
theorem thenK_e (h : K (.exit i) b s) : thenK J K (.exit i) b s := h
theorem thenK_r (h : K .ret b s) : thenK J K .ret b s := h
theorem blockK_n (h : K .normal b s) : blockK id K .normal b s := h
theorem blockK_hit (h : K .normal b s) : blockK id K (.exit id) b s := by simpa [blockK] using h
theorem blockK_miss (hi : (i == id) = false) (h : K (.exit i) b s) : blockK id K (.exit i) b s := by
  have : i ≠ id := by simpa using hi
  simpa [blockK, this] using h
theorem blockK_r (h : K .ret b s) : blockK id K .ret b s := h
end
inductive NilR (lo hi : Nat) : LV → LV → Prop
  | same (x : LV) : NilR lo hi x x
  | nil {i : Nat} (h : (decide (lo ≤ i) && decide (i < hi)) = true) : NilR lo hi (.v (.slice none 0 0)) (.r i)
inductive NilRs (lo hi : Nat) : List LV → List LV → Prop
  | nil : NilRs lo hi [] []
  | cons {x y : LV} {l m : List LV} (h : NilR lo hi x y) (t : NilRs lo hi l m) : NilRs lo hi (x :: l) (y :: m)
theorem NilR.val {lo hi : Nat} {x y : LV} (h : NilR lo hi x y) {ρ ρ' : Nat → Value} {U U' : Nat → Prop} (hρ : ∀ i, U i → ρ' i = ρ i) (hU : ∀ i, U i → U' i) (hn : ∀ i, lo ≤ i → i < hi → ρ' i = .slice none 0 0 ∧ U' i) (hu : x.used U ρ) :
    y.val ρ' = x.val ρ ∧ y.used U' ρ' := by
  cases h with
  | same x => exact ⟨used_congr hρ x hu, used_mono hρ hU x hu⟩
  | nil h =>
    simp only [Bool.and_eq_true, decide_eq_true_eq] at h
    exact ⟨(hn _ h.1 h.2).1, (hn _ h.1 h.2).2⟩
theorem NilRs.val {lo hi : Nat} {l m : List LV} (h : NilRs lo hi l m) {ρ ρ' : Nat → Value} {U U' : Nat → Prop} (hρ : ∀ i, U i → ρ' i = ρ i) (hU : ∀ i, U i → U' i) (hn : ∀ i, lo ≤ i → i < hi → ρ' i = .slice none 0 0 ∧ U' i) (hu : LV.useds U ρ l) :
    LV.vals ρ' m = LV.vals ρ l ∧ LV.useds U' ρ' m := by
  induction h with
  | nil => exact ⟨rfl, trivial⟩
  | cons h t ih =>
    obtain ⟨h1, h2⟩ := h.val hρ hU hn hu.1
    obtain ⟨h3, h4⟩ := ih hu.2
    exact ⟨by simp [LV.vals, h1, h3], h2, h4⟩
def nilRows (b : Nat) : List (Nat × Nat) → List (Nat × Ob)
  | [] => []
  | (e, sz) :: l => (b, .row e sz []) :: nilRows (b + 1) l
theorem nilRows_at : ∀ (l : List (Nat × Nat)) (b i : Nat) (ob : Ob), (l.all fun p => decide (0 < p.2)) = true → (nilRows b l).lookup i = some ob → b ≤ i ∧ i < b + l.length ∧ ∃ e sz, ob = .row e sz [] ∧ 0 < sz
  | [], b, i, ob, _, h => by simp [nilRows] at h
  | (e, sz) :: l, b, i, ob, hz, h => by
    simp only [List.all_cons, Bool.and_eq_true, decide_eq_true_eq] at hz
    simp only [nilRows, List.lookup] at h
    cases hk : i == b with
    | true =>
      rw [hk] at h
      obtain rfl : i = b := by simpa using hk
      cases h
      exact ⟨Nat.le_refl _, by simp, e, sz, rfl, hz.1⟩
    | false =>
      rw [hk] at h
      obtain ⟨h1, h2, h3⟩ := nilRows_at l (b + 1) i ob hz.2 h
      exact ⟨by omega, by simp only [List.length_cons]; omega, h3⟩
theorem nil_rep {w : World} {ρ : Nat → Value} {own : Nat → Option Nat} {i e sz : Nat} (h : ρ i = .slice none 0 0) (hs : 0 < sz) : RepOb w ρ own i (.row e sz []) :=
  ⟨hs, [], ⟨by simp, .inl ⟨h, rfl⟩⟩, (fun k hk => by rw [h] at hk; cases hk), ⟨by simp, fun i r hi => by simp at hi⟩⟩
theorem HR.addNils {w0 w : World} {M : Fp} {U : Nat → Prop} {ρ : Nat → Value} {own : Nat → Option Nat} {ob : List (Nat × Ob)} (hr : HR w0 M U ρ own ob w) (b : Nat) (l : List (Nat × Nat)) (hz : (l.all fun p => decide (0 < p.2)) = true) (hb : ∀ i, b ≤ i → i < b + l.length → ¬ U i) :
    HR w0 M (grow U b l.length) (fun i => if b ≤ i ∧ i < b + l.length then .slice none 0 0 else ρ i) own (nilRows b l ++ ob) w := by
  have hρ : ∀ i, U i → (if b ≤ i ∧ i < b + l.length then Value.slice none 0 0 else ρ i) = ρ i := fun i hi => if_neg (fun h => hb i h.1 h.2 hi)
  refine hr.step (fun _ => False) rfl rfl rfl (Nat.le_refl _) (fun k hk _ => ⟨rfl, rfl⟩) hρ (fun i hi => .inl hi) (fun _ h => h.elim) (fun i ob' hi => ?_) (fun i ob' hi => ?_)
  · obtain ⟨h1, h2, _⟩ := nilRows_at l b i ob' hz hi
    exact .inr (hb i h1 h2)
  · obtain ⟨h1, h2, e, sz, rfl, h3⟩ := nilRows_at l b i ob' hz hi
    exact ⟨nil_rep (by rw [if_pos ⟨h1, h2⟩]) h3, .inr ⟨h1, h2⟩, trivial⟩
section
variable {P : Program} {N b nn : Nat} {o : Oper} {st : St} {lv lv' : LV} {pre : List Nat} {upd : List (Nat × Ob)}
theorem T_nils (l : List (Nat × Nat)) (h : T P N o b pre st lv nn upd) (hz : (l.all fun p => decide (0 < p.2)) = true) {m : List LV} {m' : List LV} (hlv : (lv = .agg m ∧ lv' = .agg m') ∨ (m = [lv] ∧ m' = [lv'])) (hm : NilRs (b + nn) (b + nn + l.length) m m') {upd' : List (Nat × Ob)} (hupd : nilRows (b + nn) l ++ upd = upd') {nn' : Nat} (hnn : nn + l.length = nn') :
    T P N o b pre st lv' nn' upd' := by
  intro w0 M U ρ own st' a w hx hp hf fr hr
  subst hupd hnn
  intro next Q hn
  refine h w0 M U ρ own st' a w hx hp (fun i h1 h2 => hf i h1 (by omega)) fr hr next Q (fun v w' hv => hn v w' ?_)
  obtain ⟨ρ', own', rfl, h1, h2, h3⟩ := hv
  have hfresh : ∀ i, b + nn ≤ i → i < b + nn + l.length → ¬ grow U b nn i := fun i g1 g2 g3 => by
    rcases g3 with g3 | g3
    · exact hf i (by omega) (by omega) g3
    · omega
  have h4 := h3.addNils (b + nn) l hz hfresh
  let ρ2 : Nat → Value := fun i => if b + nn ≤ i ∧ i < b + nn + l.length then .slice none 0 0 else ρ' i
  have hρ : ∀ i, grow U b nn i → ρ2 i = ρ' i := fun i hi => if_neg (fun h => hfresh i h.1 h.2 hi)
  have hgrow : ∀ i, grow (grow U b nn) (b + nn) l.length i → grow U b (nn + l.length) i := fun i hi => by
    rcases hi with (hi | hi) | hi
    · exact .inl hi
    · exact .inr (by omega)
    · exact .inr (by omega)
  have hval : lv'.val ρ2 = lv.val ρ' ∧ lv'.used (grow (grow U b nn) (b + nn) l.length) ρ2 := by
    have hnew : ∀ i, b + nn ≤ i → i < b + nn + l.length → ρ2 i = .slice none 0 0 ∧ grow (grow U b nn) (b + nn) l.length i := fun i g1 g2 => ⟨if_pos ⟨g1, g2⟩, .inr ⟨g1, g2⟩⟩
    rcases hlv with ⟨rfl, rfl⟩ | ⟨rfl, rfl⟩
    · obtain ⟨k1, k2⟩ := hm.val (ρ := ρ') (ρ' := ρ2) hρ (fun i hi => .inl hi) hnew h2.1
      exact ⟨by simp only [LV.val]; rw [k1], k2, by rw [k1]; exact h2.2⟩
    · obtain ⟨k1, k2⟩ := hm.val (ρ := ρ') (ρ' := ρ2) hρ (fun i hi => .inl hi) hnew ⟨h2, trivial⟩
      exact ⟨by simpa [LV.vals] using k1, k2.1⟩
  refine ⟨ρ2, own', hval.1.symm, fun i hi => (hρ i (.inl hi)).trans (h1 i hi), used_mono (fun _ _ => rfl) hgrow lv' hval.2, ?_⟩
  rw [List.append_assoc]
  exact h4.mono hgrow
theorem T_nilbox (l : List (Nat × Nat)) {t : Nat} {cs cs' : List LV} (h : T P N o b pre st lv nn [(b, .box t cs)]) (hz : (l.all fun p => decide (0 < p.2)) = true) (hm : NilRs (b + nn) (b + nn + l.length) cs cs') {upd' : List (Nat × Ob)} (hupd : (b, .box t cs') :: nilRows (b + nn) l = upd') {nn' : Nat} (hnn : nn + l.length = nn') :
    T P N o b pre st lv nn' upd' := by
  intro w0 M U ρ own st' a w hx hp hf fr hr
  subst hupd hnn
  intro next Q hn
  refine h w0 M U ρ own st' a w hx hp (fun i h1 h2 => hf i h1 (by omega)) fr hr next Q (fun v w' hv => hn v w' ?_)
  obtain ⟨ρ', own', rfl, h1, h2, h3⟩ := hv
  have hfresh : ∀ i, b + nn ≤ i → i < b + nn + l.length → ¬ grow U b nn i := fun i g1 g2 g3 => by
    rcases g3 with g3 | g3
    · exact hf i (by omega) (by omega) g3
    · omega
  have h4 := h3.addNils (b + nn) l hz hfresh
  let ρ2 : Nat → Value := fun i => if b + nn ≤ i ∧ i < b + nn + l.length then .slice none 0 0 else ρ' i
  have hρ : ∀ i, grow U b nn i → ρ2 i = ρ' i := fun i hi => if_neg (fun h => hfresh i h.1 h.2 hi)
  have hgrow : ∀ i, grow (grow U b nn) (b + nn) l.length i → grow U b (nn + l.length) i := fun i hi => by
    rcases hi with (hi | hi) | hi
    · exact .inl hi
    · exact .inr (by omega)
    · exact .inr (by omega)
  have hnew : ∀ i, b + nn ≤ i → i < b + nn + l.length → ρ2 i = .slice none 0 0 ∧ grow (grow U b nn) (b + nn) l.length i := fun i g1 g2 => ⟨if_pos ⟨g1, g2⟩, .inr ⟨g1, g2⟩⟩
  obtain ⟨q1, q2, q3⟩ := h3.ob b (.box t cs) (by simp)
  obtain ⟨k1, k2⟩ := hm.val (ρ := ρ') (ρ' := ρ2) hρ (fun i hi => .inl hi) hnew q3.1
  refine ⟨ρ2, own', (used_congr hρ lv h2).symm, fun i hi => (hρ i (.inl hi)).trans (h1 i hi), used_mono hρ (fun i hi => hgrow i (.inl hi)) lv h2, ?_⟩
  -- the variable's cells, told by the rows
  have h5 : HR w0 M (grow (grow U b nn) (b + nn) l.length) ρ2 own' ([(b, .box t cs')] ++ (nilRows (b + nn) l ++ ([(b, .box t cs)] ++ st'.o))) w' := by
    refine h4.step (fun _ => False) rfl rfl rfl (Nat.le_refl _) (fun _ _ _ => ⟨rfl, rfl⟩) (fun _ _ => rfl) (fun _ h => h) (fun _ h => h.elim) (fun i ob' hi => .inl ?_) (fun i ob' hi => ?_)
    · rw [lookup_key hi]
      refine ⟨.box t cs, ?_⟩
      rw [lookup_append]
      cases hl : (nilRows (b + nn) l).lookup b with
      | some ob2 =>
        obtain ⟨g1, g2, _⟩ := nilRows_at l _ _ _ hz hl
        exact absurd q2 (hfresh b g1 g2)
      | none => simp
    · have hib := lookup_key hi
      subst hib
      obtain rfl : Ob.box t cs' = ob' := by simpa using hi
      obtain ⟨g, g1, g2, g3⟩ := q1
      exact ⟨⟨g, by show ρ2 i = _; rw [hρ i q2]; exact g1, g2, by rw [g3, k1]⟩, .inl q2, k2, by rw [k1]; exact q3.2⟩
  refine (h5.mono hgrow).congr (fun i => ?_)
  simp only [List.cons_append, List.nil_append, List.lookup, lookup_append]
  cases hib : i == b with
  | true => rfl
  | false => rfl
end
end Lg
end Go.Proofs.Ytpfhmodjjljpjaa

namespace Go.Proofs.Ytpfhmodjjljpjaa
open Go.RowKit
namespace Lg
set_option linter.unusedSimpArgs false
set_option linter.unusedVariables false
def RunK (P : Program) (N : Nat) (ops : Array Oper) (bs j : Nat) (st : St) (C : List Tr → St → Prop) : Prop := ∃ tr st', Run P N ops bs j st tr st' ∧ C tr st'
section
variable {P : Program} {N bs j j' b d nn i : Nat} {ops : Array Oper} {o : Oper} {s : List (Nat × LV)} {ob : List (Nat × Ob)} {lv : LV} {x : Ob} {pre : List Nat} {upd : List (Nat × Ob)} {C : List Tr → St → Prop}
theorem k_done {st : St} (h : ops.size = j) (hC : C [] st) : RunK P N ops bs j st C := ⟨[], st, .done h, hC⟩
theorem k_op0 (ho : ops[j]? = some o) (hd : o.dst = some d) (hb : bs + 16 * j = b) (hj : j + 1 = j') (hg : On ops ⟨s, ob⟩ o true) (ht : T P N o b pre ⟨s, ob⟩ lv nn []) (hn : decide (nn ≤ 16) = true) (r : RunK P N ops bs j' ⟨(d, lv) :: s, ob⟩ (fun tr => C (⟨true, pre, lv, nn, []⟩ :: tr))) : RunK P N ops bs j ⟨s, ob⟩ C := by
  obtain ⟨tr, st', r, hC⟩ := r
  exact ⟨_, st', .op0 ho hd hb hj hg ht hn r, hC⟩
theorem k_op1 (ho : ops[j]? = some o) (hd : o.dst = some d) (hb : bs + 16 * j = b) (hj : j + 1 = j') (hg : On ops ⟨s, ob⟩ o true) (ht : T P N o b pre ⟨s, ob⟩ lv nn [(i, x)]) (hn : decide (nn ≤ 16) = true) (r : RunK P N ops bs j' ⟨(d, lv) :: s, (i, x) :: ob⟩ (fun tr => C (⟨true, pre, lv, nn, [(i, x)]⟩ :: tr))) : RunK P N ops bs j ⟨s, ob⟩ C := by
  obtain ⟨tr, st', r, hC⟩ := r
  exact ⟨_, st', .op1 ho hd hb hj hg ht hn r, hC⟩
theorem k_opn (ho : ops[j]? = some o) (hd : o.dst = some d) (hb : bs + 16 * j = b) (hj : j + 1 = j') (hg : On ops ⟨s, ob⟩ o true) (ht : T P N o b pre ⟨s, ob⟩ lv nn upd) (hn : decide (nn ≤ 16) = true) (r : RunK P N ops bs j' ⟨(d, lv) :: s, upd ++ ob⟩ (fun tr => C (⟨true, pre, lv, nn, upd⟩ :: tr))) : RunK P N ops bs j ⟨s, ob⟩ C := by
  obtain ⟨tr, st', r, hC⟩ := r
  exact ⟨_, st', .opn ho hd hb hj hg ht hn r, hC⟩
theorem k_st0 (ho : ops[j]? = some o) (hd : o.dst = none) (hb : bs + 16 * j = b) (hj : j + 1 = j') (hg : On ops ⟨s, ob⟩ o true) (ht : T P N o b pre ⟨s, ob⟩ lv nn []) (hn : decide (nn ≤ 16) = true) (r : RunK P N ops bs j' ⟨s, ob⟩ (fun tr => C (⟨true, pre, lv, nn, []⟩ :: tr))) : RunK P N ops bs j ⟨s, ob⟩ C := by
  obtain ⟨tr, st', r, hC⟩ := r
  exact ⟨_, st', .st0 ho hd hb hj hg ht hn r, hC⟩
theorem k_st1 (ho : ops[j]? = some o) (hd : o.dst = none) (hb : bs + 16 * j = b) (hj : j + 1 = j') (hg : On ops ⟨s, ob⟩ o true) (ht : T P N o b pre ⟨s, ob⟩ lv nn [(i, x)]) (hn : decide (nn ≤ 16) = true) (r : RunK P N ops bs j' ⟨s, (i, x) :: ob⟩ (fun tr => C (⟨true, pre, lv, nn, [(i, x)]⟩ :: tr))) : RunK P N ops bs j ⟨s, ob⟩ C := by
  obtain ⟨tr, st', r, hC⟩ := r
  exact ⟨_, st', .st1 ho hd hb hj hg ht hn r, hC⟩
theorem k_stn (ho : ops[j]? = some o) (hd : o.dst = none) (hb : bs + 16 * j = b) (hj : j + 1 = j') (hg : On ops ⟨s, ob⟩ o true) (ht : T P N o b pre ⟨s, ob⟩ lv nn upd) (hn : decide (nn ≤ 16) = true) (r : RunK P N ops bs j' ⟨s, upd ++ ob⟩ (fun tr => C (⟨true, pre, lv, nn, upd⟩ :: tr))) : RunK P N ops bs j ⟨s, ob⟩ C := by
  obtain ⟨tr, st', r, hC⟩ := r
  exact ⟨_, st', .stn ho hd hb hj hg ht hn r, hC⟩
theorem k_no (ho : ops[j]? = some o) (hd : o.dst = some d) (hj : j + 1 = j') (hg : On ops ⟨s, ob⟩ o false) (r : RunK P N ops bs j' ⟨(d, .v undef) :: s, ob⟩ (fun tr => C (⟨false, [], .v undef, 0, []⟩ :: tr))) : RunK P N ops bs j ⟨s, ob⟩ C := by
  obtain ⟨tr, st', r, hC⟩ := r
  exact ⟨_, st', .no ho hd hj hg r, hC⟩
theorem k_split {st : St} {c : Bool} (hs : st.s.lookup d = some (.v (.bool c))) (h1 : c = true → RunK P N ops bs j st C) (h2 : c = false → RunK P N ops bs j st C) : RunK P N ops bs j st C := by
  cases c
  · exact h2 rfl
  · exact h1 rfl
theorem g_tt {st : St} {g d : Nat} {c : Bool} (h : o.guard = some (g, true)) (hj : (ops[g]?).bind (·.dst) = some d) (hs : st.s.lookup d = some (.v (.bool c))) (hc : c = true) : On ops st o true := .yes h hj hs (by rw [hc]; rfl)
theorem g_tf {st : St} {g d : Nat} {c : Bool} (h : o.guard = some (g, true)) (hj : (ops[g]?).bind (·.dst) = some d) (hs : st.s.lookup d = some (.v (.bool c))) (hc : c = false) : On ops st o false := .no h hj hs (by rw [hc]; rfl)
theorem g_ft {st : St} {g d : Nat} {c : Bool} (h : o.guard = some (g, false)) (hj : (ops[g]?).bind (·.dst) = some d) (hs : st.s.lookup d = some (.v (.bool c))) (hc : c = true) : On ops st o false := .no h hj hs (by rw [hc]; rfl)
theorem g_ff {st : St} {g d : Nat} {c : Bool} (h : o.guard = some (g, false)) (hj : (ops[g]?).bind (·.dst) = some d) (hs : st.s.lookup d = some (.v (.bool c))) (hc : c = false) : On ops st o true := .yes h hj hs (by rw [hc]; rfl)
end
section
variable {ro : Option Nat} {P : Program} {N n b b' id : Nat} {st : St} {ops : Array Oper} {K : Exit → Nat → St → Prop}
theorem W_seqK (hd : dstsOk ops N = true) (hb : b + 16 * ops.size = b') (r : RunK P N ops b 0 st (fun _ st' => K .normal b' st')) : W ro P N n (.region id ops false) b st K := by
  obtain ⟨tr, st', r, h⟩ := r
  exact W_region r hd hb h
theorem W_anyK (hm : P.follows .mixedOrders = true) (hd : dstsOk ops N = true) (hb : b + 16 * ops.size = b') (r : RunK P N ops b 0 st (fun tr st' => chk ops tr = true ∧ K .normal b' st')) : W ro P N n (.region id ops true) b st K := by
  obtain ⟨tr, st', r, h⟩ := r
  exact W_any hm r hd h.1 hb h.2
end
section
variable {P : Program} {N b nn : Nat} {o : Oper} {st : St} (D : Tab P)
theorem T_ldE {α : Type} [Inhabited α] {enc : α → List Cell} {xs : List α} {t i sz j f : Nat} {x : Operand} {cl : Cell} {ty : TyI} {lv : LV} {upd : List (Nat × Ob)} (ho : o.op = .load t x) (hx : st.ev x = some (.e i sz j f)) (hob : (st.o.lookup i).bind Ob.rows? = some (sz, xs.map enc)) (hi : D.get t = some ty) (ha : ty.agg = false)
    (hj : j < xs.length) (hf : (enc (xs.getD j default))[f]? = some cl) (hlv : cellsLV b [cl] = [lv]) (hn : cellsN [cl] = nn) (hu : cellsOb b [cl] = upd) : T P N o b [i] st lv nn upd := by
  subst hn hu
  exact T_load_e D ho hx hob hi ha hj hf hlv
theorem T_ldEA {α : Type} [Inhabited α] {enc : α → List Cell} {xs : List α} {t i sz j f : Nat} {x : Operand} {cls : List Cell} {ty : TyI} {l : List LV} {upd : List (Nat × Ob)} (ho : o.op = .load t x) (hx : st.ev x = some (.e i sz j f)) (hob : (st.o.lookup i).bind Ob.rows? = some (sz, xs.map enc)) (hi : D.get t = some ty) (ha : ty.agg = true)
    (hj : j < xs.length) (hf : ((enc (xs.getD j default)).drop f).take ty.size = cls) (hz : cls.length = ty.size) (hlv : cellsLV b cls = l) (hn : cellsN cls = nn) (hu : cellsOb b cls = upd) : T P N o b [i] st (.agg l) nn upd := by
  subst hn hu hlv
  exact T_load_eA D ho hx hob hi ha hj hf hz
theorem T_stB {t i n : Nat} {x y : Operand} {bt : Nat} {cs l cs' : List LV} {lv : LV} {pre : List Nat} {ty : TyI} (ho : o.op = .store t x y) (hx : st.ev x = some (.p i n)) (hob : st.o.lookup i = some (.box bt cs)) (hy : st.ev y = some lv) (hf : Flat st lv l pre) (hi : D.get t = some ty) (hl : l.length = ty.size) (hn : n + l.length ≤ cs.length) (hcs : cs.take n ++ l ++ cs.drop (n + l.length) = cs') :
    T P N o b (i :: pre) st (.v undef) 0 [(i, .box bt cs')] := by
  subst hcs
  exact T_store_b D ho hx hob hy hf hi hl hn
end
section
variable {P : Program} {N b : Nat} {o : Oper} {st : St} (D : Tab P)
theorem T_fa {t k i n off sz m : Nat} {x : Operand} {ty : TyI} (ho : o.op = .fieldAddr t x k) (hx : st.ev x = some (.p i n)) (hi : D.get t = some ty) (hk : ty.fields[k]? = some (off, sz)) (hs : (sz == 0) = false) (hm : n + off = m) : T P N o b [] st (.p i m) 0 [] := by
  subst hm; exact T_fieldAddr D ho hx hi hk hs
theorem T_fae {t k i z j f off sz m : Nat} {x : Operand} {ty : TyI} (ho : o.op = .fieldAddr t x k) (hx : st.ev x = some (.e i z j f)) (hi : D.get t = some ty) (hk : ty.fields[k]? = some (off, sz)) (hs : (sz == 0) = false) (hm : f + off = m) : T P N o b [] st (.e i z j m) 0 [] := by
  subst hm; exact T_fieldAddr_e D ho hx hi hk hs
end
theorem fill_all {β : Type} {sz : Nat} : ∀ (ls : List (Nat × List β)) (s : Nat) (cells : List β), ls.map (·.1) = List.range' s ls.length → (∀ p ∈ ls, p.2.length = sz) → cells.length = (s + ls.length) * sz →
    fillL (fun i => some (i * sz, sz)) cells ls = some (cells.take (s * sz) ++ (ls.map (·.2)).flatten)
  | [], s, cells, _, _, hc => by
    simp only [List.length_nil, Nat.add_zero] at hc
    simp [fillL, ← hc]
  | (i, l) :: rest, s, cells, hi, hl, hc => by
    simp only [List.map_cons, List.length_cons, List.range'_succ, List.cons.injEq] at hi
    obtain ⟨rfl, hi⟩ := hi
    have hl0 : l.length = sz := hl (i, l) (by simp)
    have hlen : (i + (rest.length + 1)) * sz = i * sz + sz + rest.length * sz := by
      rw [Nat.add_mul, Nat.succ_mul]; omega
    simp only [List.length_cons] at hc
    rw [hlen] at hc
    have hcond : (l.length != sz || decide (i * sz + l.length > cells.length)) = false := by
      simp only [hl0, bne_self_eq_false, Bool.false_or, decide_eq_false_iff_not]
      omega
    have h1 : (cells.take (i * sz)).length = i * sz := by rw [List.length_take]; omega
    have h2 : (splice cells (i * sz) l).length = (i + 1 + rest.length) * sz := by
      have : (i + 1 + rest.length) * sz = i * sz + sz + rest.length * sz := by rw [Nat.add_mul, Nat.add_mul]; omega
      rw [this]
      unfold splice
      simp only [List.length_append, List.length_drop, h1, hl0]
      omega
    have h3 : (splice cells (i * sz) l).take ((i + 1) * sz) = cells.take (i * sz) ++ l := by
      unfold splice
      rw [List.take_append_of_le_length (by rw [List.length_append, h1, hl0, Nat.succ_mul]; exact Nat.le_refl _)]
      exact List.take_of_length_le (by rw [List.length_append, h1, hl0, Nat.succ_mul]; exact Nat.le_refl _)
    simp only [fillL, hcond, Bool.false_eq_true, if_false]
    rw [fill_all rest (i + 1) (splice cells (i * sz) l) hi (fun p hp => hl p (List.mem_cons_of_mem _ hp)) h2, h3]
    simp
section
variable {P : Program} {N b : Nat} {o : Oper} {st : St} (D : Tab P)
theorem T_bs {α : Type} {enc : α → List Cell} {ys : List α} {t n : Nat} {parts : Array (Nat × Operand)} {ls : List (Nat × List LV)} {l : List LV} {pre pre' : List Nat} {frz : List (Nat × Ob)} {ty ety : TyI} (ho : o.op = .buildSlice t n parts) (hi : D.get t = some ty) (he0 : (ty.elem == 0) = false) (he : D.get ty.elem = some ety) (hs : (ety.size == 0) = false)
    (hn : decide (n * ety.size ≤ 16777216) = true) (hp : PartsOf st parts.toList ls pre) (hk : ls.map (·.1) = List.range' 0 ls.length) (hz : (ls.all fun p => p.2.length == ety.size) = true) (hln : ls.length = n) (hl : (ls.map (·.2)).flatten = l)
    (hc : CellsOf st.o l (ys.map enc).flatten pre' frz) (hy : ys.length = n) (hez : (ys.map enc).all (fun r => r.length == ety.size) = true) :
    T P N o b (pre ++ pre') st (.r b) 1 ((b, .row ty.elem ety.size (ys.map enc)) :: frz) := by
  refine T_buildSlice D ho hi he0 he hs hn hp ?_ hc hy hez
  rw [fill_all ls 0 _ hk (fun p hp => by simpa using List.all_eq_true.1 hz p hp) (by simp [size_madeCells, hln]), hl]
  simp
end
theorem fill_step {α β : Type} [Inhabited α] (f : α → β) (d : β) (xs : List α) (j n : Nat) (hn : n = xs.length) (h : j < n) (z : β) (hz : z = f (xs.getD j default)) :
    ((xs.take j).map f ++ List.replicate (n - j) d).set j z = (xs.take (j + 1)).map f ++ List.replicate (n - (j + 1)) d := by
  subst hn hz
  have h1 : ((xs.take j).map f).length = j := by simp; omega
  have h2 : List.replicate (xs.length - j) d = d :: List.replicate (xs.length - (j + 1)) d := by
    rw [show xs.length - j = (xs.length - (j + 1)) + 1 by omega, List.replicate_succ]
  rw [h2, List.set_append_right _ _ (by omega), h1, Nat.sub_self, List.set_cons_zero, List.take_add_one, List.map_append, List.append_assoc]
  congr 1
  simp [List.getD_eq_getElem?_getD, List.getElem?_eq_getElem h]
theorem fill_skip {α β : Type} [Inhabited α] (f : α → β) (d : β) (xs : List α) (j n : Nat) (hn : n = xs.length) (h : j < n) (hz : f (xs.getD j default) = d) :
    (xs.take j).map f ++ List.replicate (n - j) d = (xs.take (j + 1)).map f ++ List.replicate (n - (j + 1)) d := by
  rw [← fill_step f d xs j n hn h d hz.symm]
  have h1 : ((xs.take j).map f).length = j := by simp; omega
  rw [show n - j = (n - (j + 1)) + 1 by omega, List.replicate_succ, List.set_append_right _ _ (by omega), h1, Nat.sub_self, List.set_cons_zero]
def isSl : Option Ob → Bool
  | some (.row ..) => true
  | some (.fz ..) => true
  | _ => false
theorem flat_sl {st : St} {i : Nat} (h : isSl (st.o.lookup i) = true) : Flat st (.r i) [.r i] [i] := by
  cases hl : st.o.lookup i with
  | none => rw [hl] at h; cases h
  | some ob =>
    rw [hl] at h
    cases ob with
    | row e sz rows => exact flat_row hl
    | fz sz rows => exact flat_fz hl
    | _ => cases h
section
variable {P : Program} {N b nn : Nat} {o : Oper} {st : St} {fop : Operand} {aa : Array Operand} {ats : Array TypeId} {f : Nat} {caps lvs cargs : List LV} {L : List (Nat × Nat)} {b0 : Nat} {oc : List (Nat × Ob)}
theorem T_callV {v : Value} (hs : Spec P f cargs b0 oc (.v v) b0 []) (hbody : (P.funcs[f]?).map (fun fn => (fn.name == "runtime.NumGoroutine" || fn.body.isNone)) = some false)
    (ho : o.op = .call { callee := .value fop, args := aa, argTypes := ats }) (hf : st.ev fop = some (.fn f caps)) (has : aa.toList.map st.ev = lvs.map some)
    (hren : LV.rens (sg 0 L) cargs = lvs ++ caps) (he : Embs st.o (sg 0 L) oc) (hok : (LV.okBs (fun c => decide (c < b0)) cargs && embB (sg 0 L) b0 oc && backB oc [] L b0 b0) = true) :
    T P N o b (oc.map fun p => sg 0 L p.1) st (.v v) 0 [] := by
  simp only [Bool.and_eq_true] at hok
  have hz : frzOf true (sg 0 L) st.o oc = [] := by
    have : ∀ l, frzOf true (sg 0 L) st.o l = [] := by
      intro l
      induction l with
      | nil => rfl
      | cons p l ih => simp [frzOf, ih]
    exact this oc
  exact T_call true hs hbody ho hf has hren he (by simp only [Bool.and_eq_true]; exact ⟨⟨⟨hok.1.1, rfl⟩, hok.1.2⟩, hok.2⟩) (.inr (fun p hp => by cases hp)) rfl (by rw [hz]; rfl) (Nat.sub_self _)
theorem T_callR {e sz : Nat} {rows : List (List Cell)} {keep : Bool} (hs : Spec P f cargs b0 oc (.r b0) (b0 + 1) [(b0, .row e sz rows)]) (hbody : (P.funcs[f]?).map (fun fn => (fn.name == "runtime.NumGoroutine" || fn.body.isNone)) = some false)
    (ho : o.op = .call { callee := .value fop, args := aa, argTypes := ats }) (hf : st.ev fop = some (.fn f caps)) (has : aa.toList.map st.ev = lvs.map some)
    (hren : LV.rens (sg 0 L) cargs = lvs ++ caps) (he : Embs st.o (sg 0 L) oc) (hok : (LV.okBs (fun c => decide (c < b0)) cargs && embB (sg 0 L) b0 oc && backB oc [(b0, .row e sz [])] L b0 (b0 + 1)) = true)
    (hfl : keep = false ∨ FlatOb (.row e sz rows)) (hz : frzOf keep (sg 0 L) st.o oc = []) :
    T P N o b (oc.map fun p => sg 0 L p.1) st (.r b) 1 [(b, .row e sz rows)] := by
  simp only [Bool.and_eq_true] at hok
  have h1 : piC (sg 0 L) b0 b b0 = b := by simp [piC]
  exact T_call keep hs hbody ho hf has hren he (by simp only [Bool.and_eq_true]; exact ⟨⟨⟨hok.1.1, by simp [LV.okB]⟩, hok.1.2⟩, by simpa [backB, Ob.okB] using hok.2⟩) (hfl.imp (fun h => h) (fun h p hp => by simp at hp; subst hp; exact h)) (by simp [LV.ren, h1]) (by rw [hz]; simp [h1, Ob.ren]) (by omega)
end
theorem SEmb.same {s : List (Nat × LV)} {σ : Nat → Nat} {p : Nat → Bool} {d : Nat} {lv : LV} {l : List (Nat × LV)} (h : s.lookup d = some (lv.ren σ)) (hp : lv.okB p = true) (t : SEmb s σ p l) : SEmb s σ p ((d, lv) :: l) := .cons h rfl hp t
theorem SEmb.eq {s : List (Nat × LV)} {σ : Nat → Nat} {p : Nat → Bool} {d : Nat} {v v' : Value} {l : List (Nat × LV)} (h : s.lookup d = some (.v v')) (t : SEmb s σ p l) (he : v' = v) : SEmb s σ p ((d, .v v) :: l) := .cons h (by rw [he]; rfl) rfl t
theorem Embs.rowE {o : List (Nat × Ob)} {σ : Nat → Nat} {c e sz : Nat} {rows rows' : List (List Cell)} {l : List (Nat × Ob)} (h : o.lookup (σ c) = some (.row e sz rows')) (t : Embs o σ l) (he : rows' = rows) : Embs o σ ((c, .row e sz rows) :: l) := .row (by rw [h, he]) t
theorem Embs.fzE {o : List (Nat × Ob)} {σ : Nat → Nat} {c sz : Nat} {rows rows' : List (List Cell)} {l : List (Nat × Ob)} (h : o.lookup (σ c) = some (.fz sz rows')) (t : Embs o σ l) (he : rows' = rows) : Embs o σ ((c, .fz sz rows) :: l) := .fz (by rw [h, he]) t
theorem Embs.lendE {o : List (Nat × Ob)} {σ : Nat → Nat} {c e sz : Nat} {rows rows' : List (List Cell)} {l : List (Nat × Ob)} (h : o.lookup (σ c) = some (.row e sz rows')) (t : Embs o σ l) (he : rows' = rows) : Embs o σ ((c, .fz sz rows) :: l) := .lend (by rw [h, he]) t
end Lg
end Go.Proofs.Ytpfhmodjjljpjaa

namespace Go.Proofs.Ytpfhmodjjljpjaa
open Go.RowKit
namespace Lg
set_option linter.unusedSimpArgs false
set_option linter.unusedVariables false
section
variable {P : Program} {N bs j nn i : Nat} {ops : Array Oper} {o : Oper} {s : List (Nat × LV)} {ob : List (Nat × Ob)} {lv : LV} {x : Ob} {pre : List Nat} {upd : List (Nat × Ob)} {C : List Tr → St → Prop}
theorem q0 (d b j' : Nat) (ho : ops[j]? = some o) (h : (o.dst, bs + 16 * j, j + 1, o.guard) = (some d, b, j', none)) (ht : T P N o b pre ⟨s, ob⟩ lv nn []) (hn : decide (nn ≤ 16) = true) (r : RunK P N ops bs j' ⟨(d, lv) :: s, ob⟩ (fun tr => C (⟨true, pre, lv, nn, []⟩ :: tr))) : RunK P N ops bs j ⟨s, ob⟩ C :=
  k_op0 ho (congrArg (·.1) h) (congrArg (·.2.1) h) (congrArg (·.2.2.1) h) (.plain (congrArg (·.2.2.2) h)) ht hn r
theorem q1 (d b j' : Nat) (ho : ops[j]? = some o) (h : (o.dst, bs + 16 * j, j + 1, o.guard) = (some d, b, j', none)) (ht : T P N o b pre ⟨s, ob⟩ lv nn [(i, x)]) (hn : decide (nn ≤ 16) = true) (r : RunK P N ops bs j' ⟨(d, lv) :: s, (i, x) :: ob⟩ (fun tr => C (⟨true, pre, lv, nn, [(i, x)]⟩ :: tr))) : RunK P N ops bs j ⟨s, ob⟩ C :=
  k_op1 ho (congrArg (·.1) h) (congrArg (·.2.1) h) (congrArg (·.2.2.1) h) (.plain (congrArg (·.2.2.2) h)) ht hn r
theorem qn (d b j' : Nat) (ho : ops[j]? = some o) (h : (o.dst, bs + 16 * j, j + 1, o.guard) = (some d, b, j', none)) (ht : T P N o b pre ⟨s, ob⟩ lv nn upd) (hn : decide (nn ≤ 16) = true) (r : RunK P N ops bs j' ⟨(d, lv) :: s, upd ++ ob⟩ (fun tr => C (⟨true, pre, lv, nn, upd⟩ :: tr))) : RunK P N ops bs j ⟨s, ob⟩ C :=
  k_opn ho (congrArg (·.1) h) (congrArg (·.2.1) h) (congrArg (·.2.2.1) h) (.plain (congrArg (·.2.2.2) h)) ht hn r
theorem s0 (b j' : Nat) (ho : ops[j]? = some o) (h : (o.dst, bs + 16 * j, j + 1, o.guard) = (none, b, j', none)) (ht : T P N o b pre ⟨s, ob⟩ lv nn []) (hn : decide (nn ≤ 16) = true) (r : RunK P N ops bs j' ⟨s, ob⟩ (fun tr => C (⟨true, pre, lv, nn, []⟩ :: tr))) : RunK P N ops bs j ⟨s, ob⟩ C :=
  k_st0 ho (congrArg (·.1) h) (congrArg (·.2.1) h) (congrArg (·.2.2.1) h) (.plain (congrArg (·.2.2.2) h)) ht hn r
theorem s1 (b j' : Nat) (ho : ops[j]? = some o) (h : (o.dst, bs + 16 * j, j + 1, o.guard) = (none, b, j', none)) (ht : T P N o b pre ⟨s, ob⟩ lv nn [(i, x)]) (hn : decide (nn ≤ 16) = true) (r : RunK P N ops bs j' ⟨s, (i, x) :: ob⟩ (fun tr => C (⟨true, pre, lv, nn, [(i, x)]⟩ :: tr))) : RunK P N ops bs j ⟨s, ob⟩ C :=
  k_st1 ho (congrArg (·.1) h) (congrArg (·.2.1) h) (congrArg (·.2.2.1) h) (.plain (congrArg (·.2.2.2) h)) ht hn r
theorem sn (b j' : Nat) (ho : ops[j]? = some o) (h : (o.dst, bs + 16 * j, j + 1, o.guard) = (none, b, j', none)) (ht : T P N o b pre ⟨s, ob⟩ lv nn upd) (hn : decide (nn ≤ 16) = true) (r : RunK P N ops bs j' ⟨s, upd ++ ob⟩ (fun tr => C (⟨true, pre, lv, nn, upd⟩ :: tr))) : RunK P N ops bs j ⟨s, ob⟩ C :=
  k_stn ho (congrArg (·.1) h) (congrArg (·.2.1) h) (congrArg (·.2.2.1) h) (.plain (congrArg (·.2.2.2) h)) ht hn r
end
theorem c_eql_t {x y : Int} (h : cmpB .eql x y = true) : x = y := by simpa [cmpB] using h
theorem c_eql_f {x y : Int} (h : cmpB .eql x y = false) : ¬ x = y := by simpa [cmpB] using h
theorem c_neq_t {x y : Int} (h : cmpB .neq x y = true) : ¬ x = y := by simpa [cmpB] using h
theorem c_neq_f {x y : Int} (h : cmpB .neq x y = false) : x = y := by simpa [cmpB] using h
theorem c_lss_t {x y : Int} (h : cmpB .lss x y = true) : x < y := by simpa [cmpB] using h
theorem c_lss_f {x y : Int} (h : cmpB .lss x y = false) : y ≤ x := by simpa [cmpB] using h
theorem c_leq_t {x y : Int} (h : cmpB .leq x y = true) : x ≤ y := by simpa [cmpB] using h
theorem c_leq_f {x y : Int} (h : cmpB .leq x y = false) : y < x := by simpa [cmpB] using h
theorem c_gtr_t {x y : Int} (h : cmpB .gtr x y = true) : x > y := by simpa [cmpB] using h
theorem c_gtr_f {x y : Int} (h : cmpB .gtr x y = false) : x ≤ y := by simpa [cmpB] using h
theorem c_geq_t {x y : Int} (h : cmpB .geq x y = true) : x ≥ y := by simpa [cmpB] using h
theorem c_geq_f {x y : Int} (h : cmpB .geq x y = false) : x < y := by simpa [cmpB] using h
end Lg
end Go.Proofs.Ytpfhmodjjljpjaa

namespace Go.Proofs.Ytpfhmodjjljpjaa
open Go.RowKit
namespace Lg
set_option maxRecDepth 100000
set_option linter.unusedVariables false
set_option linter.unusedSimpArgs false
theorem body90 : (Try.prog.funcs[90]?).map (fun fn => (fn.name == "runtime.NumGoroutine" || fn.body.isNone)) = some false := by kernel_rfl
theorem next_spec (f : GFn) (hf : f.blocks.length ≤ 1000000) : Spec Try.prog 90 [.agg [.v (.int .i64 f.regs), .r 1]] 2 [(1, .fz 5 (f.blocks.map eBlock))] (.r 2) 3 [(2, .row 52 1 ((f.blocks.map follows).map eIs))] := by
 refine spec_of D (fn := Try.f90) rfl rfl (Nat.le_of_ble_eq_true rfl) ?_
 refine W_seq ?_
 refine W_seqK (b' := 34) rfl rfl ?_
 refine q1 1 2 1 rfl rfl (T_box rfl rfl flat_agg) rfl ?_
 refine q1 2 18 2 rfl rfl (T_nils [(52, 1)] (T_assign rfl rfl) rfl (.inr ⟨rfl, rfl⟩) (.cons (.nil rfl) .nil) (lv' := .r 18) (upd' := [(18, .row 52 1 (List.map eIs ([] : List (List Int))))]) (nn' := 1) rfl rfl) rfl ?_
 refine k_done rfl ?_
 refine thenK_n ?_
 refine W_seq ?_
 refine W_seqK (b' := 114) rfl rfl ?_
 refine q0 6 34 1 rfl rfl (T_fa D (m := 1) rfl rfl rfl rfl rfl rfl) rfl ?_
 refine q0 7 50 2 rfl rfl (T_load_b D rfl rfl rfl rfl rfl rfl) rfl ?_
 refine q0 8 66 3 rfl rfl (T_len D rfl rfl rfl rfl rfl rfl) rfl ?_
 refine q1 9 82 4 rfl rfl (T_make D (zx := ([] : List Int)) (enc := eIs) rfl rfl rfl rfl rfl rfl rfl (.z (.nil)) rfl (by (try simp only [ty52]); first | assumption | omega | (simp; omega)) (by (try simp only [ty52]); first | assumption | omega | (simp; omega))) rfl ?_
 refine q0 3 98 5 rfl rfl (T_assign rfl rfl) rfl ?_
 refine k_done rfl ?_
 refine thenK_n ?_
 refine W_seq ?_
 refine W_seq ?_
 refine W_seqK (b' := 178) rfl rfl ?_
 refine q0 10 114 1 rfl rfl (T_fa D (m := 1) rfl rfl rfl rfl rfl rfl) rfl ?_
 refine q0 11 130 2 rfl rfl (T_load_b D rfl rfl rfl rfl rfl rfl) rfl ?_
 refine q0 12 146 3 rfl rfl (T_len D rfl rfl rfl rfl rfl rfl) rfl ?_
 refine q0 13 162 4 rfl rfl (T_move rfl rfl) rfl ?_
 refine k_done rfl ?_
 refine thenK_n ?_
 refine W_block ?_
 refine W_loop (ι := Nat) 3 (fun j => ⟨[(3, .r 2), (11, .r 1), (12, .v (.int .i64 (f.blocks.length : Int))), (13, .v (.int .i64 (j : Int)))], [(1, .fz 5 (f.blocks.map eBlock)), (2, .row 52 1 (((f.blocks.take j).map follows ++ List.replicate (f.blocks.length - j) []).map eIs))]⟩) (fun j => j ≤ f.blocks.length) (fun j => f.blocks.length - j) (0) (by exact Nat.zero_le _) ?_ (fun j hJ => ?_)
 ·exact ⟨[(2, 82)], .same rfl rfl (.same rfl rfl (.eq rfl (.eq rfl (.nil) (by first | rfl | simp)) (by first | rfl | simp))), .fzE rfl (.rowE rfl (.nil) (by first | rfl | simp)) (by first | rfl | simp), rfl⟩
 refine W_seq ?_
 refine W_seqK (b' := 19) rfl rfl ?_
 refine q0 14 3 1 rfl rfl (T_cmp rfl rfl rfl rfl) rfl ?_
 refine k_done rfl ?_
 refine thenK_n ?_
 refine W_seq ?_
 refine W_cond rfl (fun g1 => ?_) (fun g1 => ?_)
 ·have h1 := c_lss_t g1
  refine W_skip ?_
  refine thenK_n ?_
  refine W_seq ?_
  refine W_block ?_
  refine W_seq ?_
  refine W_seqK (b' := 115) rfl rfl ?_
  refine q0 15 19 1 rfl rfl (T_move rfl rfl) rfl ?_
  first | refine q0 16 35 2 rfl rfl (T_indexAddr D rfl rfl rfl rfl rfl rfl rfl rfl (by first | assumption | omega | (simp; omega))) rfl ?_ | refine q0 16 35 2 rfl rfl (T_indexAddrZ D rfl rfl rfl rfl rfl rfl rfl rfl (by first | assumption | omega | (simp; omega)) (by first | assumption | omega | (simp; omega))) rfl ?_
  refine q1 17 51 3 rfl rfl (T_ldEA D (l := [.r 51, .v _, .v _, .v _, .v _]) (nn := 1) (upd := [(51, .fz 8 _)]) rfl rfl rfl rfl rfl (by first | assumption | omega | (simp; omega)) rfl rfl rfl rfl rfl) rfl ?_
  refine qn 5 67 4 rfl rfl (T_nilbox [(70, 8)] (T_alloc D rfl rfl rfl) rfl (.cons (.nil rfl) <| .cons (.same _) <| .cons (.same _) <| .cons (.same _) <| .cons (.same _) <| .nil) (upd' := [(67, .box 72 [.r 68, .v (.int .i64 0), .v (.int .i64 0), .v (.int .i64 0), .v (.int .i64 0)]), (68, .row 70 8 (List.map eTac ([] : List (GTac))))]) (nn' := 2) rfl rfl) rfl ?_
  refine q0 4 83 5 rfl rfl (T_assign rfl rfl) rfl ?_
  refine s1 99 6 rfl rfl (T_stB D (cs' := [_, _, _, _, _]) rfl rfl rfl rfl flat_agg rfl rfl (Nat.le_of_ble_eq_true rfl) rfl) rfl ?_
  refine k_done rfl ?_
  refine thenK_n ?_
  refine W_seq ?_
  refine W_seqK (b' := 147) rfl rfl ?_
  refine q0 18 115 1 rfl rfl (T_fa D (m := 1) rfl rfl rfl rfl rfl rfl) rfl ?_
  refine q0 19 131 2 rfl rfl (T_load_b D rfl rfl rfl rfl rfl rfl) rfl ?_
  refine k_done rfl ?_
  refine thenK_n ?_
  refine W_block ?_
  refine W_seq ?_
  refine W_seqK (b' := 179) rfl rfl ?_
  refine q0 21 147 1 rfl rfl (T_cmp rfl rfl rfl rfl) rfl ?_
  refine q0 20 163 2 rfl rfl (T_assign rfl rfl) rfl ?_
  refine k_done rfl ?_
  refine thenK_n ?_
  refine W_cond rfl (fun g2 => ?_) (fun g2 => ?_)
  ·have h2 := c_eql_t g2
   refine W_seqK (b' := 291) rfl rfl ?_
   refine q0 22 179 1 rfl rfl (T_move rfl rfl) rfl ?_
   refine q0 23 195 2 rfl rfl (T_move rfl rfl) rfl ?_
   refine q0 24 211 3 rfl rfl (T_fa D (m := 3) rfl rfl rfl rfl rfl rfl) rfl ?_
   refine q0 25 227 4 rfl rfl (T_load_b D rfl rfl rfl rfl rfl rfl) rfl ?_
   refine q1 26 243 5 rfl rfl (T_bs D (ys := [_]) (enc := eI) (l := [_]) rfl rfl rfl rfl rfl rfl (.cons rfl (flat_v rfl) (.nil)) rfl rfl rfl rfl (.v rfl (.nil)) rfl rfl) rfl ?_
   first | refine q0 27 259 6 rfl rfl (T_indexAddr D rfl rfl rfl rfl rfl rfl rfl rfl (by first | assumption | omega | (simp; omega))) rfl ?_ | refine q0 27 259 6 rfl rfl (T_indexAddrZ D rfl rfl rfl rfl rfl rfl rfl rfl (by first | assumption | omega | (simp; omega)) (by first | assumption | omega | (simp; omega))) rfl ?_
   refine sn 275 7 rfl rfl (T_store_e D (z := _) rfl rfl rfl rfl (flat_sl rfl) rfl rfl (by first | assumption | omega | (simp; omega)) (.row rfl (.nil) rfl) rfl (Nat.le_of_ble_eq_true rfl) rfl) rfl ?_
   refine k_done rfl ?_
   refine blockK_n ?_
   refine blockK_n ?_
   refine thenK_n ?_
   refine W_seqK (b' := 323) rfl rfl ?_
   refine q0 38 291 1 rfl rfl (T_add64 rfl rfl rfl (by first | assumption | omega | (simp; omega))) rfl ?_
   refine q0 13 307 2 rfl rfl (T_move rfl rfl) rfl ?_
   refine k_done rfl ?_
   refine thenK_n ?_
   refine ⟨j + 1, by (try dsimp only); omega, by (try dsimp only); omega, ?_⟩
   exact ⟨[(2, 2)], .same rfl rfl (.same rfl rfl (.eq rfl (.eq rfl (.nil) (by first | rfl | exact congrArg _ (fill_step follows [] f.blocks j _ rfl (by omega) _ (by simp_all [follows])))) rfl)), .fzE rfl (.rowE rfl (.nil) (by first | rfl | exact congrArg _ (fill_step follows [] f.blocks j _ rfl (by omega) _ (by simp_all [follows])))) rfl, rfl⟩
  ·have h2 := c_eql_f g2
   refine W_seq ?_
   refine W_seqK (b' := 211) rfl rfl ?_
   refine q0 29 179 1 rfl rfl (T_cmp rfl rfl rfl rfl) rfl ?_
   refine q0 28 195 2 rfl rfl (T_assign rfl rfl) rfl ?_
   refine k_done rfl ?_
   refine thenK_n ?_
   refine W_cond rfl (fun g3 => ?_) (fun g3 => ?_)
   ·have h3 := c_eql_t g3
    refine W_seqK (b' := 355) rfl rfl ?_
    refine q0 30 211 1 rfl rfl (T_move rfl rfl) rfl ?_
    refine q0 31 227 2 rfl rfl (T_move rfl rfl) rfl ?_
    refine q0 32 243 3 rfl rfl (T_fa D (m := 3) rfl rfl rfl rfl rfl rfl) rfl ?_
    refine q0 33 259 4 rfl rfl (T_load_b D rfl rfl rfl rfl rfl rfl) rfl ?_
    refine q0 34 275 5 rfl rfl (T_fa D (m := 4) rfl rfl rfl rfl rfl rfl) rfl ?_
    refine q0 35 291 6 rfl rfl (T_load_b D rfl rfl rfl rfl rfl rfl) rfl ?_
    refine q1 36 307 7 rfl rfl (T_bs D (ys := [_, _]) (enc := eI) (l := [_, _]) rfl rfl rfl rfl rfl rfl (.cons rfl (flat_v rfl) (.cons rfl (flat_v rfl) (.nil))) rfl rfl rfl rfl (.v rfl (.v rfl (.nil))) rfl rfl) rfl ?_
    first | refine q0 37 323 8 rfl rfl (T_indexAddr D rfl rfl rfl rfl rfl rfl rfl rfl (by first | assumption | omega | (simp; omega))) rfl ?_ | refine q0 37 323 8 rfl rfl (T_indexAddrZ D rfl rfl rfl rfl rfl rfl rfl rfl (by first | assumption | omega | (simp; omega)) (by first | assumption | omega | (simp; omega))) rfl ?_
    refine sn 339 9 rfl rfl (T_store_e D (z := _) rfl rfl rfl rfl (flat_sl rfl) rfl rfl (by first | assumption | omega | (simp; omega)) (.row rfl (.nil) rfl) rfl (Nat.le_of_ble_eq_true rfl) rfl) rfl ?_
    refine k_done rfl ?_
    refine blockK_n ?_
    refine blockK_n ?_
    refine thenK_n ?_
    refine W_seqK (b' := 387) rfl rfl ?_
    refine q0 38 355 1 rfl rfl (T_add64 rfl rfl rfl (by first | assumption | omega | (simp; omega))) rfl ?_
    refine q0 13 371 2 rfl rfl (T_move rfl rfl) rfl ?_
    refine k_done rfl ?_
    refine thenK_n ?_
    refine ⟨j + 1, by (try dsimp only); omega, by (try dsimp only); omega, ?_⟩
    exact ⟨[(2, 2)], .same rfl rfl (.same rfl rfl (.eq rfl (.eq rfl (.nil) (by first | rfl | exact congrArg _ (fill_step follows [] f.blocks j _ rfl (by omega) _ (by simp_all [follows])))) rfl)), .fzE rfl (.rowE rfl (.nil) (by first | rfl | exact congrArg _ (fill_step follows [] f.blocks j _ rfl (by omega) _ (by simp_all [follows])))) rfl, rfl⟩
   ·have h3 := c_eql_f g3
    refine W_skip ?_
    refine blockK_n ?_
    refine blockK_n ?_
    refine thenK_n ?_
    refine W_seqK (b' := 243) rfl rfl ?_
    refine q0 38 211 1 rfl rfl (T_add64 rfl rfl rfl (by first | assumption | omega | (simp; omega))) rfl ?_
    refine q0 13 227 2 rfl rfl (T_move rfl rfl) rfl ?_
    refine k_done rfl ?_
    refine thenK_n ?_
    refine ⟨j + 1, by (try dsimp only); omega, by (try dsimp only); omega, ?_⟩
    exact ⟨[(2, 2)], .same rfl rfl (.same rfl rfl (.eq rfl (.eq rfl (.nil) (by first | rfl | exact congrArg _ (fill_skip follows [] f.blocks j _ rfl (by omega) (by simp_all [follows])))) rfl)), .fzE rfl (.rowE rfl (.nil) (by first | rfl | exact congrArg _ (fill_skip follows [] f.blocks j _ rfl (by omega) (by simp_all [follows])))) rfl, rfl⟩
 ·have h1 := c_lss_f g1
  refine W_exit ?_
  refine thenK_e ?_
  refine thenK_e ?_
  refine blockK_hit ?_
  refine thenK_n ?_
  refine W_seq ?_
  refine W_seqK (b' := 51) rfl rfl ?_
  refine q0 39 19 1 rfl rfl (T_move rfl rfl) rfl ?_
  refine q0 2 35 2 rfl rfl (T_assign rfl rfl) rfl ?_
  refine k_done rfl ?_
  refine thenK_n ?_
  refine W_ret ?_
  exact .mk [(2, 2)] (.inr rfl) (.tmp rfl (.nil)) rfl (.rowE rfl (.nil) (by first | rfl | (have : j = f.blocks.length := by omega); subst this; simp)) rfl
end Lg
end Go.Proofs.Ytpfhmodjjljpjaa

namespace Go.Proofs.Ytpfhmodjjljpjaa
open Go.RowKit
namespace Lg
set_option linter.unusedSimpArgs false
set_option linter.unusedVariables false
section
variable {P : Program} {d : Nat} {xs ys : Array Value} {f : Field} {fs : List Field} {a b : Value} {r s : Bool} {w : World}
theorem eqf_nil : (Op.eqFields d xs ys []).run P w = .ok true w := by simp [Op.eqFields]
theorem eqf_cons (hn : (f.name == "_") = false) (ha : (part f.type xs f.offset).run P w = .ok a w) (hb : (part f.type ys f.offset).run P w = .ok b w) (he : (Op.equalIn d f.type a b).run P w = .ok r w) (hr : (Op.eqFields d xs ys fs).run P w = .ok s w) : (Op.eqFields d xs ys (f :: fs)).run P w = .ok (r && s) w := by
  have hn' : f.name ≠ "_" := by simpa using hn
  rw [Op.eqFields]
  simp only [if_pos hn', Sem.run_bind, ha, hb, he, Result.andThen_ok]
  cases r
  · simp
  · simpa using hr
theorem eqA_of {t : TypeId} {fs : Array Field} (hu : P.underlying t = some (.struct fs)) (hp : P.stoodInHeld t = false) (h : (Op.eqFields d xs ys fs.toList).run P w = .ok r w) : (Op.equalIn (d + 1) t (.agg xs) (.agg ys)).run P w = .ok r w := by
  have hf : P.fieldsOf t = fs := by simp [Program.fieldsOf, hu]
  rw [run_equalIn_struct (P := P) w d t xs ys (by rw [hf]; exact hu) hp, hf]
  exact h
end
def tacV (t : GTac) : Array Value := #[.int .i64 t.op, .int .i64 t.d, .int .i64 t.a, .int .i64 t.b, .int .i64 t.k, .int .i64 t.base, .int .i64 t.size, .int .u32 t.n]
theorem eqTac_run (d : Nat) (w : World) (x y : GTac) : (Op.equalIn (d + 2) 70 (.agg (tacV x)) (.agg (tacV y))).run Try.prog w = .ok (x.op == y.op && (x.d == y.d && (x.a == y.a && (x.b == y.b && (x.k == y.k && (x.base == y.base && (x.size == y.size && (x.n == y.n && true)))))))) w := by
  unfold tacV
  refine eqA_of Try.underlying70 (by kernel_rfl) ?_
  refine eqf_cons (by rfl) (by go_simp; rfl) (by go_simp; rfl) (by go_simp) ?_
  refine eqf_cons (by rfl) (by go_simp; rfl) (by go_simp; rfl) (by go_simp) ?_
  refine eqf_cons (by rfl) (by go_simp; rfl) (by go_simp; rfl) (by go_simp) ?_
  refine eqf_cons (by rfl) (by go_simp; rfl) (by go_simp; rfl) (by go_simp) ?_
  refine eqf_cons (by rfl) (by go_simp; rfl) (by go_simp; rfl) (by go_simp) ?_
  refine eqf_cons (by rfl) (by go_simp; rfl) (by go_simp; rfl) (by go_simp) ?_
  refine eqf_cons (by rfl) (by go_simp; rfl) (by go_simp; rfl) (by go_simp) ?_
  exact eqf_cons (by rfl) (by go_simp; rfl) (by go_simp; rfl) (by go_simp) eqf_nil
theorem eqTac_b (x y : GTac) : (x.op == y.op && (x.d == y.d && (x.a == y.a && (x.b == y.b && (x.k == y.k && (x.base == y.base && (x.size == y.size && (x.n == y.n && true)))))))) = decide (x = y) := by
  obtain ⟨a, b, c, d, e, f, g, h⟩ := x
  obtain ⟨a', b', c', d', e', f', g', h'⟩ := y
  simp only [GTac.mk.injEq, Bool.and_true]
  by_cases h1 : a = a' <;> by_cases h2 : b = b' <;> by_cases h3 : c = c' <;> by_cases h4 : d = d' <;> by_cases h5 : e = e' <;> by_cases h6 : f = f' <;> by_cases h7 : g = g' <;> by_cases h8 : h = h' <;> simp [h1, h2, h3, h4, h5, h6, h7, h8]
def lvTac (t : GTac) : LV := .agg [.v (.int .i64 t.op), .v (.int .i64 t.d), .v (.int .i64 t.a), .v (.int .i64 t.b), .v (.int .i64 t.k), .v (.int .i64 t.base), .v (.int .i64 t.size), .v (.int .u32 t.n)]
theorem T_pure2 {P : Program} {N b : Nat} {o : Oper} {st : St} {x y : Operand} {op : BinOp} {t t' : TypeId} {lx ly : LV} {v : Value} (ho : o.op = .binOp op t x y t') (hx : st.ev x = some lx) (hy : st.ev y = some ly)
    (h : ∀ (ρ : Nat → Value) w, (do eqGuard op t x y (lx.val ρ) (ly.val ρ); binOp op t (lx.val ρ) (ly.val ρ) : Sem Value).run P w = .ok v w) : T P N o b [] st (.v v) 0 [] :=
  T_pure (fun ρ ev w hev => by
    have h1 := hev x _ (by simp [ho, Op.operands]) hx
    have h2 := hev y _ (by simp [ho, Op.operands]) hy
    have h3 := h ρ w
    simp only [execOp, ho, h1, h2]
    rw [Sem.run_bind, h3]
    rfl) (fun U ρ hU => trivial)
section
variable {N b : Nat} {o : Oper} {st : St}
theorem T_eqTac {x y : Operand} (u v : GTac) {t' : TypeId} (ho : o.op = .binOp .eql 70 x y t') (hx : st.ev x = some (lvTac u)) (hy : st.ev y = some (lvTac v)) : T Try.prog N o b [] st (.v (.bool (decide (u = v)))) 0 [] :=
  T_pure2 ho hx hy (fun ρ w => by
    show (do eqGuard .eql 70 x y (.agg (tacV u)) (.agg (tacV v)); binOp .eql 70 (.agg (tacV u)) (.agg (tacV v)) : Sem Value).run Try.prog w = _
    rw [Sem.run_bind, run_eqGuard_agg _ _ _ _ _ _ _ (by kernel_rfl), Result.andThen_ok, run_eql_struct, eqTac_run, eqTac_b]
    rfl)
theorem T_eqTacN {x y : Operand} (u v : GTac) {t' : TypeId} (ho : o.op = .binOp .neq 70 x y t') (hx : st.ev x = some (lvTac u)) (hy : st.ev y = some (lvTac v)) : T Try.prog N o b [] st (.v (.bool (!decide (u = v)))) 0 [] :=
  T_pure2 ho hx hy (fun ρ w => by
    show (do eqGuard .neq 70 x y (.agg (tacV u)) (.agg (tacV v)); binOp .neq 70 (.agg (tacV u)) (.agg (tacV v)) : Sem Value).run Try.prog w = _
    rw [Sem.run_bind, run_eqGuard_agg _ _ _ _ _ _ _ (by kernel_rfl), Result.andThen_ok, run_neq_struct, eqTac_run, eqTac_b]
    rfl)
theorem T_eqB {x y : Operand} {m n : Bool} {t' : TypeId} (ho : o.op = .binOp .eql 4 x y t') (hx : st.ev x = some (.v (.bool m))) (hy : st.ev y = some (.v (.bool n))) : T Try.prog N o b [] st (.v (.bool (m == n))) 0 [] :=
  T_bin ho hx hy (fun w => by
    have h := run_equalIn_bool' (P := Try.prog) w 9999 4 m n (by kernel_rfl)
    simp [eqGuard, binOp, Op.equal, Op.maxDepth, h, bne])
theorem T_eqBN {x y : Operand} {m n : Bool} {t' : TypeId} (ho : o.op = .binOp .neq 4 x y t') (hx : st.ev x = some (.v (.bool m))) (hy : st.ev y = some (.v (.bool n))) : T Try.prog N o b [] st (.v (.bool (m != n))) 0 [] :=
  T_bin ho hx hy (fun w => by
    have h := run_equalIn_bool' (P := Try.prog) w 9999 4 m n (by kernel_rfl)
    simp [eqGuard, binOp, Op.equal, Op.maxDepth, h, bne])
end
end Lg
end Go.Proofs.Ytpfhmodjjljpjaa

namespace Go.Proofs.Ytpfhmodjjljpjaa
open Go.RowKit
namespace Lg
set_option linter.unusedSimpArgs false
set_option linter.unusedVariables false
theorem ext_getD {α : Type} [Inhabited α] {a b : List α} (hl : a.length = b.length) (h : ∀ i, i < a.length → a.getD i default = b.getD i default) : a = b := by
  refine List.ext_getElem? (fun i => ?_)
  by_cases hi : i < a.length
  · have := h i hi
    simp only [List.getD_eq_getElem?_getD, List.getElem?_eq_getElem hi, List.getElem?_eq_getElem (show i < b.length by omega), Option.getD_some] at this
    rw [List.getElem?_eq_getElem hi, List.getElem?_eq_getElem (show i < b.length by omega), this]
  · rw [List.getElem?_eq_none (by omega), List.getElem?_eq_none (by omega)]
theorem ne_of_getD {α : Type} [Inhabited α] {a b : List α} {i : Nat} (h : ¬ a.getD i default = b.getD i default) : ¬ a = b := fun e => h (by rw [e])
theorem ne_of_len {α : Type} {a b : List α} (h : ¬ (a.length : Int) = (b.length : Int)) : ¬ a = b := fun e => h (by rw [e])
theorem getD_mem {α : Type} [Inhabited α] {a : List α} {i : Nat} (h : i < a.length) : a.getD i default ∈ a := by
  rw [List.getD_eq_getElem?_getD, List.getElem?_eq_getElem h]
  exact List.getElem_mem h
theorem all_iff_getD {α : Type} [Inhabited α] {a : List α} {p : α → Bool} : a.all p = true ↔ ∀ i, i < a.length → p (a.getD i default) = true := by
  rw [List.all_eq_true]
  constructor
  · exact fun h i hi => h _ (getD_mem hi)
  · intro h x hx
    obtain ⟨i, hi, rfl⟩ := List.mem_iff_getElem.1 hx
    have := h i hi
    simpa [List.getD_eq_getElem?_getD, List.getElem?_eq_getElem hi] using this
theorem take_succ_getD {α : Type} [Inhabited α] {a : List α} {i : Nat} (h : i < a.length) : a.take (i + 1) = a.take i ++ [a.getD i default] := by
  rw [List.take_add_one, List.getD_eq_getElem?_getD, List.getElem?_eq_getElem h]
  rfl
def leads (ps : List (List Int)) (n old : Int) : Bool := decide (0 ≤ n) && decide (n < ps.length) && ((ps.getD n.toNat default).getD 0 default == old)
def sumLen {α : Type} (l : List (List α)) : Nat := (l.map List.length).sum
theorem sumLen_take {α : Type} (l : List (List α)) (j : Nat) (h : j < l.length) : sumLen (l.take (j + 1)) = sumLen (l.take j) + (l.getD j default).length := by
  rw [take_succ_getD h]
  simp [sumLen]
theorem sumLen_take_le {α : Type} (l : List (List α)) (j : Nat) : sumLen (l.take j) ≤ sumLen l := by
  have h := congrArg sumLen (List.take_append_drop j l)
  have h2 : sumLen (l.take j ++ l.drop j) = sumLen (l.take j) + sumLen (l.drop j) := by simp only [sumLen, List.map_append, List.sum_append]
  omega
def insOf (f : GFn) : List (List GTac) := f.blocks.map (·.ins)
def few (f : GFn) (blocks most : Int) : Bool := decide ((f.blocks.length : Int) ≤ blocks) && decide ((sumLen (insOf f) : Int) ≤ most)
def outside (f : GFn) (k : Int) : Bool := decide (k < 0) || decide (k ≥ (f.blocks.length : Int))
def fstIdx {α : Type} (q : α → Bool) (p : List α) : Int := match p.findIdx? q with | some i => (i : Int) | none => -1
theorem fstIdx_hit {α : Type} [Inhabited α] (q : α → Bool) (p : List α) {j : Nat} (hj : j < p.length) (h : q (p.getD j default) = true) (hb : ∀ i, i < j → q (p.getD i default) = false) : fstIdx q p = (j : Int) := by
  have : p.findIdx? q = some j := by
    rw [List.findIdx?_eq_some_iff_getElem]
    refine ⟨hj, by simpa [List.getD_eq_getElem?_getD, List.getElem?_eq_getElem hj] using h, fun i hi => ?_⟩
    have := hb i hi
    simpa [List.getD_eq_getElem?_getD, List.getElem?_eq_getElem (show i < p.length by omega)] using this
  simp [fstIdx, this]
theorem fstIdx_none {α : Type} [Inhabited α] (q : α → Bool) (p : List α) (hb : ∀ i, i < p.length → q (p.getD i default) = false) : fstIdx q p = -1 := by
  have : p.findIdx? q = none := by
    rw [List.findIdx?_eq_none_iff]
    intro x hx
    obtain ⟨i, hi, rfl⟩ := List.mem_iff_getElem.1 hx
    have := hb i hi
    simpa [List.getD_eq_getElem?_getD, List.getElem?_eq_getElem hi] using this
  simp [fstIdx, this]
theorem fstIdx_any {α : Type} (q : α → Bool) (p : List α) : decide (fstIdx q p ≥ 0) = p.any q := by
  unfold fstIdx
  cases h : p.findIdx? q with
  | none =>
    rw [List.findIdx?_eq_none_iff] at h
    have : p.any q = false := by rw [List.any_eq_false]; exact fun x hx => by simp [h x hx]
    rw [this]; rfl
  | some i =>
    obtain ⟨hi, h1, _⟩ := List.findIdx?_eq_some_iff_getElem.1 h
    have : p.any q = true := List.any_eq_true.2 ⟨_, List.getElem_mem hi, h1⟩
    rw [this]; simp
def instrs (f : GFn) (p : List Int) : List GTac := (p.map fun k => (f.blocks.getD k.toNat default).ins).flatten
theorem instrs_take (f : GFn) (p : List Int) (j : Nat) (h : j < p.length) : instrs f (p.take (j + 1)) = instrs f (p.take j) ++ (f.blocks.getD (p.getD j default).toNat default).ins := by
  rw [take_succ_getD h]
  simp [instrs]
theorem range_all_true {n : Nat} {q : Nat → Bool} (h : ∀ i, i < n → q i = true) : (List.range n).all q = true := List.all_eq_true.2 (fun i hi => h i (by simpa using hi))
theorem range_all_false {n : Nat} {q : Nat → Bool} {i : Nat} (hi : i < n) (h : q i = false) : (List.range n).all q = false := by
  rw [List.all_eq_false]
  exact ⟨i, by simpa using hi, by simp [h]⟩
def blk (f : GFn) (k : Int) : GBlock := f.blocks.getD k.toNat default
def link (f : GFn) (p : List Int) (i : Nat) : Bool := (blk f (p.getD i default)).fin == 1 && (blk f (p.getD i default)).to == p.getD (i + 1) default
def chainB (f : GFn) (p : List Int) : Bool := (List.range (p.length - 1)).all (link f p)
def lastOf (p : List Int) : Int := p.getD ((p.length : Int) - 1).toNat default
def made (f : GFn) (b : GBlock) (p : List Int) (ps : List (List Int)) : Bool :=
  chainB f p && decide (b.ins = instrs f p) && b.fin == (blk f (lastOf p)).fin && b.v == (blk f (lastOf p)).v &&
  (if (blk f (lastOf p)).fin = 1 then leads ps b.to (blk f (lastOf p)).to && b.els == (blk f (lastOf p)).els
   else if (blk f (lastOf p)).fin = 2 then leads ps b.to (blk f (lastOf p)).to && leads ps b.els (blk f (lastOf p)).els
   else b.to == (blk f (lastOf p)).to && b.els == (blk f (lastOf p)).els)
theorem chain_t {f : GFn} {p : List Int} {j : Nat} (h : ∀ i, i < j → link f p i = true) (hj : p.length - 1 ≤ j) : chainB f p = true := range_all_true (fun i hi => h i (by omega))
theorem made_f {f : GFn} {b : GBlock} {p : List Int} {ps : List (List Int)} {i : Nat} (hi : i < p.length - 1) (h : link f p i = false) : made f b p ps = false := by
  have : chainB f p = false := range_all_false hi h
  simp [made, this]
def okPath (f : GFn) (p : List Int) : Bool := !decide (p.length = 0) && !p.any (outside f)
theorem okPath_t {f : GFn} {p : List Int} (h1 : 1 ≤ p.length) (h2 : p.any (outside f) = false) : okPath f p = true := by simp only [okPath, h2, decide_eq_false (show ¬ p.length = 0 by omega)]; rfl
theorem okPath_len {f : GFn} {p : List Int} (h : okPath f p = true) : 1 ≤ p.length := by
  simp only [okPath, Bool.and_eq_true, Bool.not_eq_true', decide_eq_false_iff_not] at h; omega
theorem okPath_in {f : GFn} {p : List Int} (h : okPath f p = true) (i : Nat) (hi : i < p.length) : 0 ≤ p.getD i default ∧ p.getD i default < (f.blocks.length : Int) := by
  simp only [okPath, Bool.and_eq_true, Bool.not_eq_true', List.any_eq_false] at h
  have := h.2 _ (getD_mem hi)
  simp only [outside, Bool.or_eq_true, decide_eq_true_eq, not_or] at this
  omega
theorem all_false_at {α : Type} [Inhabited α] {q : α → Bool} {l : List α} {i : Nat} (hi : i < l.length) (h : q (l.getD i default) = false) : l.all q = false := by
  rw [List.all_eq_false]
  exact ⟨_, getD_mem hi, by rw [h]; exact Bool.false_ne_true⟩
def tcheck (old new : GFn) (ps : List (List Int)) : Bool :=
  if ¬ (ps.length : Int) = (new.blocks.length : Int) ∨ (ps.length : Int) = 0 ∨ ¬ old.regs = new.regs then false
  else if ps.all (okPath old) = false then false
  else if ¬ (ps.getD 0 default).getD 0 default = 0 then false
  else (List.range ps.length).all fun i => made old (new.blocks.getD i default) (ps.getD i default) ps
end Lg
end Go.Proofs.Ytpfhmodjjljpjaa

namespace Go.Proofs.Ytpfhmodjjljpjaa
open Go.RowKit
namespace Lg
set_option linter.unusedSimpArgs false
set_option linter.unusedVariables false
def sub {α : Type} (xs : List α) (l h : Nat) : List α := (xs.drop l).take (h - l)
theorem sub_map {α β : Type} (f : α → β) (xs : List α) (l h : Nat) : sub (xs.map f) l h = (sub xs l h).map f := by simp [sub, List.map_take, List.map_drop]
theorem sub_at {α : Type} {xs : List α} {l h i : Nat} {x : α} (hx : (sub xs l h)[i]? = some x) : xs[l + i]? = some x := by
  unfold sub at hx
  rw [List.getElem?_take] at hx
  split at hx
  · rwa [List.getElem?_drop] at hx
  · cases hx
theorem sub_length {α : Type} {xs : List α} {l h : Nat} (h1 : l ≤ h) (h2 : h ≤ xs.length) : (sub xs l h).length = h - l := by
  simp [sub]; omega
theorem rd_cap {w : World} {ok : Nat → Prop} {sz : Nat} {rows : List (List Cell)} {A : Option Addr} {n c : Nat} (hr : Rd w ok (.sl sz rows) (.slice A n c)) : n ≤ c := by
  cases hr with
  | sl _ _ _ _ u hc hm hz hn hA hR => exact hc
theorem Rd.subs {w : World} {ok : Nat → Prop} {sz : Nat} {rows : List (List Cell)} {A : Option Addr} {n c : Nat} (hr : Rd w ok (.sl sz rows) (.slice A n c)) {l h m : Nat} (h1 : l ≤ h) (h2 : h ≤ n) (h3 : h ≤ m) :
    Rd w ok (.sl sz (sub rows l h)) (.slice (if m = l then A else A.map (·.add (l * sz))) (h - l) (m - l)) := by
  cases hr with
  | sl _ _ _ _ u hc hm hz hn hA hR =>
    have hlen := sub_length (xs := rows) h1 h2
    have hlen2 : (sub rows l h).length = h - l := hlen
    have hA' : ∀ (i : Nat) (r : List Cell), (sub rows l h)[i]? = some r → ¬ m = l ∧ ∃ a, A = some a := fun i r hi => by
      have h5 : i < h - l := by rw [← hlen2]; exact (List.getElem?_eq_some_iff.1 hi).1
      refine ⟨by omega, hn (fun e => ?_)⟩
      subst e
      simp at h2; omega
    rw [show h - l = (sub rows l h).length from hlen2.symm]
    refine .sl sz _ _ (m - l) (fun i j => u (l + i) j) (by omega) (by omega) (fun r hr => ?_) (fun hne => ?_) (fun i r j cl hi hj => ?_) (fun i r j cl hi hj => ?_)
    · exact hz r (List.mem_of_mem_drop (List.mem_of_mem_take hr))
    · obtain ⟨r, hr⟩ := List.exists_mem_of_ne_nil _ hne
      obtain ⟨i, hi⟩ := List.getElem?_of_mem hr
      obtain ⟨h5, a, rfl⟩ := hA' i r hi
      exact ⟨a.add (l * sz), by simp [h5]⟩
    · obtain ⟨h5, _⟩ := hA' i r hi
      obtain ⟨a, rfl, hok, hcell⟩ := hA (l + i) r j cl (sub_at hi) hj
      refine ⟨a.add (l * sz), by simp [h5], by rw [add_block]; exact hok, ?_⟩
      rw [add_add, show l * sz + (i * sz + j) = (l + i) * sz + j by rw [Nat.add_mul]; omega]
      exact hcell
    · exact hR (l + i) r j cl (sub_at hi) hj
section
variable {P : Program} {N b : Nat} {o : Oper} {st : St} (D : Tab P)
def SlB (P : Program) (n l h : Nat) (lo hi mx : Option Value) : Prop := ∀ (c : Nat) (w : World), n ≤ c → ∃ m, (Instr.sliceBounds true n c lo hi mx).run P w = .ok (l, h, m) w ∧ h ≤ m ∧ m ≤ c
theorem slb_l {n l : Nat} (h : l ≤ n) : SlB P n l n (some (.int .i64 (l : Int))) none none := fun c w hc =>
  ⟨c, by
    have := run_sliceBound (P := P) (w := w) .i64 (l : Int) n .sliceB (by omega) (by omega)
    simp [Instr.sliceBounds, this], by omega, Nat.le_refl _⟩
theorem slb_h {n h : Nat} (hh : h ≤ n) : SlB P n 0 h none (some (.int .i64 (h : Int))) none := fun c w hc =>
  ⟨c, by
    have := run_sliceBound (P := P) (w := w) .i64 (h : Int) c .sliceAcap (by omega) (by omega)
    simp [Instr.sliceBounds, this], by omega, Nat.le_refl _⟩
theorem slb_lh {n l h : Nat} (h1 : l ≤ h) (hh : h ≤ n) : SlB P n l h (some (.int .i64 (l : Int))) (some (.int .i64 (h : Int))) none := fun c w hc =>
  ⟨c, by
    have h2 := run_sliceBound (P := P) (w := w) .i64 (h : Int) c .sliceAcap (by omega) (by omega)
    have h3 := run_sliceBound (P := P) (w := w) .i64 (l : Int) h .sliceB (by omega) (by omega)
    simp [Instr.sliceBounds, h2, h3], by omega, Nat.le_refl _⟩
theorem slb_hm {n h m : Nat} (hh : h ≤ m) (hm : m ≤ n) : SlB P n 0 h none (some (.int .i64 (h : Int))) (some (.int .i64 (m : Int))) := fun c w hc =>
  ⟨m, by
    have h2 := run_sliceBound (P := P) (w := w) .i64 (m : Int) c .slice3Acap (by omega) (by omega)
    have h3 := run_sliceBound (P := P) (w := w) .i64 (h : Int) m .slice3B (by omega) (by omega)
    simp [Instr.sliceBounds, h2, h3], hh, by omega⟩
theorem run_sl {t : Nat} {ty ety : TyI} (hg : Good P t ty) (he0 : ty.elem ≠ 0) (he : Good P ty.elem ety) {A : Option Addr} {n c l h m : Nat} {lo hi mx : Option Value} {w : World} (hb : (Instr.sliceBounds true n c lo hi mx).run P w = .ok (l, h, m) w) :
    (Instr.sliceAt t (.slice A n c) lo hi mx).run P w = .ok (.slice (if m = l then A else A.map (·.add (l * ety.size))) (h - l) (m - l)) w := by
  have hu := hg.sl he0
  simp only [Instr.sliceAt, Sem.run_bind, run_underlying hu, Result.andThen_ok, Instr.slice, hb, he.sizeOf w, Sem.run_pure]
theorem run_slice_op {t : Nat} {x : Operand} {lo hi mx : Option Operand} {ev : Operand → Value} {w : World} {v : Value} (ho : o.op = .slice t x lo hi mx) (h : (Instr.sliceAt t (ev x) (lo.map ev) (hi.map ev) (mx.map ev)).run P w = .ok v w) : (execOp ev o).run P w = .ok (.value v) w := by
  simp only [execOp, ho]
  rw [Sem.run_bind, h]
  rfl
def oev (st : St) : Option Operand → Option (Option LV)
  | none => some none
  | some y => (st.ev y).map some
theorem opt_eval {N : Nat} {U : Nat → Prop} {ρ : Nat → Value} {st st' : St} {a : Act} (fr : FR N U ρ st'.s a) {x : Option Operand} {v : Option Value} (hx : ∀ y, x = some y → st'.ev y = st.ev y) (h : oev st x = some (v.map LV.v)) : x.map a.eval = v := by
  cases x with
  | none => cases v with
    | none => rfl
    | some v => simp [oev] at h
  | some y =>
    cases v with
    | none => simp [oev] at h
    | some v =>
      simp only [oev, Option.map_some, Option.map_eq_some_iff] at h
      obtain ⟨lv, h1, h2⟩ := h
      cases h2
      have := (fr.eval ((hx y rfl).trans h1)).1
      simp [this, LV.val]
theorem T_slF {α : Type} {enc : α → List Cell} {xs : List α} {t i sz l h : Nat} {x : Operand} {lo hi mx : Option Operand} {vl vh vm : Option Value} {ty ety : TyI} (ho : o.op = .slice t x lo hi mx) (hx : st.ev x = some (.r i)) (hob : st.o.lookup i = some (.fz sz (xs.map enc))) (hlo : oev st lo = some (vl.map .v)) (hhi : oev st hi = some (vh.map .v)) (hmx : oev st mx = some (vm.map .v))
    (hi' : D.get t = some ty) (he0 : (ty.elem == 0) = false) (he : D.get ty.elem = some ety) (hs : ety.size = sz) (h1 : l ≤ h) (h2 : h ≤ xs.length) (hb : SlB P xs.length l h vl vh vm) :
    T P N o b [i] st (.r b) 1 [(b, .fz sz ((sub xs l h).map enc))] := by
  intro w0 M U ρ own st' a w hev hp hfrs fr hr
  obtain ⟨hv, hu⟩ := fr.eval ((hev x (by simp [ho, Op.operands])).trans hx)
  have e1 := opt_eval (st := st) fr (x := lo) (fun y hy => hev y (by simp [ho, Op.operands, hy])) hlo
  have e2 := opt_eval (st := st) fr (x := hi) (fun y hy => hev y (by simp [ho, Op.operands, hy])) hhi
  have e3 := opt_eval (st := st) fr (x := mx) (fun y hy => hev y (by simp [ho, Op.operands, hy])) hmx
  obtain ⟨g1, g2, g3⟩ := hr.ob i _ ((hp i (by simp)).trans hob)
  obtain ⟨A, c, hA⟩ := fz_slice g1
  have g1' : Rd w (fun k => own k = none) (.sl sz (xs.map enc)) (ρ i) := g1
  rw [hA] at g1'
  have hlen : (xs.map enc).length = xs.length := by simp
  have hcap : xs.length ≤ c := by
    rw [← hlen]; exact rd_cap g1'
  obtain ⟨m, hm, hm1, hm2⟩ := hb c w hcap
  have hrun := run_slice_op (P := P) (ev := a.eval) (w := w) ho (v := .slice (if m = l then A else A.map (·.add (l * ety.size))) (h - l) (m - l)) (by
    rw [e1, e2, e3, hv]
    simp only [LV.val, hA, hlen]
    exact run_sl (D.ok t ty hi') (by simpa using he0) (D.ok _ ety he) hm)
  have hnew : Rd w (fun k => own k = none) (.sl sz ((sub xs l h).map enc)) (.slice (if m = l then A else A.map (·.add (l * ety.size))) (h - l) (m - l)) := by
    rw [hs, ← sub_map]
    exact g1'.subs h1 (by omega) hm1
  have hb' : ¬ U b := hfrs b (Nat.le_refl _) (by omega)
  exact does_value hrun ⟨upd1 ρ b _, own, by simp [LV.val, upd1_same], fun i hi => upd1_other _ _ (fun e => hb' (e ▸ hi)), .inr ⟨Nat.le_refl _, by omega⟩, hr.addFz b hb' hnew⟩
theorem T_slR {α : Type} {enc : α → List Cell} {xs : List α} {t i e sz l h : Nat} {x : Operand} {lo hi mx : Option Operand} {vl vh vm : Option Value} {ty ety : TyI} (ho : o.op = .slice t x lo hi mx) (hx : st.ev x = some (.r i)) (hob : st.o.lookup i = some (.row e sz (xs.map enc))) (hlo : oev st lo = some (vl.map .v)) (hhi : oev st hi = some (vh.map .v)) (hmx : oev st mx = some (vm.map .v))
    (hi' : D.get t = some ty) (he0 : (ty.elem == 0) = false) (he : D.get ty.elem = some ety) (hs : ety.size = sz) (h1 : l ≤ h) (h2 : h ≤ xs.length) (hb : SlB P xs.length l h vl vh vm) :
    T P N o b [i] st (.r b) 1 [(b, .fz sz ((sub xs l h).map enc)), (i, .fz sz (xs.map enc))] := by
  intro w0 M U ρ own st' a w hev hp hfrs fr hr
  obtain ⟨hv, hu⟩ := fr.eval ((hev x (by simp [ho, Op.operands])).trans hx)
  have e1 := opt_eval (st := st) fr (x := lo) (fun y hy => hev y (by simp [ho, Op.operands, hy])) hlo
  have e2 := opt_eval (st := st) fr (x := hi) (fun y hy => hev y (by simp [ho, Op.operands, hy])) hhi
  have e3 := opt_eval (st := st) fr (x := mx) (fun y hy => hev y (by simp [ho, Op.operands, hy])) hmx
  have hfz := hr.freeze ((hp i (by simp)).trans hob)
  obtain ⟨g1, g2, g3⟩ := hfz.ob i (.fz sz (xs.map enc)) (by simp)
  obtain ⟨A, c, hA⟩ := fz_slice g1
  have g1' : Rd w (fun k => thaw own i k = none) (.sl sz (xs.map enc)) (ρ i) := g1
  rw [hA] at g1'
  have hlen : (xs.map enc).length = xs.length := by simp
  have hcap : xs.length ≤ c := by
    rw [← hlen]; exact rd_cap g1'
  obtain ⟨m, hm, hm1, hm2⟩ := hb c w hcap
  have hrun := run_slice_op (P := P) (ev := a.eval) (w := w) ho (v := .slice (if m = l then A else A.map (·.add (l * ety.size))) (h - l) (m - l)) (by
    rw [e1, e2, e3, hv]
    simp only [LV.val, hA, hlen]
    exact run_sl (D.ok t ty hi') (by simpa using he0) (D.ok _ ety he) hm)
  have hnew : Rd w (fun k => thaw own i k = none) (.sl sz ((sub xs l h).map enc)) (.slice (if m = l then A else A.map (·.add (l * ety.size))) (h - l) (m - l)) := by
    rw [hs, ← sub_map]
    exact g1'.subs h1 (by omega) hm1
  have hb' : ¬ U b := hfrs b (Nat.le_refl _) (by omega)
  exact does_value hrun ⟨upd1 ρ b _, thaw own i, by simp [LV.val, upd1_same], fun i hi => upd1_other _ _ (fun e => hb' (e ▸ hi)), .inr ⟨Nat.le_refl _, by omega⟩, hfz.addFz b hb' hnew⟩
end
theorem sub_getD {α : Type} [Inhabited α] {xs : List α} {l h i : Nat} (hi : i < (sub xs l h).length) : (sub xs l h).getD i default = xs.getD (l + i) default := by
  have h1 := sub_at (xs := xs) (l := l) (h := h) (i := i) (List.getElem?_eq_getElem hi)
  rw [List.getD_eq_getElem?_getD, List.getD_eq_getElem?_getD, List.getElem?_eq_getElem hi, h1]
theorem sub1_length {α : Type} {xs : List α} (h : 1 ≤ xs.length) : (sub xs 1 xs.length).length = xs.length - 1 := sub_length h (Nat.le_refl _)
end Lg
end Go.Proofs.Ytpfhmodjjljpjaa

namespace Go.Proofs.Ytpfhmodjjljpjaa
open Go.RowKit
namespace Lg
set_option maxRecDepth 100000
set_option linter.unusedVariables false
set_option linter.unusedSimpArgs false
theorem body39 : (Try.prog.funcs[39]?).map (fun fn => (fn.name == "runtime.NumGoroutine" || fn.body.isNone)) = some false := by kernel_rfl
theorem list_spec (a b : List Int) (ha : a.length ≤ 1000000) : Spec Try.prog 39 [.r 1, .r 2] 3 [(1, .fz 1 (a.map eI)), (2, .fz 1 (b.map eI))] (.v (.bool (decide (a = b)))) 3 [] := by
 refine spec_of D (fn := Try.f39) rfl rfl (Nat.le_of_ble_eq_true rfl) ?_
 refine W_seq ?_
 refine W_seqK (b' := 19) rfl rfl ?_
 refine q0 4 3 1 rfl rfl (T_assign rfl rfl) rfl ?_
 refine k_done rfl ?_
 refine thenK_n ?_
 refine W_seq ?_
 refine W_seq ?_
 refine W_seqK (b' := 99) rfl rfl ?_
 refine q0 6 19 1 rfl rfl (T_move rfl rfl) rfl ?_
 refine q0 7 35 2 rfl rfl (T_len D rfl rfl rfl rfl rfl rfl) rfl ?_
 refine q0 8 51 3 rfl rfl (T_move rfl rfl) rfl ?_
 refine q0 9 67 4 rfl rfl (T_len D rfl rfl rfl rfl rfl rfl) rfl ?_
 refine q0 10 83 5 rfl rfl (T_cmp rfl rfl rfl rfl) rfl ?_
 refine k_done rfl ?_
 refine thenK_n ?_
 refine W_cond rfl (fun g1 => ?_) (fun g1 => ?_)
 ·have h1 := c_neq_t g1
  refine W_seq ?_
  refine W_seqK (b' := 115) rfl rfl ?_
  refine q0 4 99 1 rfl rfl (T_assign rfl rfl) rfl ?_
  refine k_done rfl ?_
  refine thenK_n ?_
  refine W_ret ?_
  refine thenK_r ?_
  exact .mk [] (.inr rfl) (.tmp rfl (.nil)) (by simp only [Value.bool.injEq, LV.v.injEq, resLV, LV.ren]; exact (decide_eq_false (ne_of_len h1)).symm) (.nil) rfl
 ·have h1 := c_neq_f g1
  refine W_skip ?_
  refine thenK_n ?_
  refine W_seq ?_
  refine W_seq ?_
  refine W_seqK (b' := 115) rfl rfl ?_
  refine q0 5 99 1 rfl rfl (T_assign rfl rfl) rfl ?_
  refine k_done rfl ?_
  refine thenK_n ?_
  refine W_block ?_
  refine W_loop (ι := Nat) 3 (fun j => ⟨[(0, .r 1), (1, .r 2), (5, .v (.int .i64 (j : Int)))], [(1, .fz 1 (a.map eI)), (2, .fz 1 (b.map eI))]⟩) (fun j => j ≤ a.length ∧ ∀ i, i < j → a.getD i default = b.getD i default) (fun j => a.length - j) (0) (by exact ⟨Nat.zero_le _, fun i h => absurd h (Nat.not_lt_zero _)⟩) ?_ (fun j hJ => ?_)
  ·exact ⟨[], .same rfl rfl (.same rfl rfl (.eq rfl (.nil) (by first | rfl | simp))), .fzE rfl (.fzE rfl (.nil) (by first | rfl | simp)) (by first | rfl | simp), rfl⟩
  refine W_seq ?_
  refine W_seq ?_
  refine W_seqK (b' := 67) rfl rfl ?_
  refine q0 11 3 1 rfl rfl (T_move rfl rfl) rfl ?_
  refine q0 12 19 2 rfl rfl (T_move rfl rfl) rfl ?_
  refine q0 13 35 3 rfl rfl (T_len D rfl rfl rfl rfl rfl rfl) rfl ?_
  refine q0 14 51 4 rfl rfl (T_cmp rfl rfl rfl rfl) rfl ?_
  refine k_done rfl ?_
  refine thenK_n ?_
  refine W_cond rfl (fun g2 => ?_) (fun g2 => ?_)
  ·have h2 := c_lss_t g2
   refine W_skip ?_
   refine thenK_n ?_
   refine W_seq ?_
   refine W_block ?_
   refine W_seq ?_
   refine W_anyK (b' := 211) rfl rfl rfl ?_
   refine q0 17 67 1 rfl rfl (T_move rfl rfl) rfl ?_
   refine q0 18 83 2 rfl rfl (T_move rfl rfl) rfl ?_
   first | refine q0 19 99 3 rfl rfl (T_indexAddr D rfl rfl rfl rfl rfl rfl rfl rfl (by first | assumption | omega | (simp; omega))) rfl ?_ | refine q0 19 99 3 rfl rfl (T_indexAddrZ D rfl rfl rfl rfl rfl rfl rfl rfl (by first | assumption | omega | (simp; omega)) (by first | assumption | omega | (simp; omega))) rfl ?_
   refine q0 20 115 4 rfl rfl (T_ldE D (lv := .v _) (nn := 0) (upd := []) rfl rfl rfl rfl rfl (by first | assumption | omega | (simp; omega)) rfl rfl rfl rfl) rfl ?_
   refine q0 21 131 5 rfl rfl (T_move rfl rfl) rfl ?_
   refine q0 22 147 6 rfl rfl (T_move rfl rfl) rfl ?_
   first | refine q0 23 163 7 rfl rfl (T_indexAddr D rfl rfl rfl rfl rfl rfl rfl rfl (by first | assumption | omega | (simp; omega))) rfl ?_ | refine q0 23 163 7 rfl rfl (T_indexAddrZ D rfl rfl rfl rfl rfl rfl rfl rfl (by first | assumption | omega | (simp; omega)) (by first | assumption | omega | (simp; omega))) rfl ?_
   refine q0 24 179 8 rfl rfl (T_ldE D (lv := .v _) (nn := 0) (upd := []) rfl rfl rfl rfl rfl (by first | assumption | omega | (simp; omega)) rfl rfl rfl rfl) rfl ?_
   refine q0 25 195 9 rfl rfl (T_cmp rfl rfl rfl rfl) rfl ?_
   refine k_done rfl ?_
   refine ⟨rfl, ?_⟩
   refine thenK_n ?_
   refine W_cond rfl (fun g3 => ?_) (fun g3 => ?_)
   ·have h3 := c_neq_t g3
    refine W_seq ?_
    refine W_seqK (b' := 227) rfl rfl ?_
    refine q0 4 211 1 rfl rfl (T_assign rfl rfl) rfl ?_
    refine k_done rfl ?_
    refine thenK_n ?_
    refine W_ret ?_
    refine blockK_r ?_
    refine thenK_r ?_
    refine thenK_r ?_
    refine blockK_r ?_
    refine thenK_r ?_
    exact .mk [] (.inr rfl) (.tmp rfl (.nil)) (by simp only [Value.bool.injEq, LV.v.injEq, resLV, LV.ren]; exact (decide_eq_false (ne_of_getD h3)).symm) (.nil) rfl
   ·have h3 := c_neq_f g3
    refine W_skip ?_
    refine blockK_n ?_
    refine thenK_n ?_
    refine W_seqK (b' := 259) rfl rfl ?_
    refine q0 15 211 1 rfl rfl (T_move rfl rfl) rfl ?_
    refine q0 16 227 2 rfl rfl (T_add64 rfl rfl rfl (by first | assumption | omega | (simp; omega))) rfl ?_
    refine q0 5 243 3 rfl rfl (T_assign rfl rfl) rfl ?_
    refine k_done rfl ?_
    refine thenK_n ?_
    refine ⟨j + 1, by (try dsimp only); exact ⟨by omega, fun i hi => by rcases Nat.lt_or_ge i j with h | h; exact hJ.2 i h; rw [show i = j by omega]; assumption⟩, by (try dsimp only); omega, ?_⟩
    exact ⟨[], .same rfl rfl (.same rfl rfl (.eq rfl (.nil) (by first | rfl | simp))), .fzE rfl (.fzE rfl (.nil) rfl) rfl, rfl⟩
  ·have h2 := c_lss_f g2
   refine W_exit ?_
   refine thenK_e ?_
   refine thenK_e ?_
   refine blockK_hit ?_
   refine thenK_n ?_
   refine W_seq ?_
   refine W_seqK (b' := 83) rfl rfl ?_
   refine q0 4 67 1 rfl rfl (T_assign rfl rfl) rfl ?_
   refine k_done rfl ?_
   refine thenK_n ?_
   refine W_ret ?_
   exact .mk [] (.inr rfl) (.tmp rfl (.nil)) (by simp only [Value.bool.injEq, LV.v.injEq, resLV, LV.ren]; exact (decide_eq_true (ext_getD (by omega) (fun i hi => hJ.2 i (by omega)))).symm) (.nil) rfl
theorem body118 : (Try.prog.funcs[118]?).map (fun fn => (fn.name == "runtime.NumGoroutine" || fn.body.isNone)) = some false := by kernel_rfl
theorem leads_spec (ps : List (List Int)) (n old : Int) (hn : 0 ≤ n → n < ps.length → 0 < (ps.getD n.toNat default).length) : Spec Try.prog 118 [.r 1, .v (.int .i64 n), .v (.int .i64 old)] 2 [(1, .fz 1 (ps.map eIs))] (.v (.bool (leads ps n old))) 2 [] := by
 refine spec_of D (fn := Try.f118) rfl rfl (Nat.le_of_ble_eq_true rfl) ?_
 refine W_seq ?_
 refine W_seqK (b' := 18) rfl rfl ?_
 refine q0 6 2 1 rfl rfl (T_assign rfl rfl) rfl ?_
 refine k_done rfl ?_
 refine thenK_n ?_
 refine W_seq ?_
 refine W_seqK (b' := 322) rfl rfl ?_
 refine q0 7 18 1 rfl rfl (T_move rfl rfl) rfl ?_
 refine q0 8 34 2 rfl rfl (T_cmp rfl rfl rfl rfl) rfl ?_
 refine q0 9 50 3 rfl rfl (T_move rfl rfl) rfl ?_
 refine k_split (d := 9) rfl (fun g1 => ?_) (fun g1 => ?_)
 ·have h1 := c_geq_t g1
  refine k_op0 (d := 10) (b := 66) (j' := 4) rfl rfl rfl rfl (g_tt rfl rfl rfl g1) (T_move rfl rfl) rfl ?_
  refine k_op0 (d := 11) (b := 82) (j' := 5) rfl rfl rfl rfl (g_tt rfl rfl rfl g1) (T_move rfl rfl) rfl ?_
  refine k_op0 (d := 12) (b := 98) (j' := 6) rfl rfl rfl rfl (g_tt rfl rfl rfl g1) (T_len D rfl rfl rfl rfl rfl rfl) rfl ?_
  refine k_op0 (d := 13) (b := 114) (j' := 7) rfl rfl rfl rfl (g_tt rfl rfl rfl g1) (T_cmp rfl rfl rfl rfl) rfl ?_
  refine q0 14 130 8 rfl rfl (T_pick_t rfl rfl rfl g1) rfl ?_
  refine q0 15 146 9 rfl rfl (T_move rfl rfl) rfl ?_
  refine k_split (d := 15) rfl (fun g2 => ?_) (fun g2 => ?_)
  ·have h2 := c_lss_t g2
   refine k_op0 (d := 16) (b := 162) (j' := 10) rfl rfl rfl rfl (g_tt rfl rfl rfl g2) (T_move rfl rfl) rfl ?_
   refine k_op0 (d := 17) (b := 178) (j' := 11) rfl rfl rfl rfl (g_tt rfl rfl rfl g2) (T_move rfl rfl) rfl ?_
   first | refine k_op0 (d := 18) (b := 194) (j' := 12) rfl rfl rfl rfl (g_tt rfl rfl rfl g2) (T_indexAddr D rfl rfl rfl rfl rfl rfl rfl rfl (by first | assumption | omega | (exact hn (by omega) (by omega)))) rfl ?_ | refine k_op0 (d := 18) (b := 194) (j' := 12) rfl rfl rfl rfl (g_tt rfl rfl rfl g2) (T_indexAddrZ D rfl rfl rfl rfl rfl rfl rfl rfl (by first | assumption | omega | (exact hn (by omega) (by omega))) (by first | assumption | omega | (exact hn (by omega) (by omega)))) rfl ?_
   refine k_op1 (d := 19) (b := 210) (j' := 13) rfl rfl rfl rfl (g_tt rfl rfl rfl g2) (T_ldE D (lv := .r 210) (nn := 1) (upd := [(210, .fz 1 _)]) rfl rfl rfl rfl rfl (by first | assumption | omega | (exact hn (by omega) (by omega))) rfl rfl rfl rfl) rfl ?_
   first | refine k_op0 (d := 20) (b := 226) (j' := 14) rfl rfl rfl rfl (g_tt rfl rfl rfl g2) (T_indexAddr D rfl rfl rfl rfl rfl rfl rfl rfl (by first | assumption | omega | (exact hn (by omega) (by omega)))) rfl ?_ | refine k_op0 (d := 20) (b := 226) (j' := 14) rfl rfl rfl rfl (g_tt rfl rfl rfl g2) (T_indexAddrZ D rfl rfl rfl rfl rfl rfl rfl rfl (by first | assumption | omega | (exact hn (by omega) (by omega))) (by first | assumption | omega | (exact hn (by omega) (by omega)))) rfl ?_
   refine k_op0 (d := 21) (b := 242) (j' := 15) rfl rfl rfl rfl (g_tt rfl rfl rfl g2) (T_ldE D (lv := .v _) (nn := 0) (upd := []) rfl rfl rfl rfl rfl (by first | assumption | omega | (exact hn (by omega) (by omega))) rfl rfl rfl rfl) rfl ?_
   refine k_op0 (d := 22) (b := 258) (j' := 16) rfl rfl rfl rfl (g_tt rfl rfl rfl g2) (T_move rfl rfl) rfl ?_
   refine k_op0 (d := 23) (b := 274) (j' := 17) rfl rfl rfl rfl (g_tt rfl rfl rfl g2) (T_cmp rfl rfl rfl rfl) rfl ?_
   refine q0 24 290 18 rfl rfl (T_pick_t rfl rfl rfl g2) rfl ?_
   refine q0 6 306 19 rfl rfl (T_assign rfl rfl) rfl ?_
   refine k_done rfl ?_
   refine thenK_n ?_
   refine W_ret ?_
   exact .mk [] (.inr rfl) (.tmp rfl (.nil)) (by simp only [resLV, LV.ren, LV.v.injEq, Value.bool.injEq]; rw [leads, decide_eq_true (by omega), decide_eq_true (by omega)]; rfl) (.nil) rfl
  ·have h2 := c_lss_f g2
   refine k_no (d := 16) (j' := 10) rfl rfl rfl (g_tf rfl rfl rfl g2) ?_
   refine k_no (d := 17) (j' := 11) rfl rfl rfl (g_tf rfl rfl rfl g2) ?_
   refine k_no (d := 18) (j' := 12) rfl rfl rfl (g_tf rfl rfl rfl g2) ?_
   refine k_no (d := 19) (j' := 13) rfl rfl rfl (g_tf rfl rfl rfl g2) ?_
   refine k_no (d := 20) (j' := 14) rfl rfl rfl (g_tf rfl rfl rfl g2) ?_
   refine k_no (d := 21) (j' := 15) rfl rfl rfl (g_tf rfl rfl rfl g2) ?_
   refine k_no (d := 22) (j' := 16) rfl rfl rfl (g_tf rfl rfl rfl g2) ?_
   refine k_no (d := 23) (j' := 17) rfl rfl rfl (g_tf rfl rfl rfl g2) ?_
   refine q0 24 290 18 rfl rfl (T_pick_f rfl rfl rfl g2) rfl ?_
   refine q0 6 306 19 rfl rfl (T_assign rfl rfl) rfl ?_
   refine k_done rfl ?_
   refine thenK_n ?_
   refine W_ret ?_
   exact .mk [] (.inr rfl) (.tmp rfl (.nil)) (by simp only [resLV, LV.ren, LV.v.injEq, Value.bool.injEq]; rw [leads, decide_eq_false (p := n < (ps.length : Int)) (by omega)]; simp) (.nil) rfl
 ·have h1 := c_geq_f g1
  refine k_no (d := 10) (j' := 4) rfl rfl rfl (g_tf rfl rfl rfl g1) ?_
  refine k_no (d := 11) (j' := 5) rfl rfl rfl (g_tf rfl rfl rfl g1) ?_
  refine k_no (d := 12) (j' := 6) rfl rfl rfl (g_tf rfl rfl rfl g1) ?_
  refine k_no (d := 13) (j' := 7) rfl rfl rfl (g_tf rfl rfl rfl g1) ?_
  refine q0 14 130 8 rfl rfl (T_pick_f rfl rfl rfl g1) rfl ?_
  refine q0 15 146 9 rfl rfl (T_move rfl rfl) rfl ?_
  refine k_no (d := 16) (j' := 10) rfl rfl rfl (g_tf rfl rfl rfl rfl) ?_
  refine k_no (d := 17) (j' := 11) rfl rfl rfl (g_tf rfl rfl rfl rfl) ?_
  refine k_no (d := 18) (j' := 12) rfl rfl rfl (g_tf rfl rfl rfl rfl) ?_
  refine k_no (d := 19) (j' := 13) rfl rfl rfl (g_tf rfl rfl rfl rfl) ?_
  refine k_no (d := 20) (j' := 14) rfl rfl rfl (g_tf rfl rfl rfl rfl) ?_
  refine k_no (d := 21) (j' := 15) rfl rfl rfl (g_tf rfl rfl rfl rfl) ?_
  refine k_no (d := 22) (j' := 16) rfl rfl rfl (g_tf rfl rfl rfl rfl) ?_
  refine k_no (d := 23) (j' := 17) rfl rfl rfl (g_tf rfl rfl rfl rfl) ?_
  refine q0 24 290 18 rfl rfl (T_pick_f rfl rfl rfl rfl) rfl ?_
  refine q0 6 306 19 rfl rfl (T_assign rfl rfl) rfl ?_
  refine k_done rfl ?_
  refine thenK_n ?_
  refine W_ret ?_
  exact .mk [] (.inr rfl) (.tmp rfl (.nil)) (by simp only [resLV, LV.ren, LV.v.injEq, Value.bool.injEq]; rw [leads, decide_eq_false (p := 0 ≤ n) (by omega)]; rfl) (.nil) rfl
theorem body119 : (Try.prog.funcs[119]?).map (fun fn => (fn.name == "runtime.NumGoroutine" || fn.body.isNone)) = some false := by kernel_rfl
theorem leads_spec2 (ps : List (List Int)) (n old : Int) (hn : 0 ≤ n → n < ps.length → 0 < (ps.getD n.toNat default).length) : Spec Try.prog 119 [.r 1, .v (.int .i64 n), .v (.int .i64 old)] 2 [(1, .fz 1 (ps.map eIs))] (.v (.bool (leads ps n old))) 2 [] := by
 refine spec_of D (fn := Try.f119) rfl rfl (Nat.le_of_ble_eq_true rfl) ?_
 refine W_seq ?_
 refine W_seqK (b' := 18) rfl rfl ?_
 refine q0 6 2 1 rfl rfl (T_assign rfl rfl) rfl ?_
 refine k_done rfl ?_
 refine thenK_n ?_
 refine W_seq ?_
 refine W_seqK (b' := 322) rfl rfl ?_
 refine q0 7 18 1 rfl rfl (T_move rfl rfl) rfl ?_
 refine q0 8 34 2 rfl rfl (T_cmp rfl rfl rfl rfl) rfl ?_
 refine q0 9 50 3 rfl rfl (T_move rfl rfl) rfl ?_
 refine k_split (d := 9) rfl (fun g1 => ?_) (fun g1 => ?_)
 ·have h1 := c_geq_t g1
  refine k_op0 (d := 10) (b := 66) (j' := 4) rfl rfl rfl rfl (g_tt rfl rfl rfl g1) (T_move rfl rfl) rfl ?_
  refine k_op0 (d := 11) (b := 82) (j' := 5) rfl rfl rfl rfl (g_tt rfl rfl rfl g1) (T_move rfl rfl) rfl ?_
  refine k_op0 (d := 12) (b := 98) (j' := 6) rfl rfl rfl rfl (g_tt rfl rfl rfl g1) (T_len D rfl rfl rfl rfl rfl rfl) rfl ?_
  refine k_op0 (d := 13) (b := 114) (j' := 7) rfl rfl rfl rfl (g_tt rfl rfl rfl g1) (T_cmp rfl rfl rfl rfl) rfl ?_
  refine q0 14 130 8 rfl rfl (T_pick_t rfl rfl rfl g1) rfl ?_
  refine q0 15 146 9 rfl rfl (T_move rfl rfl) rfl ?_
  refine k_split (d := 15) rfl (fun g2 => ?_) (fun g2 => ?_)
  ·have h2 := c_lss_t g2
   refine k_op0 (d := 16) (b := 162) (j' := 10) rfl rfl rfl rfl (g_tt rfl rfl rfl g2) (T_move rfl rfl) rfl ?_
   refine k_op0 (d := 17) (b := 178) (j' := 11) rfl rfl rfl rfl (g_tt rfl rfl rfl g2) (T_move rfl rfl) rfl ?_
   first | refine k_op0 (d := 18) (b := 194) (j' := 12) rfl rfl rfl rfl (g_tt rfl rfl rfl g2) (T_indexAddr D rfl rfl rfl rfl rfl rfl rfl rfl (by first | assumption | omega | (exact hn (by omega) (by omega)))) rfl ?_ | refine k_op0 (d := 18) (b := 194) (j' := 12) rfl rfl rfl rfl (g_tt rfl rfl rfl g2) (T_indexAddrZ D rfl rfl rfl rfl rfl rfl rfl rfl (by first | assumption | omega | (exact hn (by omega) (by omega))) (by first | assumption | omega | (exact hn (by omega) (by omega)))) rfl ?_
   refine k_op1 (d := 19) (b := 210) (j' := 13) rfl rfl rfl rfl (g_tt rfl rfl rfl g2) (T_ldE D (lv := .r 210) (nn := 1) (upd := [(210, .fz 1 _)]) rfl rfl rfl rfl rfl (by first | assumption | omega | (exact hn (by omega) (by omega))) rfl rfl rfl rfl) rfl ?_
   first | refine k_op0 (d := 20) (b := 226) (j' := 14) rfl rfl rfl rfl (g_tt rfl rfl rfl g2) (T_indexAddr D rfl rfl rfl rfl rfl rfl rfl rfl (by first | assumption | omega | (exact hn (by omega) (by omega)))) rfl ?_ | refine k_op0 (d := 20) (b := 226) (j' := 14) rfl rfl rfl rfl (g_tt rfl rfl rfl g2) (T_indexAddrZ D rfl rfl rfl rfl rfl rfl rfl rfl (by first | assumption | omega | (exact hn (by omega) (by omega))) (by first | assumption | omega | (exact hn (by omega) (by omega)))) rfl ?_
   refine k_op0 (d := 21) (b := 242) (j' := 15) rfl rfl rfl rfl (g_tt rfl rfl rfl g2) (T_ldE D (lv := .v _) (nn := 0) (upd := []) rfl rfl rfl rfl rfl (by first | assumption | omega | (exact hn (by omega) (by omega))) rfl rfl rfl rfl) rfl ?_
   refine k_op0 (d := 22) (b := 258) (j' := 16) rfl rfl rfl rfl (g_tt rfl rfl rfl g2) (T_move rfl rfl) rfl ?_
   refine k_op0 (d := 23) (b := 274) (j' := 17) rfl rfl rfl rfl (g_tt rfl rfl rfl g2) (T_cmp rfl rfl rfl rfl) rfl ?_
   refine q0 24 290 18 rfl rfl (T_pick_t rfl rfl rfl g2) rfl ?_
   refine q0 6 306 19 rfl rfl (T_assign rfl rfl) rfl ?_
   refine k_done rfl ?_
   refine thenK_n ?_
   refine W_ret ?_
   exact .mk [] (.inr rfl) (.tmp rfl (.nil)) (by simp only [resLV, LV.ren, LV.v.injEq, Value.bool.injEq]; rw [leads, decide_eq_true (by omega), decide_eq_true (by omega)]; rfl) (.nil) rfl
  ·have h2 := c_lss_f g2
   refine k_no (d := 16) (j' := 10) rfl rfl rfl (g_tf rfl rfl rfl g2) ?_
   refine k_no (d := 17) (j' := 11) rfl rfl rfl (g_tf rfl rfl rfl g2) ?_
   refine k_no (d := 18) (j' := 12) rfl rfl rfl (g_tf rfl rfl rfl g2) ?_
   refine k_no (d := 19) (j' := 13) rfl rfl rfl (g_tf rfl rfl rfl g2) ?_
   refine k_no (d := 20) (j' := 14) rfl rfl rfl (g_tf rfl rfl rfl g2) ?_
   refine k_no (d := 21) (j' := 15) rfl rfl rfl (g_tf rfl rfl rfl g2) ?_
   refine k_no (d := 22) (j' := 16) rfl rfl rfl (g_tf rfl rfl rfl g2) ?_
   refine k_no (d := 23) (j' := 17) rfl rfl rfl (g_tf rfl rfl rfl g2) ?_
   refine q0 24 290 18 rfl rfl (T_pick_f rfl rfl rfl g2) rfl ?_
   refine q0 6 306 19 rfl rfl (T_assign rfl rfl) rfl ?_
   refine k_done rfl ?_
   refine thenK_n ?_
   refine W_ret ?_
   exact .mk [] (.inr rfl) (.tmp rfl (.nil)) (by simp only [resLV, LV.ren, LV.v.injEq, Value.bool.injEq]; rw [leads, decide_eq_false (p := n < (ps.length : Int)) (by omega)]; simp) (.nil) rfl
 ·have h1 := c_geq_f g1
  refine k_no (d := 10) (j' := 4) rfl rfl rfl (g_tf rfl rfl rfl g1) ?_
  refine k_no (d := 11) (j' := 5) rfl rfl rfl (g_tf rfl rfl rfl g1) ?_
  refine k_no (d := 12) (j' := 6) rfl rfl rfl (g_tf rfl rfl rfl g1) ?_
  refine k_no (d := 13) (j' := 7) rfl rfl rfl (g_tf rfl rfl rfl g1) ?_
  refine q0 14 130 8 rfl rfl (T_pick_f rfl rfl rfl g1) rfl ?_
  refine q0 15 146 9 rfl rfl (T_move rfl rfl) rfl ?_
  refine k_no (d := 16) (j' := 10) rfl rfl rfl (g_tf rfl rfl rfl rfl) ?_
  refine k_no (d := 17) (j' := 11) rfl rfl rfl (g_tf rfl rfl rfl rfl) ?_
  refine k_no (d := 18) (j' := 12) rfl rfl rfl (g_tf rfl rfl rfl rfl) ?_
  refine k_no (d := 19) (j' := 13) rfl rfl rfl (g_tf rfl rfl rfl rfl) ?_
  refine k_no (d := 20) (j' := 14) rfl rfl rfl (g_tf rfl rfl rfl rfl) ?_
  refine k_no (d := 21) (j' := 15) rfl rfl rfl (g_tf rfl rfl rfl rfl) ?_
  refine k_no (d := 22) (j' := 16) rfl rfl rfl (g_tf rfl rfl rfl rfl) ?_
  refine k_no (d := 23) (j' := 17) rfl rfl rfl (g_tf rfl rfl rfl rfl) ?_
  refine q0 24 290 18 rfl rfl (T_pick_f rfl rfl rfl rfl) rfl ?_
  refine q0 6 306 19 rfl rfl (T_assign rfl rfl) rfl ?_
  refine k_done rfl ?_
  refine thenK_n ?_
  refine W_ret ?_
  exact .mk [] (.inr rfl) (.tmp rfl (.nil)) (by simp only [resLV, LV.ren, LV.v.injEq, Value.bool.injEq]; rw [leads, decide_eq_false (p := 0 ≤ n) (by omega)]; rfl) (.nil) rfl
theorem body31 : (Try.prog.funcs[31]?).map (fun fn => (fn.name == "runtime.NumGoroutine" || fn.body.isNone)) = some false := by kernel_rfl
theorem few_spec (f : GFn) (x y : Int) (hb : f.blocks.length ≤ 4000000000000000000) (hs : (f.blocks.length : Int) ≤ x → ∀ j, sumLen ((insOf f).take j) ≤ 4000000000000000000) : Spec Try.prog 31 [.agg [.v (.int .i64 f.regs), .r 1], .v (.int .i64 x), .v (.int .i64 y)] 2 [(1, .fz 5 (f.blocks.map eBlock))] (.v (.bool (few f x y))) 2 [] := by
 refine spec_of D (fn := Try.f31) rfl rfl (Nat.le_of_ble_eq_true rfl) ?_
 refine W_seq ?_
 refine W_seqK (b' := 34) rfl rfl ?_
 refine q1 3 2 1 rfl rfl (T_box rfl rfl flat_agg) rfl ?_
 refine q0 6 18 2 rfl rfl (T_assign rfl rfl) rfl ?_
 refine k_done rfl ?_
 refine thenK_n ?_
 refine W_seq ?_
 refine W_seq ?_
 refine W_seqK (b' := 114) rfl rfl ?_
 refine q0 9 34 1 rfl rfl (T_fa D (m := 1) rfl rfl rfl rfl rfl rfl) rfl ?_
 refine q0 10 50 2 rfl rfl (T_load_b D rfl rfl rfl rfl rfl rfl) rfl ?_
 refine q0 11 66 3 rfl rfl (T_len D rfl rfl rfl rfl rfl rfl) rfl ?_
 refine q0 12 82 4 rfl rfl (T_move rfl rfl) rfl ?_
 refine q0 13 98 5 rfl rfl (T_cmp rfl rfl rfl rfl) rfl ?_
 refine k_done rfl ?_
 refine thenK_n ?_
 refine W_cond rfl (fun g1 => ?_) (fun g1 => ?_)
 ·have h1 := c_gtr_t g1
  refine W_seq ?_
  refine W_seqK (b' := 130) rfl rfl ?_
  refine q0 6 114 1 rfl rfl (T_assign rfl rfl) rfl ?_
  refine k_done rfl ?_
  refine thenK_n ?_
  refine W_ret ?_
  refine thenK_r ?_
  exact .mk [] (.inr rfl) (.tmp rfl (.nil)) (by simp only [resLV, LV.ren, LV.v.injEq, Value.bool.injEq]; rw [few, decide_eq_false (by omega)]; rfl) (.nil) rfl
 ·have h1 := c_gtr_f g1
  refine W_skip ?_
  refine thenK_n ?_
  refine W_seq ?_
  refine W_seqK (b' := 130) rfl rfl ?_
  refine q0 7 114 1 rfl rfl (T_assign rfl rfl) rfl ?_
  refine k_done rfl ?_
  refine thenK_n ?_
  refine W_seq ?_
  refine W_seq ?_
  refine W_seqK (b' := 146) rfl rfl ?_
  refine q0 8 130 1 rfl rfl (T_assign rfl rfl) rfl ?_
  refine k_done rfl ?_
  refine thenK_n ?_
  refine W_block ?_
  refine W_loop (ι := Nat) 3 (fun j => ⟨[(2, .v (.int .i64 y)), (3, .p 2 0), (7, .v (.int .i64 (sumLen ((insOf f).take j) : Int))), (8, .v (.int .i64 (j : Int)))], [(1, .fz 5 (f.blocks.map eBlock)), (2, .box 29 [.v (.int .i64 f.regs), .r 1])]⟩) (fun j => j ≤ f.blocks.length) (fun j => f.blocks.length - j) (0) (by exact Nat.zero_le _) ?_ (fun j hJ => ?_)
  ·exact ⟨[(2, 2)], .eq rfl (.same rfl rfl (.eq rfl (.eq rfl (.nil) (by first | rfl | simp)) (by first | rfl | simp))) (by first | rfl | simp), .fzE rfl (.box (by first | rfl | simp) (.nil)) (by first | rfl | simp), rfl⟩
  have hq := hs (by omega) j
  have hq3 : j < f.blocks.length → sumLen ((insOf f).take (j + 1)) = sumLen ((insOf f).take j) + (f.blocks.getD j default).ins.length := fun h => by rw [sumLen_take _ j (by simpa [insOf] using h)]; simp [insOf, List.getD_eq_getElem?_getD, h]
  have hq2 := hs (by omega) (j + 1)
  refine W_seq ?_
  refine W_seq ?_
  refine W_seqK (b' := 83) rfl rfl ?_
  refine q0 14 3 1 rfl rfl (T_move rfl rfl) rfl ?_
  refine q0 15 19 2 rfl rfl (T_fa D (m := 1) rfl rfl rfl rfl rfl rfl) rfl ?_
  refine q0 16 35 3 rfl rfl (T_load_b D rfl rfl rfl rfl rfl rfl) rfl ?_
  refine q0 17 51 4 rfl rfl (T_len D rfl rfl rfl rfl rfl rfl) rfl ?_
  refine q0 18 67 5 rfl rfl (T_cmp rfl rfl rfl rfl) rfl ?_
  refine k_done rfl ?_
  refine thenK_n ?_
  refine W_cond rfl (fun g2 => ?_) (fun g2 => ?_)
  ·have h2 := c_lss_t g2
   refine W_skip ?_
   refine thenK_n ?_
   refine W_seq ?_
   refine W_block ?_
   refine W_seqK (b' := 243) rfl rfl ?_
   refine q0 21 83 1 rfl rfl (T_move rfl rfl) rfl ?_
   refine q0 22 99 2 rfl rfl (T_fa D (m := 1) rfl rfl rfl rfl rfl rfl) rfl ?_
   refine q0 23 115 3 rfl rfl (T_load_b D rfl rfl rfl rfl rfl rfl) rfl ?_
   refine q0 24 131 4 rfl rfl (T_move rfl rfl) rfl ?_
   first | refine q0 25 147 5 rfl rfl (T_indexAddr D rfl rfl rfl rfl rfl rfl rfl rfl (by first | assumption | omega | (simp; omega))) rfl ?_ | refine q0 25 147 5 rfl rfl (T_indexAddrZ D rfl rfl rfl rfl rfl rfl rfl rfl (by first | assumption | omega | (simp; omega)) (by first | assumption | omega | (simp; omega))) rfl ?_
   refine q0 26 163 6 rfl rfl (T_fae D (m := 0) rfl rfl rfl rfl rfl rfl) rfl ?_
   refine q1 27 179 7 rfl rfl (T_ldE D (lv := .r 179) (nn := 1) (upd := [(179, .fz 8 _)]) rfl rfl rfl rfl rfl (by first | assumption | omega | (simp; omega)) rfl rfl rfl rfl) rfl ?_
   refine q0 28 195 8 rfl rfl (T_len D rfl rfl rfl rfl rfl rfl) rfl ?_
   refine q0 29 211 9 rfl rfl (T_add64 rfl rfl rfl (by first | assumption | omega | (simp; omega))) rfl ?_
   refine q0 7 227 10 rfl rfl (T_assign rfl rfl) rfl ?_
   refine k_done rfl ?_
   refine blockK_n ?_
   refine thenK_n ?_
   refine W_seqK (b' := 291) rfl rfl ?_
   refine q0 19 243 1 rfl rfl (T_move rfl rfl) rfl ?_
   refine q0 20 259 2 rfl rfl (T_add64 rfl rfl rfl (by first | assumption | omega | (simp; omega))) rfl ?_
   refine q0 8 275 3 rfl rfl (T_assign rfl rfl) rfl ?_
   refine k_done rfl ?_
   refine thenK_n ?_
   refine ⟨j + 1, by (try dsimp only); omega, by (try dsimp only); omega, ?_⟩
   exact ⟨[(2, 2)], .eq rfl (.same rfl rfl (.eq rfl (.eq rfl (.nil) (by first | rfl | (rw [hq3 (by omega)]; rfl) | simp)) (by first | rfl | (rw [hq3 (by omega)]; rfl) | simp))) rfl, .fzE rfl (.box (by first | rfl | (rw [hq3 (by omega)]; rfl) | simp) (.nil)) rfl, rfl⟩
  ·have h2 := c_lss_f g2
   refine W_exit ?_
   refine thenK_e ?_
   refine thenK_e ?_
   refine blockK_hit ?_
   refine thenK_n ?_
   refine W_seq ?_
   refine W_seqK (b' := 147) rfl rfl ?_
   refine q0 30 83 1 rfl rfl (T_move rfl rfl) rfl ?_
   refine q0 31 99 2 rfl rfl (T_move rfl rfl) rfl ?_
   refine q0 32 115 3 rfl rfl (T_cmp rfl rfl rfl rfl) rfl ?_
   refine q0 6 131 4 rfl rfl (T_assign rfl rfl) rfl ?_
   refine k_done rfl ?_
   refine thenK_n ?_
   refine W_ret ?_
   exact .mk [] (.inr rfl) (.tmp rfl (.nil)) (by simp only [resLV, LV.ren, LV.v.injEq, Value.bool.injEq]; have e : j = f.blocks.length := (by omega); subst e; rw [few, decide_eq_true (by omega), List.take_of_length_le (by simp [insOf])]; rfl) (.nil) rfl
theorem body32 : (Try.prog.funcs[32]?).map (fun fn => (fn.name == "runtime.NumGoroutine" || fn.body.isNone)) = some false := by kernel_rfl
theorem small_spec (ps : List (List Int)) (x y : Int) (hb : ps.length ≤ 4000000000000000000) (hy : y ≤ 4000000000000000000) (hs : ∀ p ∈ ps, p.length ≤ 4000000000000000000) : Spec Try.prog 32 [.r 1, .v (.int .i64 x), .v (.int .i64 y)] 2 [(1, .fz 1 (ps.map eIs))] (.v (.bool (decide ((ps.length : Int) ≤ x) && decide ((sumLen ps : Int) ≤ y)))) 2 [] := by
 refine spec_of D (fn := Try.f32) rfl rfl (Nat.le_of_ble_eq_true rfl) ?_
 refine W_seq ?_
 refine W_seqK (b' := 18) rfl rfl ?_
 refine q0 6 2 1 rfl rfl (T_assign rfl rfl) rfl ?_
 refine k_done rfl ?_
 refine thenK_n ?_
 refine W_seq ?_
 refine W_seqK (b' := 34) rfl rfl ?_
 refine q0 7 18 1 rfl rfl (T_assign rfl rfl) rfl ?_
 refine k_done rfl ?_
 refine thenK_n ?_
 refine W_seq ?_
 refine W_seq ?_
 refine W_seqK (b' := 50) rfl rfl ?_
 refine q0 8 34 1 rfl rfl (T_assign rfl rfl) rfl ?_
 refine k_done rfl ?_
 refine thenK_n ?_
 refine W_block ?_
 refine W_loop (ι := Nat) 2 (fun j => ⟨[(0, .r 1), (1, .v (.int .i64 x)), (2, .v (.int .i64 y)), (7, .v (.int .i64 (sumLen (ps.take j) : Int))), (8, .v (.int .i64 (j : Int)))], [(1, .fz 1 (ps.map eIs))]⟩) (fun j => j ≤ ps.length ∧ (sumLen (ps.take j) : Int) ≤ 8000000000000000000) (fun j => ps.length - j) (0) (by exact ⟨Nat.zero_le _, by simp [sumLen]⟩) ?_ (fun j hJ => ?_)
 ·exact ⟨[], .same rfl rfl (.eq rfl (.eq rfl (.eq rfl (.eq rfl (.nil) (by first | rfl | simp)) (by first | rfl | simp)) (by first | rfl | simp)) (by first | rfl | simp)), .fzE rfl (.nil) (by first | rfl | simp), rfl⟩
 have hq3 : j < ps.length → sumLen (ps.take (j + 1)) = sumLen (ps.take j) + (ps.getD j default).length := fun h => sumLen_take _ j h
 have hq4 := sumLen_take_le ps j
 have hq5 := fun h => hs (ps.getD j default) (getD_mem h)
 refine W_seq ?_
 refine W_seq ?_
 refine W_seqK (b' := 146) rfl rfl ?_
 refine q0 9 2 1 rfl rfl (T_move rfl rfl) rfl ?_
 refine q0 10 18 2 rfl rfl (T_move rfl rfl) rfl ?_
 refine q0 11 34 3 rfl rfl (T_len D rfl rfl rfl rfl rfl rfl) rfl ?_
 refine q0 12 50 4 rfl rfl (T_cmp rfl rfl rfl rfl) rfl ?_
 refine q0 13 66 5 rfl rfl (T_move rfl rfl) rfl ?_
 refine k_split (d := 13) rfl (fun g1 => ?_) (fun g1 => ?_)
 ·have h1 := c_lss_t g1
  refine k_op0 (d := 14) (b := 82) (j' := 6) rfl rfl rfl rfl (g_tt rfl rfl rfl g1) (T_move rfl rfl) rfl ?_
  refine k_op0 (d := 15) (b := 98) (j' := 7) rfl rfl rfl rfl (g_tt rfl rfl rfl g1) (T_move rfl rfl) rfl ?_
  refine k_op0 (d := 16) (b := 114) (j' := 8) rfl rfl rfl rfl (g_tt rfl rfl rfl g1) (T_cmp rfl rfl rfl rfl) rfl ?_
  refine q0 17 130 9 rfl rfl (T_pick_t rfl rfl rfl g1) rfl ?_
  refine k_done rfl ?_
  refine thenK_n ?_
  refine W_cond rfl (fun g2 => ?_) (fun g2 => ?_)
  ·have h2 := c_leq_t g2
   refine W_skip ?_
   refine thenK_n ?_
   refine W_seq ?_
   refine W_block ?_
   refine W_seqK (b' := 274) rfl rfl ?_
   refine q0 20 146 1 rfl rfl (T_move rfl rfl) rfl ?_
   refine q0 21 162 2 rfl rfl (T_move rfl rfl) rfl ?_
   refine q0 22 178 3 rfl rfl (T_move rfl rfl) rfl ?_
   first | refine q0 23 194 4 rfl rfl (T_indexAddr D rfl rfl rfl rfl rfl rfl rfl rfl (by first | assumption | omega | (have k2 := hq5 (by omega); omega) | (simp; omega))) rfl ?_ | refine q0 23 194 4 rfl rfl (T_indexAddrZ D rfl rfl rfl rfl rfl rfl rfl rfl (by first | assumption | omega | (have k2 := hq5 (by omega); omega) | (simp; omega)) (by first | assumption | omega | (have k2 := hq5 (by omega); omega) | (simp; omega))) rfl ?_
   refine q1 24 210 5 rfl rfl (T_ldE D (lv := .r 210) (nn := 1) (upd := [(210, .fz 1 _)]) rfl rfl rfl rfl rfl (by first | assumption | omega | (have k2 := hq5 (by omega); omega) | (simp; omega)) rfl rfl rfl rfl) rfl ?_
   refine q0 25 226 6 rfl rfl (T_len D rfl rfl rfl rfl rfl rfl) rfl ?_
   refine q0 26 242 7 rfl rfl (T_add64 rfl rfl rfl (by first | assumption | omega | (have k2 := hq5 (by omega); omega) | (simp; omega))) rfl ?_
   refine q0 7 258 8 rfl rfl (T_assign rfl rfl) rfl ?_
   refine k_done rfl ?_
   refine blockK_n ?_
   refine thenK_n ?_
   refine W_seqK (b' := 322) rfl rfl ?_
   refine q0 18 274 1 rfl rfl (T_move rfl rfl) rfl ?_
   refine q0 19 290 2 rfl rfl (T_add64 rfl rfl rfl (by first | assumption | omega | (have k2 := hq5 (by omega); omega) | (simp; omega))) rfl ?_
   refine q0 8 306 3 rfl rfl (T_assign rfl rfl) rfl ?_
   refine k_done rfl ?_
   refine thenK_n ?_
   refine ⟨j + 1, by (try dsimp only); (have k := hq3 (by omega); have k2 := hq5 (by omega); omega), by (try dsimp only); omega, ?_⟩
   exact ⟨[], .same rfl rfl (.eq rfl (.eq rfl (.eq rfl (.eq rfl (.nil) (by first | rfl | (rw [hq3 (by omega)]; rfl) | simp)) (by first | rfl | (rw [hq3 (by omega)]; rfl) | simp)) rfl) rfl), .fzE rfl (.nil) rfl, rfl⟩
  ·have h2 := c_leq_f g2
   refine W_exit ?_
   refine thenK_e ?_
   refine thenK_e ?_
   refine blockK_hit ?_
   refine thenK_n ?_
   refine W_seq ?_
   refine W_seqK (b' := 306) rfl rfl ?_
   refine q0 27 146 1 rfl rfl (T_move rfl rfl) rfl ?_
   refine q0 28 162 2 rfl rfl (T_len D rfl rfl rfl rfl rfl rfl) rfl ?_
   refine q0 29 178 3 rfl rfl (T_move rfl rfl) rfl ?_
   refine q0 30 194 4 rfl rfl (T_cmp rfl rfl rfl rfl) rfl ?_
   refine q0 31 210 5 rfl rfl (T_move rfl rfl) rfl ?_
   refine k_split (d := 31) rfl (fun g3 => ?_) (fun g3 => ?_)
   ·have h3 := c_leq_t g3
    refine k_op0 (d := 32) (b := 226) (j' := 6) rfl rfl rfl rfl (g_tt rfl rfl rfl g3) (T_move rfl rfl) rfl ?_
    refine k_op0 (d := 33) (b := 242) (j' := 7) rfl rfl rfl rfl (g_tt rfl rfl rfl g3) (T_move rfl rfl) rfl ?_
    refine k_op0 (d := 34) (b := 258) (j' := 8) rfl rfl rfl rfl (g_tt rfl rfl rfl g3) (T_cmp rfl rfl rfl rfl) rfl ?_
    refine q0 35 274 9 rfl rfl (T_pick_t rfl rfl rfl g3) rfl ?_
    refine q0 6 290 10 rfl rfl (T_assign rfl rfl) rfl ?_
    refine k_done rfl ?_
    refine thenK_n ?_
    refine W_ret ?_
    exact .mk [] (.inr rfl) (.tmp rfl (.nil)) (by simp only [resLV, LV.ren, LV.v.injEq, Value.bool.injEq]; rw [decide_eq_false (p := (sumLen ps : Int) ≤ y) (by omega), Bool.and_false]; simp only [cmpB]; exact decide_eq_false (by omega)) (.nil) rfl
   ·have h3 := c_leq_f g3
    refine k_no (d := 32) (j' := 6) rfl rfl rfl (g_tf rfl rfl rfl g3) ?_
    refine k_no (d := 33) (j' := 7) rfl rfl rfl (g_tf rfl rfl rfl g3) ?_
    refine k_no (d := 34) (j' := 8) rfl rfl rfl (g_tf rfl rfl rfl g3) ?_
    refine q0 35 274 9 rfl rfl (T_pick_f rfl rfl rfl g3) rfl ?_
    refine q0 6 290 10 rfl rfl (T_assign rfl rfl) rfl ?_
    refine k_done rfl ?_
    refine thenK_n ?_
    refine W_ret ?_
    exact .mk [] (.inr rfl) (.tmp rfl (.nil)) (by simp only [resLV, LV.ren, LV.v.injEq, Value.bool.injEq]; rw [decide_eq_false (p := (ps.length : Int) ≤ x) (by omega)]; rfl) (.nil) rfl
 ·have h1 := c_lss_f g1
  refine k_no (d := 14) (j' := 6) rfl rfl rfl (g_tf rfl rfl rfl g1) ?_
  refine k_no (d := 15) (j' := 7) rfl rfl rfl (g_tf rfl rfl rfl g1) ?_
  refine k_no (d := 16) (j' := 8) rfl rfl rfl (g_tf rfl rfl rfl g1) ?_
  refine q0 17 130 9 rfl rfl (T_pick_f rfl rfl rfl g1) rfl ?_
  refine k_done rfl ?_
  refine thenK_n ?_
  refine W_cond rfl (fun g4 => ?_) (fun g4 => ?_)
  ·exact absurd (g4.symm.trans rfl) (by decide)
  ·skip
   refine W_exit ?_
   refine thenK_e ?_
   refine thenK_e ?_
   refine blockK_hit ?_
   refine thenK_n ?_
   refine W_seq ?_
   refine W_seqK (b' := 306) rfl rfl ?_
   refine q0 27 146 1 rfl rfl (T_move rfl rfl) rfl ?_
   refine q0 28 162 2 rfl rfl (T_len D rfl rfl rfl rfl rfl rfl) rfl ?_
   refine q0 29 178 3 rfl rfl (T_move rfl rfl) rfl ?_
   refine q0 30 194 4 rfl rfl (T_cmp rfl rfl rfl rfl) rfl ?_
   refine q0 31 210 5 rfl rfl (T_move rfl rfl) rfl ?_
   refine k_split (d := 31) rfl (fun g5 => ?_) (fun g5 => ?_)
   ·have h5 := c_leq_t g5
    refine k_op0 (d := 32) (b := 226) (j' := 6) rfl rfl rfl rfl (g_tt rfl rfl rfl g5) (T_move rfl rfl) rfl ?_
    refine k_op0 (d := 33) (b := 242) (j' := 7) rfl rfl rfl rfl (g_tt rfl rfl rfl g5) (T_move rfl rfl) rfl ?_
    refine k_op0 (d := 34) (b := 258) (j' := 8) rfl rfl rfl rfl (g_tt rfl rfl rfl g5) (T_cmp rfl rfl rfl rfl) rfl ?_
    refine q0 35 274 9 rfl rfl (T_pick_t rfl rfl rfl g5) rfl ?_
    refine q0 6 290 10 rfl rfl (T_assign rfl rfl) rfl ?_
    refine k_done rfl ?_
    refine thenK_n ?_
    refine W_ret ?_
    exact .mk [] (.inr rfl) (.tmp rfl (.nil)) (by simp only [resLV, LV.ren, LV.v.injEq, Value.bool.injEq]; have e : j = ps.length := (by omega); subst e; rw [decide_eq_true (by omega), List.take_of_length_le (Nat.le_refl _)]; rfl) (.nil) rfl
   ·have h5 := c_leq_f g5
    refine k_no (d := 32) (j' := 6) rfl rfl rfl (g_tf rfl rfl rfl g5) ?_
    refine k_no (d := 33) (j' := 7) rfl rfl rfl (g_tf rfl rfl rfl g5) ?_
    refine k_no (d := 34) (j' := 8) rfl rfl rfl (g_tf rfl rfl rfl g5) ?_
    refine q0 35 274 9 rfl rfl (T_pick_f rfl rfl rfl g5) rfl ?_
    refine q0 6 290 10 rfl rfl (T_assign rfl rfl) rfl ?_
    refine k_done rfl ?_
    refine thenK_n ?_
    refine W_ret ?_
    exact .mk [] (.inr rfl) (.tmp rfl (.nil)) (by simp only [resLV, LV.ren, LV.v.injEq, Value.bool.injEq]; rw [decide_eq_false (p := (ps.length : Int) ≤ x) (by omega)]; rfl) (.nil) rfl
theorem body117 : (Try.prog.funcs[117]?).map (fun fn => (fn.name == "runtime.NumGoroutine" || fn.body.isNone)) = some false := by kernel_rfl
theorem equal_spec (a b : List GTac) (ha : a.length ≤ 1000000) : Spec Try.prog 117 [.r 1, .r 2] 3 [(1, .fz 8 (a.map eTac)), (2, .fz 8 (b.map eTac))] (.v (.bool (decide (a = b)))) 3 [] := by
 refine spec_of D (fn := Try.f117) rfl rfl (Nat.le_of_ble_eq_true rfl) ?_
 refine W_seq ?_
 refine W_seqK (b' := 19) rfl rfl ?_
 refine q0 4 3 1 rfl rfl (T_assign rfl rfl) rfl ?_
 refine k_done rfl ?_
 refine thenK_n ?_
 refine W_seq ?_
 refine W_seq ?_
 refine W_seqK (b' := 99) rfl rfl ?_
 refine q0 6 19 1 rfl rfl (T_move rfl rfl) rfl ?_
 refine q0 7 35 2 rfl rfl (T_len D rfl rfl rfl rfl rfl rfl) rfl ?_
 refine q0 8 51 3 rfl rfl (T_move rfl rfl) rfl ?_
 refine q0 9 67 4 rfl rfl (T_len D rfl rfl rfl rfl rfl rfl) rfl ?_
 refine q0 10 83 5 rfl rfl (T_cmp rfl rfl rfl rfl) rfl ?_
 refine k_done rfl ?_
 refine thenK_n ?_
 refine W_cond rfl (fun g1 => ?_) (fun g1 => ?_)
 ·have h1 := c_neq_t g1
  refine W_seq ?_
  refine W_seqK (b' := 115) rfl rfl ?_
  refine q0 4 99 1 rfl rfl (T_assign rfl rfl) rfl ?_
  refine k_done rfl ?_
  refine thenK_n ?_
  refine W_ret ?_
  refine thenK_r ?_
  exact .mk [] (.inr rfl) (.tmp rfl (.nil)) (by simp only [Value.bool.injEq, LV.v.injEq, resLV, LV.ren]; exact (decide_eq_false (ne_of_len h1)).symm) (.nil) rfl
 ·have h1 := c_neq_f g1
  refine W_skip ?_
  refine thenK_n ?_
  refine W_seq ?_
  refine W_seq ?_
  refine W_seqK (b' := 147) rfl rfl ?_
  refine q0 11 99 1 rfl rfl (T_move rfl rfl) rfl ?_
  refine q0 12 115 2 rfl rfl (T_len D rfl rfl rfl rfl rfl rfl) rfl ?_
  refine q0 13 131 3 rfl rfl (T_move rfl rfl) rfl ?_
  refine k_done rfl ?_
  refine thenK_n ?_
  refine W_block ?_
  refine W_loop (ι := Nat) 3 (fun j => ⟨[(0, .r 1), (1, .r 2), (12, .v (.int .i64 (a.length : Int))), (13, .v (.int .i64 (j : Int)))], [(1, .fz 8 (a.map eTac)), (2, .fz 8 (b.map eTac))]⟩) (fun j => j ≤ a.length ∧ ∀ i, i < j → a.getD i default = b.getD i default) (fun j => a.length - j) (0) (by exact ⟨Nat.zero_le _, fun i h => absurd h (Nat.not_lt_zero _)⟩) ?_ (fun j hJ => ?_)
  ·exact ⟨[], .same rfl rfl (.same rfl rfl (.eq rfl (.eq rfl (.nil) (by first | rfl | simp)) (by first | rfl | simp))), .fzE rfl (.fzE rfl (.nil) (by first | rfl | simp)) (by first | rfl | simp), rfl⟩
  refine W_seq ?_
  refine W_seqK (b' := 19) rfl rfl ?_
  refine q0 14 3 1 rfl rfl (T_cmp rfl rfl rfl rfl) rfl ?_
  refine k_done rfl ?_
  refine thenK_n ?_
  refine W_seq ?_
  refine W_cond rfl (fun g2 => ?_) (fun g2 => ?_)
  ·have h2 := c_lss_t g2
   refine W_skip ?_
   refine thenK_n ?_
   refine W_seq ?_
   refine W_block ?_
   refine W_seq ?_
   refine W_seqK (b' := 51) rfl rfl ?_
   refine q0 15 19 1 rfl rfl (T_move rfl rfl) rfl ?_
   refine q0 5 35 2 rfl rfl (T_assign rfl rfl) rfl ?_
   refine k_done rfl ?_
   refine thenK_n ?_
   refine W_seq ?_
   refine W_anyK (b' := 195) rfl rfl rfl ?_
   refine q0 16 51 1 rfl rfl (T_move rfl rfl) rfl ?_
   refine q0 17 67 2 rfl rfl (T_move rfl rfl) rfl ?_
   first | refine q0 18 83 3 rfl rfl (T_indexAddr D rfl rfl rfl rfl rfl rfl rfl rfl (by first | assumption | omega | (simp; omega))) rfl ?_ | refine q0 18 83 3 rfl rfl (T_indexAddrZ D rfl rfl rfl rfl rfl rfl rfl rfl (by first | assumption | omega | (simp; omega)) (by first | assumption | omega | (simp; omega))) rfl ?_
   refine q0 19 99 4 rfl rfl (T_ldEA D (l := [.v _, .v _, .v _, .v _, .v _, .v _, .v _, .v _]) (nn := 0) (upd := []) rfl rfl rfl rfl rfl (by first | assumption | omega | (simp; omega)) rfl rfl rfl rfl rfl) rfl ?_
   refine q0 20 115 5 rfl rfl (T_move rfl rfl) rfl ?_
   refine q0 21 131 6 rfl rfl (T_move rfl rfl) rfl ?_
   first | refine q0 22 147 7 rfl rfl (T_indexAddr D rfl rfl rfl rfl rfl rfl rfl rfl (by first | assumption | omega | (simp; omega))) rfl ?_ | refine q0 22 147 7 rfl rfl (T_indexAddrZ D rfl rfl rfl rfl rfl rfl rfl rfl (by first | assumption | omega | (simp; omega)) (by first | assumption | omega | (simp; omega))) rfl ?_
   refine q0 23 163 8 rfl rfl (T_ldEA D (l := [.v _, .v _, .v _, .v _, .v _, .v _, .v _, .v _]) (nn := 0) (upd := []) rfl rfl rfl rfl rfl (by first | assumption | omega | (simp; omega)) rfl rfl rfl rfl rfl) rfl ?_
   refine q0 24 179 9 rfl rfl (T_eqTacN (a.getD j default) (b.getD j default) rfl rfl rfl) rfl ?_
   refine k_done rfl ?_
   refine ⟨rfl, ?_⟩
   refine thenK_n ?_
   refine W_cond rfl (fun g3 => ?_) (fun g3 => ?_)
   ·have h3 := g3; (try simp only [cmpB, decide_eq_true_eq, decide_eq_false_iff_not, beq_iff_eq, beq_eq_false_iff_ne, bne_iff_ne, ne_eq, bne_eq_false_iff_eq, Bool.not_eq_true', Bool.not_eq_false', Int.not_lt, Int.not_le] at h3)
    refine W_seq ?_
    refine W_seqK (b' := 211) rfl rfl ?_
    refine q0 4 195 1 rfl rfl (T_assign rfl rfl) rfl ?_
    refine k_done rfl ?_
    refine thenK_n ?_
    refine W_ret ?_
    refine blockK_r ?_
    refine thenK_r ?_
    refine thenK_r ?_
    refine blockK_r ?_
    refine thenK_r ?_
    exact .mk [] (.inr rfl) (.tmp rfl (.nil)) (by simp only [Value.bool.injEq, LV.v.injEq, resLV, LV.ren]; exact (decide_eq_false (ne_of_getD (by simpa using h3))).symm) (.nil) rfl
   ·have h3 := g3; (try simp only [cmpB, decide_eq_true_eq, decide_eq_false_iff_not, beq_iff_eq, beq_eq_false_iff_ne, bne_iff_ne, ne_eq, bne_eq_false_iff_eq, Bool.not_eq_true', Bool.not_eq_false', Int.not_lt, Int.not_le] at h3)
    refine W_skip ?_
    refine blockK_n ?_
    refine thenK_n ?_
    refine W_seqK (b' := 227) rfl rfl ?_
    refine q0 25 195 1 rfl rfl (T_add64 rfl rfl rfl (by first | assumption | omega | (simp; omega))) rfl ?_
    refine q0 13 211 2 rfl rfl (T_move rfl rfl) rfl ?_
    refine k_done rfl ?_
    refine thenK_n ?_
    refine ⟨j + 1, by (try dsimp only); exact ⟨by omega, fun i hi => by rcases Nat.lt_or_ge i j with h | h; exact hJ.2 i h; rw [show i = j by omega]; simpa using h3⟩, by (try dsimp only); omega, ?_⟩
    exact ⟨[], .same rfl rfl (.same rfl rfl (.eq rfl (.eq rfl (.nil) (by first | rfl | simp)) rfl)), .fzE rfl (.fzE rfl (.nil) rfl) rfl, rfl⟩
  ·have h2 := c_lss_f g2
   refine W_exit ?_
   refine thenK_e ?_
   refine thenK_e ?_
   refine blockK_hit ?_
   refine thenK_n ?_
   refine W_seq ?_
   refine W_seqK (b' := 35) rfl rfl ?_
   refine q0 4 19 1 rfl rfl (T_assign rfl rfl) rfl ?_
   refine k_done rfl ?_
   refine thenK_n ?_
   refine W_ret ?_
   exact .mk [] (.inr rfl) (.tmp rfl (.nil)) (by simp only [Value.bool.injEq, LV.v.injEq, resLV, LV.ren]; exact (decide_eq_true (ext_getD (by omega) (fun i hi => hJ.2 i (by omega)))).symm) (.nil) rfl
theorem body74 : (Try.prog.funcs[74]?).map (fun fn => (fn.name == "runtime.NumGoroutine" || fn.body.isNone)) = some false := by kernel_rfl
theorem check1_spec (k : Int) (f : GFn) : Spec Try.prog 74 [.v (.int .i64 k), .p 1 0] 3 [(1, .box 29 [.v (.int .i64 f.regs), .r 2]), (2, .fz 5 (f.blocks.map eBlock))] (.v (.bool (decide (k < 0) || decide (k ≥ (f.blocks.length : Int))))) 3 [(1, .box 29 [.v (.int .i64 f.regs), .r 2])] := by
 refine spec_of D (fn := Try.f74) rfl rfl (Nat.le_of_ble_eq_true rfl) ?_
 refine W_seq ?_
 refine W_seqK (b' := 19) rfl rfl ?_
 refine q0 3 3 1 rfl rfl (T_assign rfl rfl) rfl ?_
 refine k_done rfl ?_
 refine thenK_n ?_
 refine W_seq ?_
 refine W_seqK (b' := 179) rfl rfl ?_
 refine q0 4 19 1 rfl rfl (T_move rfl rfl) rfl ?_
 refine q0 5 35 2 rfl rfl (T_cmp rfl rfl rfl rfl) rfl ?_
 refine q0 6 51 3 rfl rfl (T_move rfl rfl) rfl ?_
 refine k_split (d := 6) rfl (fun g1 => ?_) (fun g1 => ?_)
 ·have h1 := c_lss_t g1
  refine k_no (d := 7) (j' := 4) rfl rfl rfl (g_ft rfl rfl rfl g1) ?_
  refine k_no (d := 8) (j' := 5) rfl rfl rfl (g_ft rfl rfl rfl g1) ?_
  refine k_no (d := 9) (j' := 6) rfl rfl rfl (g_ft rfl rfl rfl g1) ?_
  refine k_no (d := 10) (j' := 7) rfl rfl rfl (g_ft rfl rfl rfl g1) ?_
  refine k_no (d := 11) (j' := 8) rfl rfl rfl (g_ft rfl rfl rfl g1) ?_
  refine q0 12 147 9 rfl rfl (T_pick_t rfl rfl rfl g1) rfl ?_
  refine q0 3 163 10 rfl rfl (T_assign rfl rfl) rfl ?_
  refine k_done rfl ?_
  refine thenK_n ?_
  refine W_ret ?_
  exact .mk [] (.inr rfl) (.tmp rfl (.nil)) (by first | rfl | (simp only [resLV, LV.ren, LV.v.injEq, Value.bool.injEq]; rw [decide_eq_true (by omega)]; rfl)) (.box (by first | rfl | (simp only [resLV, LV.ren, LV.v.injEq, Value.bool.injEq]; rw [decide_eq_true (by omega)]; rfl)) (.nil)) rfl
 ·have h1 := c_lss_f g1
  refine k_op0 (d := 7) (b := 67) (j' := 4) rfl rfl rfl rfl (g_ff rfl rfl rfl g1) (T_move rfl rfl) rfl ?_
  refine k_op0 (d := 8) (b := 83) (j' := 5) rfl rfl rfl rfl (g_ff rfl rfl rfl g1) (T_fa D (m := 1) rfl rfl rfl rfl rfl rfl) rfl ?_
  refine k_op0 (d := 9) (b := 99) (j' := 6) rfl rfl rfl rfl (g_ff rfl rfl rfl g1) (T_load_b D rfl rfl rfl rfl rfl rfl) rfl ?_
  refine k_op0 (d := 10) (b := 115) (j' := 7) rfl rfl rfl rfl (g_ff rfl rfl rfl g1) (T_len D rfl rfl rfl rfl rfl rfl) rfl ?_
  refine k_op0 (d := 11) (b := 131) (j' := 8) rfl rfl rfl rfl (g_ff rfl rfl rfl g1) (T_cmp rfl rfl rfl rfl) rfl ?_
  refine q0 12 147 9 rfl rfl (T_pick_f rfl rfl rfl g1) rfl ?_
  refine q0 3 163 10 rfl rfl (T_assign rfl rfl) rfl ?_
  refine k_done rfl ?_
  refine thenK_n ?_
  refine W_ret ?_
  exact .mk [] (.inr rfl) (.tmp rfl (.nil)) (by first | rfl | (simp only [resLV, LV.ren, LV.v.injEq, Value.bool.injEq]; rw [decide_eq_false (p := k < 0) (by omega)]; rfl)) (.box (by first | rfl | (simp only [resLV, LV.ren, LV.v.injEq, Value.bool.injEq]; rw [decide_eq_false (p := k < 0) (by omega)]; rfl)) (.nil)) rfl
end Lg
end Go.Proofs.Ytpfhmodjjljpjaa

namespace Go.Proofs.Ytpfhmodjjljpjaa
open Go.RowKit
namespace Lg
set_option maxRecDepth 100000
set_option linter.unusedVariables false
set_option linter.unusedSimpArgs false
theorem body116 : (Try.prog.funcs[116]?).map (fun fn => (fn.name == "runtime.NumGoroutine" || fn.body.isNone)) = some false := by kernel_rfl
theorem idx_spec (p : List Int) (f : GFn) (hp : p.length ≤ 1000000000) : Spec Try.prog 116 [.r 1, .fn 74 [.p 2 0]] 4 [(1, .fz 1 (p.map eI)), (2, .box 29 [.v (.int .i64 f.regs), .r 3]), (3, .fz 5 (f.blocks.map eBlock))] (.v (.int .i64 (fstIdx (outside f) p))) 4 [(2, .box 29 [.v (.int .i64 f.regs), .r 3])] := by
 refine spec_of D (fn := Try.f116) rfl rfl (Nat.le_of_ble_eq_true rfl) ?_
 refine W_seq ?_
 refine W_seqK (b' := 20) rfl rfl ?_
 refine q0 4 4 1 rfl rfl (T_assign rfl rfl) rfl ?_
 refine k_done rfl ?_
 refine thenK_n ?_
 refine W_seq ?_
 refine W_seq ?_
 refine W_seqK (b' := 68) rfl rfl ?_
 refine q0 6 20 1 rfl rfl (T_move rfl rfl) rfl ?_
 refine q0 7 36 2 rfl rfl (T_len D rfl rfl rfl rfl rfl rfl) rfl ?_
 refine q0 8 52 3 rfl rfl (T_move rfl rfl) rfl ?_
 refine k_done rfl ?_
 refine thenK_n ?_
 refine W_block ?_
 refine W_loop (ι := Nat) 4 (fun j => ⟨[(0, .r 1), (1, .fn 74 [.p 2 0]), (7, .v (.int .i64 (p.length : Int))), (8, .v (.int .i64 (j : Int)))], [(1, .fz 1 (p.map eI)), (2, .box 29 [.v (.int .i64 f.regs), .r 3]), (3, .fz 5 (f.blocks.map eBlock))]⟩) (fun j => j ≤ p.length ∧ ∀ i, i < j → outside f (p.getD i default) = false) (fun j => p.length - j) (0) (by exact ⟨Nat.zero_le _, fun i h => absurd h (Nat.not_lt_zero _)⟩) ?_ (fun j hJ => ?_)
 ·exact ⟨[], .same rfl rfl (.same rfl rfl (.eq rfl (.eq rfl (.nil) (by first | rfl | simp)) (by first | rfl | simp))), .fzE rfl (.box (by first | rfl | simp) (.fzE rfl (.nil) (by first | rfl | simp))) (by first | rfl | simp), rfl⟩
 refine W_seq ?_
 refine W_seqK (b' := 20) rfl rfl ?_
 refine q0 9 4 1 rfl rfl (T_cmp rfl rfl rfl rfl) rfl ?_
 refine k_done rfl ?_
 refine thenK_n ?_
 refine W_seq ?_
 refine W_cond rfl (fun g1 => ?_) (fun g1 => ?_)
 ·have h1 := c_lss_t g1
  refine W_skip ?_
  refine thenK_n ?_
  refine W_seq ?_
  refine W_block ?_
  refine W_seq ?_
  refine W_seqK (b' := 52) rfl rfl ?_
  refine q0 10 20 1 rfl rfl (T_move rfl rfl) rfl ?_
  refine q0 5 36 2 rfl rfl (T_assign rfl rfl) rfl ?_
  refine k_done rfl ?_
  refine thenK_n ?_
  refine W_seq ?_
  refine W_seqK (b' := 148) rfl rfl ?_
  refine q0 11 52 1 rfl rfl (T_move rfl rfl) rfl ?_
  refine q0 12 68 2 rfl rfl (T_move rfl rfl) rfl ?_
  refine q0 13 84 3 rfl rfl (T_move rfl rfl) rfl ?_
  first | refine q0 14 100 4 rfl rfl (T_indexAddr D rfl rfl rfl rfl rfl rfl rfl rfl (by first | assumption | omega | (simp; omega))) rfl ?_ | refine q0 14 100 4 rfl rfl (T_indexAddrZ D rfl rfl rfl rfl rfl rfl rfl rfl (by first | assumption | omega | (simp; omega)) (by first | assumption | omega | (simp; omega))) rfl ?_
  refine q0 15 116 5 rfl rfl (T_ldE D (lv := .v _) (nn := 0) (upd := []) rfl rfl rfl rfl rfl (by first | assumption | omega | (simp; omega)) rfl rfl rfl rfl) rfl ?_
  refine q1 16 132 6 rfl rfl (T_call (lvs := [_]) (L := [(1, 2), (2, 3)]) (lv := .v _) (upd := [(2, .box 29 [.v _, .r 3])]) (nn := 0) false (check1_spec _ _) body74 rfl rfl rfl rfl (.box rfl (.fz rfl (.nil))) rfl (.inl rfl) rfl rfl rfl) rfl ?_
  refine k_done rfl ?_
  refine thenK_n ?_
  refine W_cond rfl (fun g2 => ?_) (fun g2 => ?_)
  ·have h2 := g2; (try simp only [cmpB, decide_eq_true_eq, decide_eq_false_iff_not, beq_iff_eq, beq_eq_false_iff_ne, bne_iff_ne, ne_eq, bne_eq_false_iff_eq, Bool.not_eq_true', Bool.not_eq_false', Int.not_lt, Int.not_le] at h2)
   refine W_seq ?_
   refine W_seqK (b' := 180) rfl rfl ?_
   refine q0 17 148 1 rfl rfl (T_move rfl rfl) rfl ?_
   refine q0 4 164 2 rfl rfl (T_assign rfl rfl) rfl ?_
   refine k_done rfl ?_
   refine thenK_n ?_
   refine W_ret ?_
   refine blockK_r ?_
   refine thenK_r ?_
   refine thenK_r ?_
   refine blockK_r ?_
   refine thenK_r ?_
   exact .mk [] (.inr rfl) (.tmp rfl (.nil)) (by first | rfl | (simp only [resLV, LV.ren, LV.v.injEq, Value.int.injEq, true_and]; exact (fstIdx_hit _ _ (by omega) g2 (fun i hi => hJ.2 i hi)).symm)) (.box (by first | rfl | (simp only [resLV, LV.ren, LV.v.injEq, Value.int.injEq, true_and]; exact (fstIdx_hit _ _ (by omega) g2 (fun i hi => hJ.2 i hi)).symm)) (.nil)) rfl
  ·have h2 := g2; (try simp only [cmpB, decide_eq_true_eq, decide_eq_false_iff_not, beq_iff_eq, beq_eq_false_iff_ne, bne_iff_ne, ne_eq, bne_eq_false_iff_eq, Bool.not_eq_true', Bool.not_eq_false', Int.not_lt, Int.not_le] at h2)
   refine W_skip ?_
   refine blockK_n ?_
   refine thenK_n ?_
   refine W_seqK (b' := 180) rfl rfl ?_
   refine q0 18 148 1 rfl rfl (T_add64 rfl rfl rfl (by first | assumption | omega | (simp; omega))) rfl ?_
   refine q0 8 164 2 rfl rfl (T_move rfl rfl) rfl ?_
   refine k_done rfl ?_
   refine thenK_n ?_
   refine ⟨j + 1, by (try dsimp only); exact ⟨by omega, fun i hi => by rcases Nat.lt_or_ge i j with h | h; exact hJ.2 i h; rw [show i = j by omega]; exact g2⟩, by (try dsimp only); omega, ?_⟩
   exact ⟨[], .same rfl rfl (.same rfl rfl (.eq rfl (.eq rfl (.nil) (by first | rfl | simp)) rfl)), .fzE rfl (.box (by first | rfl | simp) (.fzE rfl (.nil) rfl)) rfl, rfl⟩
 ·have h1 := c_lss_f g1
  refine W_exit ?_
  refine thenK_e ?_
  refine thenK_e ?_
  refine blockK_hit ?_
  refine thenK_n ?_
  refine W_seq ?_
  refine W_seqK (b' := 36) rfl rfl ?_
  refine q0 4 20 1 rfl rfl (T_assign rfl rfl) rfl ?_
  refine k_done rfl ?_
  refine thenK_n ?_
  refine W_ret ?_
  exact .mk [] (.inr rfl) (.tmp rfl (.nil)) (by first | rfl | (simp only [resLV, LV.ren, LV.v.injEq, Value.int.injEq, true_and]; exact (fstIdx_none _ _ (fun i hi => hJ.2 i (by omega))).symm)) (.box (by first | rfl | (simp only [resLV, LV.ren, LV.v.injEq, Value.int.injEq, true_and]; exact (fstIdx_none _ _ (fun i hi => hJ.2 i (by omega))).symm)) (.nil)) rfl
theorem body73 : (Try.prog.funcs[73]?).map (fun fn => (fn.name == "runtime.NumGoroutine" || fn.body.isNone)) = some false := by kernel_rfl
theorem contains_spec (p : List Int) (f : GFn) (hp : p.length ≤ 1000000000) : Spec Try.prog 73 [.r 1, .fn 74 [.p 2 0]] 4 [(1, .fz 1 (p.map eI)), (2, .box 29 [.v (.int .i64 f.regs), .r 3]), (3, .fz 5 (f.blocks.map eBlock))] (.v (.bool (p.any (outside f)))) 4 [(2, .box 29 [.v (.int .i64 f.regs), .r 3])] := by
 refine spec_of D (fn := Try.f73) rfl rfl (Nat.le_of_ble_eq_true rfl) ?_
 refine W_seq ?_
 refine W_seqK (b' := 20) rfl rfl ?_
 refine q0 4 4 1 rfl rfl (T_assign rfl rfl) rfl ?_
 refine k_done rfl ?_
 refine thenK_n ?_
 refine W_seq ?_
 refine W_seqK (b' := 100) rfl rfl ?_
 refine q0 5 20 1 rfl rfl (T_move rfl rfl) rfl ?_
 refine q0 6 36 2 rfl rfl (T_move rfl rfl) rfl ?_
 refine q1 7 52 3 rfl rfl (T_call (lvs := [_, _]) (L := [(1, 1), (2, 2), (3, 3)]) (lv := .v _) (upd := [(2, .box 29 [.v _, .r 3])]) (nn := 0) false (idx_spec _ _ (by omega)) body116 rfl rfl rfl rfl (.fz rfl (.box rfl (.fz rfl (.nil)))) rfl (.inl rfl) rfl rfl rfl) rfl ?_
 refine q0 8 68 4 rfl rfl (T_cmp rfl rfl rfl rfl) rfl ?_
 refine q0 4 84 5 rfl rfl (T_assign rfl rfl) rfl ?_
 refine k_done rfl ?_
 refine thenK_n ?_
 refine W_ret ?_
 exact .mk [] (.inr rfl) (.tmp rfl (.nil)) (by first | rfl | (simp only [resLV, LV.ren, LV.v.injEq, Value.bool.injEq, cmpB]; exact fstIdx_any _ _)) (.box (by first | rfl | (simp only [resLV, LV.ren, LV.v.injEq, Value.bool.injEq, cmpB]; exact fstIdx_any _ _)) (.nil)) rfl
theorem body70 : (Try.prog.funcs[70]?).map (fun fn => (fn.name == "runtime.NumGoroutine" || fn.body.isNone)) = some false := by kernel_rfl
theorem instrs_spec (f : GFn) (p : List Int) (hp : p.length ≤ 1000000000 ∧ ∀ i, i < p.length → 0 ≤ p.getD i default ∧ p.getD i default < (f.blocks.length : Int)) (hb : ∀ j, (instrs f (p.take j)).length ≤ 1000000000) : Spec Try.prog 70 [.agg [.v (.int .i64 f.regs), .r 1], .r 2] 3 [(1, .fz 5 (f.blocks.map eBlock)), (2, .fz 1 (p.map eI))] (.r 3) 4 [(3, .fz 8 ((instrs f p).map eTac))] := by
 refine spec_of D (fn := Try.f70) rfl rfl (Nat.le_of_ble_eq_true rfl) ?_
 refine W_seq ?_
 refine W_seqK (b' := 35) rfl rfl ?_
 refine q1 2 3 1 rfl rfl (T_box rfl rfl flat_agg) rfl ?_
 refine q1 4 19 2 rfl rfl (T_nils [(70, 8)] (T_assign rfl rfl) rfl (.inr ⟨rfl, rfl⟩) (.cons (.nil rfl) .nil) (lv' := .r 19) (upd' := [(19, .row 70 8 (List.map eTac ([] : List (GTac))))]) (nn' := 1) rfl rfl) rfl ?_
 refine k_done rfl ?_
 refine thenK_n ?_
 refine W_seq ?_
 refine W_seqK (b' := 51) rfl rfl ?_
 refine q1 5 35 1 rfl rfl (T_nils [(70, 8)] (T_assign rfl rfl) rfl (.inr ⟨rfl, rfl⟩) (.cons (.nil rfl) .nil) (lv' := .r 35) (upd' := [(35, .row 70 8 (List.map eTac ([] : List (GTac))))]) (nn' := 1) rfl rfl) rfl ?_
 refine k_done rfl ?_
 refine thenK_n ?_
 refine W_seq ?_
 refine W_seq ?_
 refine W_seqK (b' := 99) rfl rfl ?_
 refine q0 8 51 1 rfl rfl (T_move rfl rfl) rfl ?_
 refine q0 9 67 2 rfl rfl (T_len D rfl rfl rfl rfl rfl rfl) rfl ?_
 refine q0 10 83 3 rfl rfl (T_move rfl rfl) rfl ?_
 refine k_done rfl ?_
 refine thenK_n ?_
 refine W_block ?_
 refine W_loop (ι := Nat) 5 (fun j => ⟨[(2, .p 3 0), (5, .r 4), (8, .r 2), (9, .v (.int .i64 (p.length : Int))), (10, .v (.int .i64 (j : Int)))], [(1, .fz 5 (f.blocks.map eBlock)), (2, .fz 1 (p.map eI)), (3, .box 29 [.v (.int .i64 f.regs), .r 1]), (4, .row 70 8 ((instrs f (p.take j)).map eTac))]⟩) (fun j => j ≤ p.length) (fun j => p.length - j) (0) (by exact Nat.zero_le _) ?_ (fun j hJ => ?_)
 ·exact ⟨[(3, 3), (4, 35)], .same rfl rfl (.same rfl rfl (.same rfl rfl (.eq rfl (.eq rfl (.nil) (by first | rfl | simp)) (by first | rfl | simp)))), .fzE rfl (.fzE rfl (.box (by first | rfl | simp) (.rowE rfl (.nil) (by first | rfl | simp))) (by first | rfl | simp)) (by first | rfl | simp), rfl⟩
 have hq := hb (j + 1)
 have hq2 : j < p.length → instrs f (p.take (j + 1)) = instrs f (p.take j) ++ (f.blocks.getD (p.getD j default).toNat default).ins := fun h => instrs_take f p j h
 have hq3 := fun h => congrArg List.length (hq2 h)
 simp only [List.length_append] at hq3
 have hq4 := hp.2 j
 refine W_seq ?_
 refine W_seqK (b' := 21) rfl rfl ?_
 refine q0 11 5 1 rfl rfl (T_cmp rfl rfl rfl rfl) rfl ?_
 refine k_done rfl ?_
 refine thenK_n ?_
 refine W_seq ?_
 refine W_cond rfl (fun g1 => ?_) (fun g1 => ?_)
 ·have h1 := c_lss_t g1
  refine W_skip ?_
  refine thenK_n ?_
  refine W_seq ?_
  refine W_block ?_
  refine W_seq ?_
  refine W_seqK (b' := 69) rfl rfl ?_
  first | refine q0 12 21 1 rfl rfl (T_indexAddr D rfl rfl rfl rfl rfl rfl rfl rfl (by first | assumption | omega | (have k1 := hq4 (by omega); have k2 := hq3 (by omega); omega))) rfl ?_ | refine q0 12 21 1 rfl rfl (T_indexAddrZ D rfl rfl rfl rfl rfl rfl rfl rfl (by first | assumption | omega | (have k1 := hq4 (by omega); have k2 := hq3 (by omega); omega)) (by first | assumption | omega | (have k1 := hq4 (by omega); have k2 := hq3 (by omega); omega))) rfl ?_
  refine q0 13 37 2 rfl rfl (T_ldE D (lv := .v _) (nn := 0) (upd := []) rfl rfl rfl rfl rfl (by first | assumption | omega | (have k1 := hq4 (by omega); have k2 := hq3 (by omega); omega)) rfl rfl rfl rfl) rfl ?_
  refine q0 7 53 3 rfl rfl (T_assign rfl rfl) rfl ?_
  refine k_done rfl ?_
  refine thenK_n ?_
  refine W_seqK (b' := 213) rfl rfl ?_
  refine q0 14 69 1 rfl rfl (T_move rfl rfl) rfl ?_
  refine q0 15 85 2 rfl rfl (T_fa D (m := 1) rfl rfl rfl rfl rfl rfl) rfl ?_
  refine q0 16 101 3 rfl rfl (T_load_b D rfl rfl rfl rfl rfl rfl) rfl ?_
  refine q0 17 117 4 rfl rfl (T_move rfl rfl) rfl ?_
  first | refine q0 18 133 5 rfl rfl (T_indexAddr D rfl rfl rfl rfl rfl rfl rfl rfl (by first | assumption | omega | (have k1 := hq4 (by omega); have k2 := hq3 (by omega); omega))) rfl ?_ | refine q0 18 133 5 rfl rfl (T_indexAddrZ D rfl rfl rfl rfl rfl rfl rfl rfl (by first | assumption | omega | (have k1 := hq4 (by omega); have k2 := hq3 (by omega); omega)) (by first | assumption | omega | (have k1 := hq4 (by omega); have k2 := hq3 (by omega); omega))) rfl ?_
  refine q0 19 149 6 rfl rfl (T_fae D (m := 0) rfl rfl rfl rfl rfl rfl) rfl ?_
  refine q1 20 165 7 rfl rfl (T_ldE D (lv := .r 165) (nn := 1) (upd := [(165, .fz 8 _)]) rfl rfl rfl rfl rfl (by first | assumption | omega | (have k1 := hq4 (by omega); have k2 := hq3 (by omega); omega)) rfl rfl rfl rfl) rfl ?_
  refine qn 21 181 8 rfl rfl (T_append D rfl rfl rfl rfl rfl rfl rfl rfl rfl rfl rfl rfl (by (try simp only [ty70]); first | assumption | omega | (have k1 := hq4 (by omega); have k2 := hq3 (by omega); omega)) (by (try simp only [ty70]); first | assumption | omega | (have k1 := hq4 (by omega); have k2 := hq3 (by omega); omega))) rfl ?_
  refine q0 5 197 9 rfl rfl (T_assign rfl rfl) rfl ?_
  refine k_done rfl ?_
  refine blockK_n ?_
  refine thenK_n ?_
  refine W_seqK (b' := 245) rfl rfl ?_
  refine q0 22 213 1 rfl rfl (T_add64 rfl rfl rfl (by first | assumption | omega | (have k1 := hq4 (by omega); have k2 := hq3 (by omega); omega))) rfl ?_
  refine q0 10 229 2 rfl rfl (T_move rfl rfl) rfl ?_
  refine k_done rfl ?_
  refine thenK_n ?_
  refine ⟨j + 1, by (try dsimp only); omega, by (try dsimp only); omega, ?_⟩
  exact ⟨[(3, 3), (4, 181)], .same rfl rfl (.same rfl rfl (.same rfl rfl (.eq rfl (.eq rfl (.nil) (by first | rfl | (rw [hq2 (by omega)]) | simp)) rfl))), .fzE rfl (.fzE rfl (.box (by first | rfl | (rw [hq2 (by omega)]) | simp) (.rowE rfl (.nil) (by first | rfl | (rw [hq2 (by omega)]) | simp))) rfl) rfl, rfl⟩
 ·have h1 := c_lss_f g1
  refine W_exit ?_
  refine thenK_e ?_
  refine thenK_e ?_
  refine blockK_hit ?_
  refine thenK_n ?_
  refine W_seq ?_
  refine W_seqK (b' := 133) rfl rfl ?_
  refine q0 23 21 1 rfl rfl (T_move rfl rfl) rfl ?_
  refine q0 24 37 2 rfl rfl (T_move rfl rfl) rfl ?_
  refine q0 25 53 3 rfl rfl (T_len D rfl rfl rfl rfl rfl rfl) rfl ?_
  refine q0 26 69 4 rfl rfl (T_move rfl rfl) rfl ?_
  refine q0 27 85 5 rfl rfl (T_len D rfl rfl rfl rfl rfl rfl) rfl ?_
  refine qn 28 101 6 rfl rfl (T_slR D (vl := none) (vh := some _) (vm := some _) (l := 0) (h := _) rfl rfl rfl rfl rfl rfl rfl rfl rfl rfl (by first | assumption | omega | (have k1 := hq4 (by omega); have k2 := hq3 (by omega); omega)) (by first | assumption | omega | (have k1 := hq4 (by omega); have k2 := hq3 (by omega); omega)) (slb_hm (by first | assumption | omega | (have k1 := hq4 (by omega); have k2 := hq3 (by omega); omega)) (by first | assumption | omega | (have k1 := hq4 (by omega); have k2 := hq3 (by omega); omega)))) rfl ?_
  refine q0 4 117 7 rfl rfl (T_assign rfl rfl) rfl ?_
  refine k_done rfl ?_
  refine thenK_n ?_
  refine W_ret ?_
  exact .mk [(3, 101)] (.inr rfl) (.tmp rfl (.nil)) rfl (.fzE rfl (.nil) (by first | rfl | (have e : j = p.length := (by omega); subst e; simp [sub]))) rfl
end Lg
end Go.Proofs.Ytpfhmodjjljpjaa

namespace Go.Proofs.Ytpfhmodjjljpjaa
open Go.RowKit
namespace Lg
set_option maxRecDepth 100000
set_option linter.unusedVariables false
set_option linter.unusedSimpArgs false
theorem body75 : (Try.prog.funcs[75]?).map (fun fn => (fn.name == "runtime.NumGoroutine" || fn.body.isNone)) = some false := by kernel_rfl
theorem made_spec (f : GFn) (b : GBlock) (p : List Int) (ps : List (List Int)) (hbi : b.ins.length ≤ 1000000) (h0 : 1 ≤ p.length) (hp : p.length ≤ 1000000000 ∧ ∀ i, i < p.length → 0 ≤ p.getD i default ∧ p.getD i default < (f.blocks.length : Int)) (hb : ∀ j, (instrs f (p.take j)).length ≤ 1000000000) (hps : ∀ q ∈ ps, 0 < q.length) : Spec Try.prog 75 [.agg [.v (.int .i64 f.regs), .r 1], .agg [.r 2, .v (.int .i64 b.fin), .v (.int .i64 b.v), .v (.int .i64 b.to), .v (.int .i64 b.els)], .r 3, .r 4] 5 [(1, .fz 5 (f.blocks.map eBlock)), (2, .fz 8 (b.ins.map eTac)), (3, .fz 1 (p.map eI)), (4, .fz 1 (ps.map eIs))] (.v (.bool (made f b p ps))) 5 [] := by
 refine spec_of D (fn := Try.f75) rfl rfl (Nat.le_of_ble_eq_true rfl) ?_
 refine W_seq ?_
 refine W_seqK (b' := 53) rfl rfl ?_
 refine q1 4 5 1 rfl rfl (T_box rfl rfl flat_agg) rfl ?_
 refine q1 5 21 2 rfl rfl (T_box rfl rfl flat_agg) rfl ?_
 refine q0 8 37 3 rfl rfl (T_assign rfl rfl) rfl ?_
 refine k_done rfl ?_
 refine thenK_n ?_
 refine W_seq ?_
 refine W_seq ?_
 refine W_seqK (b' := 117) rfl rfl ?_
 refine q0 13 53 1 rfl rfl (T_move rfl rfl) rfl ?_
 refine q1 14 69 2 rfl rfl (T_slF D (vl := some _) (vh := none) (vm := none) (l := 1) rfl rfl rfl rfl rfl rfl rfl rfl rfl rfl (by first | assumption | omega | (have k1 := hq4 (by omega); omega) | (have k1 := hp.2 ((p.length : Int) - 1).toNat (by omega); omega)) (by first | assumption | omega | (have k1 := hq4 (by omega); omega) | (have k1 := hp.2 ((p.length : Int) - 1).toNat (by omega); omega)) (slb_l (by first | assumption | omega | (have k1 := hq4 (by omega); omega) | (have k1 := hp.2 ((p.length : Int) - 1).toNat (by omega); omega)))) rfl ?_
 refine q0 15 85 3 rfl rfl (T_len D rfl rfl rfl rfl rfl rfl) rfl ?_
 refine q0 16 101 4 rfl rfl (T_move rfl rfl) rfl ?_
 refine k_done rfl ?_
 refine thenK_n ?_
 refine W_block ?_
 refine W_loop (ι := Nat) 8 (fun j => ⟨[(2, .r 3), (3, .r 4), (4, .p 5 0), (5, .p 6 0), (14, .r 7), (15, .v (.int .i64 ((sub p 1 p.length).length : Int))), (16, .v (.int .i64 (j : Int)))], [(1, .fz 5 (f.blocks.map eBlock)), (2, .fz 8 (b.ins.map eTac)), (3, .fz 1 (p.map eI)), (4, .fz 1 (ps.map eIs)), (5, .box 29 [.v (.int .i64 f.regs), .r 1]), (6, .box 72 [.r 2, .v (.int .i64 b.fin), .v (.int .i64 b.v), .v (.int .i64 b.to), .v (.int .i64 b.els)]), (7, .fz 1 ((sub p 1 p.length).map eI))]⟩) (fun j => j ≤ p.length - 1 ∧ ∀ i, i < j → link f p i = true) (fun j => p.length - 1 - j) (0) (by exact ⟨Nat.zero_le _, fun i h => absurd h (Nat.not_lt_zero _)⟩) ?_ (fun j hJ => ?_)
 ·exact ⟨[(5, 5), (6, 21), (7, 69)], .same rfl rfl (.same rfl rfl (.same rfl rfl (.same rfl rfl (.same rfl rfl (.eq rfl (.eq rfl (.nil) (by first | rfl | simp)) (by first | rfl | simp)))))), .fzE rfl (.fzE rfl (.fzE rfl (.fzE rfl (.box (by first | rfl | simp) (.box (by first | rfl | simp) (.fzE rfl (.nil) (by first | rfl | simp)))) (by first | rfl | simp)) (by first | rfl | simp)) (by first | rfl | simp)) (by first | rfl | simp), rfl⟩
 have hs1 := sub1_length h0
 have hq4 := hp.2 j
 refine W_seq ?_
 refine W_seqK (b' := 24) rfl rfl ?_
 refine q0 17 8 1 rfl rfl (T_cmp rfl rfl rfl rfl) rfl ?_
 refine k_done rfl ?_
 refine thenK_n ?_
 refine W_seq ?_
 refine W_cond rfl (fun g1 => ?_) (fun g1 => ?_)
 ·have h1 := c_lss_t g1
  refine W_skip ?_
  refine thenK_n ?_
  refine W_seq ?_
  refine W_block ?_
  refine W_seq ?_
  refine W_seqK (b' := 104) rfl rfl ?_
  refine q0 18 24 1 rfl rfl (T_move rfl rfl) rfl ?_
  first | refine q0 19 40 2 rfl rfl (T_indexAddr D rfl rfl rfl rfl rfl rfl rfl rfl (by first | assumption | omega | (have k1 := hq4 (by omega); omega) | (have k1 := hp.2 ((p.length : Int) - 1).toNat (by omega); omega))) rfl ?_ | refine q0 19 40 2 rfl rfl (T_indexAddrZ D rfl rfl rfl rfl rfl rfl rfl rfl (by first | assumption | omega | (have k1 := hq4 (by omega); omega) | (have k1 := hp.2 ((p.length : Int) - 1).toNat (by omega); omega)) (by first | assumption | omega | (have k1 := hq4 (by omega); omega) | (have k1 := hp.2 ((p.length : Int) - 1).toNat (by omega); omega))) rfl ?_
  refine q0 20 56 3 rfl rfl (T_ldE D (lv := .v _) (nn := 0) (upd := []) rfl rfl rfl rfl rfl (by first | assumption | omega | (have k1 := hq4 (by omega); omega) | (have k1 := hp.2 ((p.length : Int) - 1).toNat (by omega); omega)) rfl rfl rfl rfl) rfl ?_
  refine q0 9 72 4 rfl rfl (T_assign rfl rfl) rfl ?_
  refine q0 10 88 5 rfl rfl (T_assign rfl rfl) rfl ?_
  refine k_done rfl ?_
  refine thenK_n ?_
  refine W_seq ?_
  refine W_anyK (b' := 264) rfl rfl rfl ?_
  refine q0 21 104 1 rfl rfl (T_fa D (m := 1) rfl rfl rfl rfl rfl rfl) rfl ?_
  refine q0 22 120 2 rfl rfl (T_load_b D rfl rfl rfl rfl rfl rfl) rfl ?_
  refine q0 23 136 3 rfl rfl (T_move rfl rfl) rfl ?_
  refine q0 24 152 4 rfl rfl (T_move rfl rfl) rfl ?_
  first | refine q0 25 168 5 rfl rfl (T_indexAddr D rfl rfl rfl rfl rfl rfl rfl rfl (by first | assumption | omega | (have k1 := hq4 (by omega); omega) | (have k1 := hp.2 ((p.length : Int) - 1).toNat (by omega); omega))) rfl ?_ | refine q0 25 168 5 rfl rfl (T_indexAddrZ D rfl rfl rfl rfl rfl rfl rfl rfl (by first | assumption | omega | (have k1 := hq4 (by omega); omega) | (have k1 := hp.2 ((p.length : Int) - 1).toNat (by omega); omega)) (by first | assumption | omega | (have k1 := hq4 (by omega); omega) | (have k1 := hp.2 ((p.length : Int) - 1).toNat (by omega); omega))) rfl ?_
  refine q0 26 184 6 rfl rfl (T_ldE D (lv := .v _) (nn := 0) (upd := []) rfl rfl rfl rfl rfl (by first | assumption | omega | (have k1 := hq4 (by omega); omega) | (have k1 := hp.2 ((p.length : Int) - 1).toNat (by omega); omega)) rfl rfl rfl rfl) rfl ?_
  first | refine q0 27 200 7 rfl rfl (T_indexAddr D rfl rfl rfl rfl rfl rfl rfl rfl (by first | assumption | omega | (have k1 := hq4 (by omega); omega) | (have k1 := hp.2 ((p.length : Int) - 1).toNat (by omega); omega))) rfl ?_ | refine q0 27 200 7 rfl rfl (T_indexAddrZ D rfl rfl rfl rfl rfl rfl rfl rfl (by first | assumption | omega | (have k1 := hq4 (by omega); omega) | (have k1 := hp.2 ((p.length : Int) - 1).toNat (by omega); omega)) (by first | assumption | omega | (have k1 := hq4 (by omega); omega) | (have k1 := hp.2 ((p.length : Int) - 1).toNat (by omega); omega))) rfl ?_
  refine q1 28 216 8 rfl rfl (T_ldEA D (l := [.r 216, .v _, .v _, .v _, .v _]) (nn := 1) (upd := [(216, .fz 8 _)]) rfl rfl rfl rfl rfl (by first | assumption | omega | (have k1 := hq4 (by omega); omega) | (have k1 := hp.2 ((p.length : Int) - 1).toNat (by omega); omega)) rfl rfl rfl rfl rfl) rfl ?_
  refine qn 11 232 9 rfl rfl (T_nilbox [(70, 8)] (T_alloc D rfl rfl rfl) rfl (.cons (.nil rfl) <| .cons (.same _) <| .cons (.same _) <| .cons (.same _) <| .cons (.same _) <| .nil) (upd' := [(232, .box 72 [.r 233, .v (.int .i64 0), .v (.int .i64 0), .v (.int .i64 0), .v (.int .i64 0)]), (233, .row 70 8 (List.map eTac ([] : List (GTac))))]) (nn' := 2) rfl rfl) rfl ?_
  refine s1 248 10 rfl rfl (T_stB D (cs' := [_, _, _, _, _]) rfl rfl rfl rfl flat_agg rfl rfl (Nat.le_of_ble_eq_true rfl) rfl) rfl ?_
  refine k_done rfl ?_
  refine ⟨rfl, ?_⟩
  refine thenK_n ?_
  refine W_seq ?_
  refine W_seqK (b' := 408) rfl rfl ?_
  refine q0 29 264 1 rfl rfl (T_fa D (m := 1) rfl rfl rfl rfl rfl rfl) rfl ?_
  refine q0 30 280 2 rfl rfl (T_load_b D rfl rfl rfl rfl rfl rfl) rfl ?_
  refine q0 31 296 3 rfl rfl (T_cmp rfl rfl rfl rfl) rfl ?_
  refine q0 32 312 4 rfl rfl (T_move rfl rfl) rfl ?_
  refine k_split (d := 32) rfl (fun g2 => ?_) (fun g2 => ?_)
  ·have h2 := c_neq_t g2
   refine k_no (d := 33) (j' := 5) rfl rfl rfl (g_ft rfl rfl rfl g2) ?_
   refine k_no (d := 34) (j' := 6) rfl rfl rfl (g_ft rfl rfl rfl g2) ?_
   refine k_no (d := 35) (j' := 7) rfl rfl rfl (g_ft rfl rfl rfl g2) ?_
   refine k_no (d := 36) (j' := 8) rfl rfl rfl (g_ft rfl rfl rfl g2) ?_
   refine q0 37 392 9 rfl rfl (T_pick_t rfl rfl rfl g2) rfl ?_
   refine k_done rfl ?_
   refine thenK_n ?_
   refine W_cond rfl (fun g3 => ?_) (fun g3 => ?_)
   ·skip
    refine W_seq ?_
    refine W_seqK (b' := 424) rfl rfl ?_
    refine q0 8 408 1 rfl rfl (T_assign rfl rfl) rfl ?_
    refine k_done rfl ?_
    refine thenK_n ?_
    refine W_ret ?_
    refine blockK_r ?_
    refine thenK_r ?_
    refine thenK_r ?_
    refine blockK_r ?_
    refine thenK_r ?_
    exact .mk [] (.inr rfl) (.tmp rfl (.nil)) (by simp only [resLV, LV.ren, LV.v.injEq, Value.bool.injEq]; exact (made_f (i := j) (by omega) (by unfold link blk; simp [-List.getD_eq_getElem?_getD, -Int.default_eq_zero, h2])).symm) (.nil) rfl
   ·exact absurd (g3.symm.trans rfl) (by decide)
  ·have h2 := c_neq_f g2
   refine k_op0 (d := 33) (b := 328) (j' := 5) rfl rfl rfl rfl (g_ff rfl rfl rfl g2) (T_fa D (m := 3) rfl rfl rfl rfl rfl rfl) rfl ?_
   refine k_op0 (d := 34) (b := 344) (j' := 6) rfl rfl rfl rfl (g_ff rfl rfl rfl g2) (T_load_b D rfl rfl rfl rfl rfl rfl) rfl ?_
   refine k_op0 (d := 35) (b := 360) (j' := 7) rfl rfl rfl rfl (g_ff rfl rfl rfl g2) (T_move rfl rfl) rfl ?_
   refine k_op0 (d := 36) (b := 376) (j' := 8) rfl rfl rfl rfl (g_ff rfl rfl rfl g2) (T_cmp rfl rfl rfl rfl) rfl ?_
   refine q0 37 392 9 rfl rfl (T_pick_f rfl rfl rfl g2) rfl ?_
   refine k_done rfl ?_
   refine thenK_n ?_
   refine W_cond rfl (fun g4 => ?_) (fun g4 => ?_)
   ·have h4 := c_neq_t g4
    refine W_seq ?_
    refine W_seqK (b' := 424) rfl rfl ?_
    refine q0 8 408 1 rfl rfl (T_assign rfl rfl) rfl ?_
    refine k_done rfl ?_
    refine thenK_n ?_
    refine W_ret ?_
    refine blockK_r ?_
    refine thenK_r ?_
    refine thenK_r ?_
    refine blockK_r ?_
    refine thenK_r ?_
    exact .mk [] (.inr rfl) (.tmp rfl (.nil)) (by simp only [resLV, LV.ren, LV.v.injEq, Value.bool.injEq]; exact (made_f (i := j) (by omega) (by rw [sub_getD (by omega), Nat.add_comm] at h4; unfold link blk; simp [-List.getD_eq_getElem?_getD, -Int.default_eq_zero, h4])).symm) (.nil) rfl
   ·have h4 := c_neq_f g4
    refine W_skip ?_
    refine blockK_n ?_
    refine thenK_n ?_
    refine W_seqK (b' := 440) rfl rfl ?_
    refine q0 38 408 1 rfl rfl (T_add64 rfl rfl rfl (by first | assumption | omega | (have k1 := hq4 (by omega); omega) | (have k1 := hp.2 ((p.length : Int) - 1).toNat (by omega); omega))) rfl ?_
    refine q0 16 424 2 rfl rfl (T_move rfl rfl) rfl ?_
    refine k_done rfl ?_
    refine thenK_n ?_
    refine ⟨j + 1, by (try dsimp only); exact ⟨by omega, fun i hi => by rcases Nat.lt_or_ge i j with h | h; exact hJ.2 i h; rw [show i = j by omega]; unfold link blk; rw [sub_getD (by omega), Nat.add_comm] at h4; simp [-List.getD_eq_getElem?_getD, -Int.default_eq_zero, h2, h4]⟩, by (try dsimp only); omega, ?_⟩
    exact ⟨[(5, 5), (6, 6), (7, 7)], .same rfl rfl (.same rfl rfl (.same rfl rfl (.same rfl rfl (.same rfl rfl (.eq rfl (.eq rfl (.nil) (by first | rfl | simp)) rfl))))), .fzE rfl (.fzE rfl (.fzE rfl (.fzE rfl (.box (by first | rfl | simp) (.box (by first | rfl | simp) (.fzE rfl (.nil) rfl))) rfl) rfl) rfl) rfl, rfl⟩
 ·have h1 := c_lss_f g1
  refine W_exit ?_
  refine thenK_e ?_
  refine thenK_e ?_
  refine blockK_hit ?_
  refine thenK_n ?_
  refine W_seq ?_
  refine W_anyK (b' := 216) rfl rfl rfl ?_
  refine q0 39 24 1 rfl rfl (T_fa D (m := 1) rfl rfl rfl rfl rfl rfl) rfl ?_
  refine q0 40 40 2 rfl rfl (T_load_b D rfl rfl rfl rfl rfl rfl) rfl ?_
  refine q0 41 56 3 rfl rfl (T_move rfl rfl) rfl ?_
  refine q0 42 72 4 rfl rfl (T_move rfl rfl) rfl ?_
  refine q0 43 88 5 rfl rfl (T_len D rfl rfl rfl rfl rfl rfl) rfl ?_
  refine q0 44 104 6 rfl rfl (T_sub64 rfl rfl rfl (by first | assumption | omega | (have k1 := hq4 (by omega); omega) | (have k1 := hp.2 ((p.length : Int) - 1).toNat (by omega); omega))) rfl ?_
  first | refine q0 45 120 7 rfl rfl (T_indexAddr D rfl rfl rfl rfl rfl rfl rfl rfl (by first | assumption | omega | (have k1 := hq4 (by omega); omega) | (have k1 := hp.2 ((p.length : Int) - 1).toNat (by omega); omega))) rfl ?_ | refine q0 45 120 7 rfl rfl (T_indexAddrZ D rfl rfl rfl rfl rfl rfl rfl rfl (by first | assumption | omega | (have k1 := hq4 (by omega); omega) | (have k1 := hp.2 ((p.length : Int) - 1).toNat (by omega); omega)) (by first | assumption | omega | (have k1 := hq4 (by omega); omega) | (have k1 := hp.2 ((p.length : Int) - 1).toNat (by omega); omega))) rfl ?_
  refine q0 46 136 8 rfl rfl (T_ldE D (lv := .v _) (nn := 0) (upd := []) rfl rfl rfl rfl rfl (by first | assumption | omega | (have k1 := hq4 (by omega); omega) | (have k1 := hp.2 ((p.length : Int) - 1).toNat (by omega); omega)) rfl rfl rfl rfl) rfl ?_
  first | refine q0 47 152 9 rfl rfl (T_indexAddr D rfl rfl rfl rfl rfl rfl rfl rfl (by first | assumption | omega | (have k1 := hq4 (by omega); omega) | (have k1 := hp.2 ((p.length : Int) - 1).toNat (by omega); omega))) rfl ?_ | refine q0 47 152 9 rfl rfl (T_indexAddrZ D rfl rfl rfl rfl rfl rfl rfl rfl (by first | assumption | omega | (have k1 := hq4 (by omega); omega) | (have k1 := hp.2 ((p.length : Int) - 1).toNat (by omega); omega)) (by first | assumption | omega | (have k1 := hq4 (by omega); omega) | (have k1 := hp.2 ((p.length : Int) - 1).toNat (by omega); omega))) rfl ?_
  refine q1 48 168 10 rfl rfl (T_ldEA D (l := [.r 168, .v _, .v _, .v _, .v _]) (nn := 1) (upd := [(168, .fz 8 _)]) rfl rfl rfl rfl rfl (by first | assumption | omega | (have k1 := hq4 (by omega); omega) | (have k1 := hp.2 ((p.length : Int) - 1).toNat (by omega); omega)) rfl rfl rfl rfl rfl) rfl ?_
  refine qn 12 184 11 rfl rfl (T_nilbox [(70, 8)] (T_alloc D rfl rfl rfl) rfl (.cons (.nil rfl) <| .cons (.same _) <| .cons (.same _) <| .cons (.same _) <| .cons (.same _) <| .nil) (upd' := [(184, .box 72 [.r 185, .v (.int .i64 0), .v (.int .i64 0), .v (.int .i64 0), .v (.int .i64 0)]), (185, .row 70 8 (List.map eTac ([] : List (GTac))))]) (nn' := 2) rfl rfl) rfl ?_
  refine s1 200 12 rfl rfl (T_stB D (cs' := [_, _, _, _, _]) rfl rfl rfl rfl flat_agg rfl rfl (Nat.le_of_ble_eq_true rfl) rfl) rfl ?_
  refine k_done rfl ?_
  refine ⟨rfl, ?_⟩
  refine thenK_n ?_
  refine W_seq ?_
  refine W_seq ?_
  refine W_anyK (b' := 552) rfl rfl rfl ?_
  refine q0 49 216 1 rfl rfl (T_fa D (m := 0) rfl rfl rfl rfl rfl rfl) rfl ?_
  refine q0 50 232 2 rfl rfl (T_load_b D rfl rfl rfl rfl rfl rfl) rfl ?_
  refine q0 51 248 3 rfl rfl (T_load_bA D (l := [_, _]) rfl rfl rfl rfl rfl rfl rfl) rfl ?_
  refine q0 52 264 4 rfl rfl (T_move rfl rfl) rfl ?_
  refine q1 53 280 5 rfl rfl (T_call (lvs := [_, _]) (L := [(1, 1), (2, 3)]) (lv := .r 280) (upd := [(280, .fz 8 _)]) (nn := 1) false (instrs_spec _ _ (by assumption) (by assumption)) body70 rfl rfl rfl rfl (.fz rfl (.fz rfl (.nil))) rfl (.inl rfl) rfl rfl rfl) rfl ?_
  refine q0 54 296 6 rfl rfl (T_callV (lvs := [_, _]) (L := [(1, 2), (2, 280)]) (equal_spec _ _ hbi) body117 rfl rfl rfl rfl (.fz rfl (.fz rfl (.nil))) rfl) rfl ?_
  refine q0 55 312 7 rfl rfl (T_not rfl rfl) rfl ?_
  refine q0 56 328 8 rfl rfl (T_move rfl rfl) rfl ?_
  refine k_split (d := 56) rfl (fun g5 => ?_) (fun g5 => ?_)
  ·have h5 := g5; (try simp only [cmpB, decide_eq_true_eq, decide_eq_false_iff_not, beq_iff_eq, beq_eq_false_iff_ne, bne_iff_ne, ne_eq, bne_eq_false_iff_eq, Bool.not_eq_true', Bool.not_eq_false', Int.not_lt, Int.not_le] at h5)
   refine k_no (d := 57) (j' := 9) rfl rfl rfl (g_ft rfl rfl rfl g5) ?_
   refine k_no (d := 58) (j' := 10) rfl rfl rfl (g_ft rfl rfl rfl g5) ?_
   refine k_no (d := 59) (j' := 11) rfl rfl rfl (g_ft rfl rfl rfl g5) ?_
   refine k_no (d := 60) (j' := 12) rfl rfl rfl (g_ft rfl rfl rfl g5) ?_
   refine k_no (d := 61) (j' := 13) rfl rfl rfl (g_ft rfl rfl rfl g5) ?_
   refine q0 62 424 14 rfl rfl (T_pick_t rfl rfl rfl g5) rfl ?_
   refine q0 63 440 15 rfl rfl (T_move rfl rfl) rfl ?_
   refine k_no (d := 64) (j' := 16) rfl rfl rfl (g_ft rfl rfl rfl rfl) ?_
   refine k_no (d := 65) (j' := 17) rfl rfl rfl (g_ft rfl rfl rfl rfl) ?_
   refine k_no (d := 66) (j' := 18) rfl rfl rfl (g_ft rfl rfl rfl rfl) ?_
   refine k_no (d := 67) (j' := 19) rfl rfl rfl (g_ft rfl rfl rfl rfl) ?_
   refine k_no (d := 68) (j' := 20) rfl rfl rfl (g_ft rfl rfl rfl rfl) ?_
   refine q0 69 536 21 rfl rfl (T_pick_t rfl rfl rfl rfl) rfl ?_
   refine k_done rfl ?_
   refine ⟨rfl, ?_⟩
   refine thenK_n ?_
   refine W_cond rfl (fun g6 => ?_) (fun g6 => ?_)
   ·skip
    refine W_seq ?_
    refine W_seqK (b' := 568) rfl rfl ?_
    refine q0 8 552 1 rfl rfl (T_assign rfl rfl) rfl ?_
    refine k_done rfl ?_
    refine thenK_n ?_
    refine W_ret ?_
    refine thenK_r ?_
    exact .mk [] (.inr rfl) (.tmp rfl (.nil)) (by simp only [resLV, LV.ren, LV.v.injEq, Value.bool.injEq]; simp only [made, chain_t hJ.2 (by omega), blk, lastOf, cmpB]; clear hJ hq4 hps hb hp; simp_all [-List.getD_eq_getElem?_getD, -Int.default_eq_zero]) (.nil) rfl
   ·exact absurd (g6.symm.trans rfl) (by decide)
  ·have h5 := g5; (try simp only [cmpB, decide_eq_true_eq, decide_eq_false_iff_not, beq_iff_eq, beq_eq_false_iff_ne, bne_iff_ne, ne_eq, bne_eq_false_iff_eq, Bool.not_eq_true', Bool.not_eq_false', Int.not_lt, Int.not_le] at h5)
   refine k_op0 (d := 57) (b := 344) (j' := 9) rfl rfl rfl rfl (g_ff rfl rfl rfl g5) (T_fa D (m := 1) rfl rfl rfl rfl rfl rfl) rfl ?_
   refine k_op0 (d := 58) (b := 360) (j' := 10) rfl rfl rfl rfl (g_ff rfl rfl rfl g5) (T_load_b D rfl rfl rfl rfl rfl rfl) rfl ?_
   refine k_op0 (d := 59) (b := 376) (j' := 11) rfl rfl rfl rfl (g_ff rfl rfl rfl g5) (T_fa D (m := 1) rfl rfl rfl rfl rfl rfl) rfl ?_
   refine k_op0 (d := 60) (b := 392) (j' := 12) rfl rfl rfl rfl (g_ff rfl rfl rfl g5) (T_load_b D rfl rfl rfl rfl rfl rfl) rfl ?_
   refine k_op0 (d := 61) (b := 408) (j' := 13) rfl rfl rfl rfl (g_ff rfl rfl rfl g5) (T_cmp rfl rfl rfl rfl) rfl ?_
   refine q0 62 424 14 rfl rfl (T_pick_f rfl rfl rfl g5) rfl ?_
   refine q0 63 440 15 rfl rfl (T_move rfl rfl) rfl ?_
   refine k_split (d := 63) rfl (fun g7 => ?_) (fun g7 => ?_)
   ·have h7 := c_neq_t g7
    refine k_no (d := 64) (j' := 16) rfl rfl rfl (g_ft rfl rfl rfl g7) ?_
    refine k_no (d := 65) (j' := 17) rfl rfl rfl (g_ft rfl rfl rfl g7) ?_
    refine k_no (d := 66) (j' := 18) rfl rfl rfl (g_ft rfl rfl rfl g7) ?_
    refine k_no (d := 67) (j' := 19) rfl rfl rfl (g_ft rfl rfl rfl g7) ?_
    refine k_no (d := 68) (j' := 20) rfl rfl rfl (g_ft rfl rfl rfl g7) ?_
    refine q0 69 536 21 rfl rfl (T_pick_t rfl rfl rfl g7) rfl ?_
    refine k_done rfl ?_
    refine ⟨rfl, ?_⟩
    refine thenK_n ?_
    refine W_cond rfl (fun g8 => ?_) (fun g8 => ?_)
    ·skip
     refine W_seq ?_
     refine W_seqK (b' := 568) rfl rfl ?_
     refine q0 8 552 1 rfl rfl (T_assign rfl rfl) rfl ?_
     refine k_done rfl ?_
     refine thenK_n ?_
     refine W_ret ?_
     refine thenK_r ?_
     exact .mk [] (.inr rfl) (.tmp rfl (.nil)) (by simp only [resLV, LV.ren, LV.v.injEq, Value.bool.injEq]; simp only [made, chain_t hJ.2 (by omega), blk, lastOf, cmpB]; clear hJ hq4 hps hb hp; simp_all [-List.getD_eq_getElem?_getD, -Int.default_eq_zero]) (.nil) rfl
    ·exact absurd (g8.symm.trans rfl) (by decide)
   ·have h7 := c_neq_f g7
    refine k_op0 (d := 64) (b := 456) (j' := 16) rfl rfl rfl rfl (g_ff rfl rfl rfl g7) (T_fa D (m := 2) rfl rfl rfl rfl rfl rfl) rfl ?_
    refine k_op0 (d := 65) (b := 472) (j' := 17) rfl rfl rfl rfl (g_ff rfl rfl rfl g7) (T_load_b D rfl rfl rfl rfl rfl rfl) rfl ?_
    refine k_op0 (d := 66) (b := 488) (j' := 18) rfl rfl rfl rfl (g_ff rfl rfl rfl g7) (T_fa D (m := 2) rfl rfl rfl rfl rfl rfl) rfl ?_
    refine k_op0 (d := 67) (b := 504) (j' := 19) rfl rfl rfl rfl (g_ff rfl rfl rfl g7) (T_load_b D rfl rfl rfl rfl rfl rfl) rfl ?_
    refine k_op0 (d := 68) (b := 520) (j' := 20) rfl rfl rfl rfl (g_ff rfl rfl rfl g7) (T_cmp rfl rfl rfl rfl) rfl ?_
    refine q0 69 536 21 rfl rfl (T_pick_f rfl rfl rfl g7) rfl ?_
    refine k_done rfl ?_
    refine ⟨rfl, ?_⟩
    refine thenK_n ?_
    refine W_cond rfl (fun g9 => ?_) (fun g9 => ?_)
    ·have h9 := c_neq_t g9
     refine W_seq ?_
     refine W_seqK (b' := 568) rfl rfl ?_
     refine q0 8 552 1 rfl rfl (T_assign rfl rfl) rfl ?_
     refine k_done rfl ?_
     refine thenK_n ?_
     refine W_ret ?_
     refine thenK_r ?_
     exact .mk [] (.inr rfl) (.tmp rfl (.nil)) (by simp only [resLV, LV.ren, LV.v.injEq, Value.bool.injEq]; simp only [made, chain_t hJ.2 (by omega), blk, lastOf, cmpB]; clear hJ hq4 hps hb hp; simp_all [-List.getD_eq_getElem?_getD, -Int.default_eq_zero]) (.nil) rfl
    ·have h9 := c_neq_f g9
     refine W_skip ?_
     refine thenK_n ?_
     refine W_seq ?_
     refine W_seq ?_
     refine W_seqK (b' := 584) rfl rfl ?_
     refine q0 70 552 1 rfl rfl (T_fa D (m := 1) rfl rfl rfl rfl rfl rfl) rfl ?_
     refine q0 71 568 2 rfl rfl (T_load_b D rfl rfl rfl rfl rfl rfl) rfl ?_
     refine k_done rfl ?_
     refine thenK_n ?_
     refine W_block ?_
     refine W_seq ?_
     refine W_seqK (b' := 616) rfl rfl ?_
     refine q0 73 584 1 rfl rfl (T_cmp rfl rfl rfl rfl) rfl ?_
     refine q0 72 600 2 rfl rfl (T_assign rfl rfl) rfl ?_
     refine k_done rfl ?_
     refine thenK_n ?_
     refine W_cond rfl (fun g10 => ?_) (fun g10 => ?_)
     ·have h10 := c_eql_t g10
      refine W_seq ?_
      refine W_seqK (b' := 840) rfl rfl ?_
      refine q0 74 616 1 rfl rfl (T_move rfl rfl) rfl ?_
      refine q0 75 632 2 rfl rfl (T_fa D (m := 3) rfl rfl rfl rfl rfl rfl) rfl ?_
      refine q0 76 648 3 rfl rfl (T_load_b D rfl rfl rfl rfl rfl rfl) rfl ?_
      refine q0 77 664 4 rfl rfl (T_fa D (m := 3) rfl rfl rfl rfl rfl rfl) rfl ?_
      refine q0 78 680 5 rfl rfl (T_load_b D rfl rfl rfl rfl rfl rfl) rfl ?_
      refine q0 79 696 6 rfl rfl (T_callV (lvs := [_, _, _]) (L := [(1, 4)]) (leads_spec _ _ _ (fun k1 k2 => hps _ (getD_mem (by omega)))) body118 rfl rfl rfl rfl (.fz rfl (.nil)) rfl) rfl ?_
      refine q0 80 712 7 rfl rfl (T_move rfl rfl) rfl ?_
      refine k_split (d := 80) rfl (fun g11 => ?_) (fun g11 => ?_)
      ·have h11 := g11; (try simp only [cmpB, decide_eq_true_eq, decide_eq_false_iff_not, beq_iff_eq, beq_eq_false_iff_ne, bne_iff_ne, ne_eq, bne_eq_false_iff_eq, Bool.not_eq_true', Bool.not_eq_false', Int.not_lt, Int.not_le] at h11)
       refine k_op0 (d := 81) (b := 728) (j' := 8) rfl rfl rfl rfl (g_tt rfl rfl rfl g11) (T_fa D (m := 4) rfl rfl rfl rfl rfl rfl) rfl ?_
       refine k_op0 (d := 82) (b := 744) (j' := 9) rfl rfl rfl rfl (g_tt rfl rfl rfl g11) (T_load_b D rfl rfl rfl rfl rfl rfl) rfl ?_
       refine k_op0 (d := 83) (b := 760) (j' := 10) rfl rfl rfl rfl (g_tt rfl rfl rfl g11) (T_fa D (m := 4) rfl rfl rfl rfl rfl rfl) rfl ?_
       refine k_op0 (d := 84) (b := 776) (j' := 11) rfl rfl rfl rfl (g_tt rfl rfl rfl g11) (T_load_b D rfl rfl rfl rfl rfl rfl) rfl ?_
       refine k_op0 (d := 85) (b := 792) (j' := 12) rfl rfl rfl rfl (g_tt rfl rfl rfl g11) (T_cmp rfl rfl rfl rfl) rfl ?_
       refine q0 86 808 13 rfl rfl (T_pick_t rfl rfl rfl g11) rfl ?_
       refine q0 8 824 14 rfl rfl (T_assign rfl rfl) rfl ?_
       refine k_done rfl ?_
       refine thenK_n ?_
       refine W_ret ?_
       refine blockK_r ?_
       refine thenK_r ?_
       exact .mk [] (.inr rfl) (.tmp rfl (.nil)) (by simp only [resLV, LV.ren, LV.v.injEq, Value.bool.injEq]; simp only [made, chain_t hJ.2 (by omega), blk, lastOf, cmpB]; clear hJ hq4 hps hb hp; simp_all [-List.getD_eq_getElem?_getD, -Int.default_eq_zero]) (.nil) rfl
      ·have h11 := g11; (try simp only [cmpB, decide_eq_true_eq, decide_eq_false_iff_not, beq_iff_eq, beq_eq_false_iff_ne, bne_iff_ne, ne_eq, bne_eq_false_iff_eq, Bool.not_eq_true', Bool.not_eq_false', Int.not_lt, Int.not_le] at h11)
       refine k_no (d := 81) (j' := 8) rfl rfl rfl (g_tf rfl rfl rfl g11) ?_
       refine k_no (d := 82) (j' := 9) rfl rfl rfl (g_tf rfl rfl rfl g11) ?_
       refine k_no (d := 83) (j' := 10) rfl rfl rfl (g_tf rfl rfl rfl g11) ?_
       refine k_no (d := 84) (j' := 11) rfl rfl rfl (g_tf rfl rfl rfl g11) ?_
       refine k_no (d := 85) (j' := 12) rfl rfl rfl (g_tf rfl rfl rfl g11) ?_
       refine q0 86 808 13 rfl rfl (T_pick_f rfl rfl rfl g11) rfl ?_
       refine q0 8 824 14 rfl rfl (T_assign rfl rfl) rfl ?_
       refine k_done rfl ?_
       refine thenK_n ?_
       refine W_ret ?_
       refine blockK_r ?_
       refine thenK_r ?_
       exact .mk [] (.inr rfl) (.tmp rfl (.nil)) (by simp only [resLV, LV.ren, LV.v.injEq, Value.bool.injEq]; simp only [made, chain_t hJ.2 (by omega), blk, lastOf, cmpB]; clear hJ hq4 hps hb hp; simp_all [-List.getD_eq_getElem?_getD, -Int.default_eq_zero]) (.nil) rfl
     ·have h10 := c_eql_f g10
      refine W_seq ?_
      refine W_seqK (b' := 648) rfl rfl ?_
      refine q0 88 616 1 rfl rfl (T_cmp rfl rfl rfl rfl) rfl ?_
      refine q0 87 632 2 rfl rfl (T_assign rfl rfl) rfl ?_
      refine k_done rfl ?_
      refine thenK_n ?_
      refine W_cond rfl (fun g12 => ?_) (fun g12 => ?_)
      ·have h12 := c_eql_t g12
       refine W_seq ?_
       refine W_seqK (b' := 888) rfl rfl ?_
       refine q0 89 648 1 rfl rfl (T_move rfl rfl) rfl ?_
       refine q0 90 664 2 rfl rfl (T_fa D (m := 3) rfl rfl rfl rfl rfl rfl) rfl ?_
       refine q0 91 680 3 rfl rfl (T_load_b D rfl rfl rfl rfl rfl rfl) rfl ?_
       refine q0 92 696 4 rfl rfl (T_fa D (m := 3) rfl rfl rfl rfl rfl rfl) rfl ?_
       refine q0 93 712 5 rfl rfl (T_load_b D rfl rfl rfl rfl rfl rfl) rfl ?_
       refine q0 94 728 6 rfl rfl (T_callV (lvs := [_, _, _]) (L := [(1, 4)]) (leads_spec _ _ _ (fun k1 k2 => hps _ (getD_mem (by omega)))) body118 rfl rfl rfl rfl (.fz rfl (.nil)) rfl) rfl ?_
       refine q0 95 744 7 rfl rfl (T_move rfl rfl) rfl ?_
       refine k_split (d := 95) rfl (fun g13 => ?_) (fun g13 => ?_)
       ·have h13 := g13; (try simp only [cmpB, decide_eq_true_eq, decide_eq_false_iff_not, beq_iff_eq, beq_eq_false_iff_ne, bne_iff_ne, ne_eq, bne_eq_false_iff_eq, Bool.not_eq_true', Bool.not_eq_false', Int.not_lt, Int.not_le] at h13)
        refine k_op0 (d := 96) (b := 760) (j' := 8) rfl rfl rfl rfl (g_tt rfl rfl rfl g13) (T_move rfl rfl) rfl ?_
        refine k_op0 (d := 97) (b := 776) (j' := 9) rfl rfl rfl rfl (g_tt rfl rfl rfl g13) (T_fa D (m := 4) rfl rfl rfl rfl rfl rfl) rfl ?_
        refine k_op0 (d := 98) (b := 792) (j' := 10) rfl rfl rfl rfl (g_tt rfl rfl rfl g13) (T_load_b D rfl rfl rfl rfl rfl rfl) rfl ?_
        refine k_op0 (d := 99) (b := 808) (j' := 11) rfl rfl rfl rfl (g_tt rfl rfl rfl g13) (T_fa D (m := 4) rfl rfl rfl rfl rfl rfl) rfl ?_
        refine k_op0 (d := 100) (b := 824) (j' := 12) rfl rfl rfl rfl (g_tt rfl rfl rfl g13) (T_load_b D rfl rfl rfl rfl rfl rfl) rfl ?_
        refine k_op0 (d := 101) (b := 840) (j' := 13) rfl rfl rfl rfl (g_tt rfl rfl rfl g13) (T_callV (lvs := [_, _, _]) (L := [(1, 4)]) (leads_spec _ _ _ (fun k1 k2 => hps _ (getD_mem (by omega)))) body118 rfl rfl rfl rfl (.fz rfl (.nil)) rfl) rfl ?_
        refine q0 102 856 14 rfl rfl (T_pick_t rfl rfl rfl g13) rfl ?_
        refine q0 8 872 15 rfl rfl (T_assign rfl rfl) rfl ?_
        refine k_done rfl ?_
        refine thenK_n ?_
        refine W_ret ?_
        refine blockK_r ?_
        refine thenK_r ?_
        exact .mk [] (.inr rfl) (.tmp rfl (.nil)) (by simp only [resLV, LV.ren, LV.v.injEq, Value.bool.injEq]; simp only [made, chain_t hJ.2 (by omega), blk, lastOf, cmpB]; clear hJ hq4 hps hb hp; simp_all [-List.getD_eq_getElem?_getD, -Int.default_eq_zero]) (.nil) rfl
       ·have h13 := g13; (try simp only [cmpB, decide_eq_true_eq, decide_eq_false_iff_not, beq_iff_eq, beq_eq_false_iff_ne, bne_iff_ne, ne_eq, bne_eq_false_iff_eq, Bool.not_eq_true', Bool.not_eq_false', Int.not_lt, Int.not_le] at h13)
        refine k_no (d := 96) (j' := 8) rfl rfl rfl (g_tf rfl rfl rfl g13) ?_
        refine k_no (d := 97) (j' := 9) rfl rfl rfl (g_tf rfl rfl rfl g13) ?_
        refine k_no (d := 98) (j' := 10) rfl rfl rfl (g_tf rfl rfl rfl g13) ?_
        refine k_no (d := 99) (j' := 11) rfl rfl rfl (g_tf rfl rfl rfl g13) ?_
        refine k_no (d := 100) (j' := 12) rfl rfl rfl (g_tf rfl rfl rfl g13) ?_
        refine k_no (d := 101) (j' := 13) rfl rfl rfl (g_tf rfl rfl rfl g13) ?_
        refine q0 102 856 14 rfl rfl (T_pick_f rfl rfl rfl g13) rfl ?_
        refine q0 8 872 15 rfl rfl (T_assign rfl rfl) rfl ?_
        refine k_done rfl ?_
        refine thenK_n ?_
        refine W_ret ?_
        refine blockK_r ?_
        refine thenK_r ?_
        exact .mk [] (.inr rfl) (.tmp rfl (.nil)) (by simp only [resLV, LV.ren, LV.v.injEq, Value.bool.injEq]; simp only [made, chain_t hJ.2 (by omega), blk, lastOf, cmpB]; clear hJ hq4 hps hb hp; simp_all [-List.getD_eq_getElem?_getD, -Int.default_eq_zero]) (.nil) rfl
      ·have h12 := c_eql_f g12
       refine W_skip ?_
       refine blockK_n ?_
       refine thenK_n ?_
       refine W_seq ?_
       refine W_seqK (b' := 856) rfl rfl ?_
       refine q0 103 648 1 rfl rfl (T_fa D (m := 3) rfl rfl rfl rfl rfl rfl) rfl ?_
       refine q0 104 664 2 rfl rfl (T_load_b D rfl rfl rfl rfl rfl rfl) rfl ?_
       refine q0 105 680 3 rfl rfl (T_fa D (m := 3) rfl rfl rfl rfl rfl rfl) rfl ?_
       refine q0 106 696 4 rfl rfl (T_load_b D rfl rfl rfl rfl rfl rfl) rfl ?_
       refine q0 107 712 5 rfl rfl (T_cmp rfl rfl rfl rfl) rfl ?_
       refine q0 108 728 6 rfl rfl (T_move rfl rfl) rfl ?_
       refine k_split (d := 108) rfl (fun g14 => ?_) (fun g14 => ?_)
       ·have h14 := c_eql_t g14
        refine k_op0 (d := 109) (b := 744) (j' := 7) rfl rfl rfl rfl (g_tt rfl rfl rfl g14) (T_fa D (m := 4) rfl rfl rfl rfl rfl rfl) rfl ?_
        refine k_op0 (d := 110) (b := 760) (j' := 8) rfl rfl rfl rfl (g_tt rfl rfl rfl g14) (T_load_b D rfl rfl rfl rfl rfl rfl) rfl ?_
        refine k_op0 (d := 111) (b := 776) (j' := 9) rfl rfl rfl rfl (g_tt rfl rfl rfl g14) (T_fa D (m := 4) rfl rfl rfl rfl rfl rfl) rfl ?_
        refine k_op0 (d := 112) (b := 792) (j' := 10) rfl rfl rfl rfl (g_tt rfl rfl rfl g14) (T_load_b D rfl rfl rfl rfl rfl rfl) rfl ?_
        refine k_op0 (d := 113) (b := 808) (j' := 11) rfl rfl rfl rfl (g_tt rfl rfl rfl g14) (T_cmp rfl rfl rfl rfl) rfl ?_
        refine q0 114 824 12 rfl rfl (T_pick_t rfl rfl rfl g14) rfl ?_
        refine q0 8 840 13 rfl rfl (T_assign rfl rfl) rfl ?_
        refine k_done rfl ?_
        refine thenK_n ?_
        refine W_ret ?_
        exact .mk [] (.inr rfl) (.tmp rfl (.nil)) (by simp only [resLV, LV.ren, LV.v.injEq, Value.bool.injEq]; simp only [made, chain_t hJ.2 (by omega), blk, lastOf, cmpB]; clear hJ hq4 hps hb hp; simp_all [-List.getD_eq_getElem?_getD, -Int.default_eq_zero]) (.nil) rfl
       ·have h14 := c_eql_f g14
        refine k_no (d := 109) (j' := 7) rfl rfl rfl (g_tf rfl rfl rfl g14) ?_
        refine k_no (d := 110) (j' := 8) rfl rfl rfl (g_tf rfl rfl rfl g14) ?_
        refine k_no (d := 111) (j' := 9) rfl rfl rfl (g_tf rfl rfl rfl g14) ?_
        refine k_no (d := 112) (j' := 10) rfl rfl rfl (g_tf rfl rfl rfl g14) ?_
        refine k_no (d := 113) (j' := 11) rfl rfl rfl (g_tf rfl rfl rfl g14) ?_
        refine q0 114 824 12 rfl rfl (T_pick_f rfl rfl rfl g14) rfl ?_
        refine q0 8 840 13 rfl rfl (T_assign rfl rfl) rfl ?_
        refine k_done rfl ?_
        refine thenK_n ?_
        refine W_ret ?_
        exact .mk [] (.inr rfl) (.tmp rfl (.nil)) (by simp only [resLV, LV.ren, LV.v.injEq, Value.bool.injEq]; simp only [made, chain_t hJ.2 (by omega), blk, lastOf, cmpB]; clear hJ hq4 hps hb hp; simp_all [-List.getD_eq_getElem?_getD, -Int.default_eq_zero]) (.nil) rfl
end Lg
end Go.Proofs.Ytpfhmodjjljpjaa

namespace Go.Proofs.Ytpfhmodjjljpjaa
open Go.RowKit
namespace Lg
set_option maxRecDepth 100000
set_option linter.unusedVariables false
set_option linter.unusedSimpArgs false
theorem body30 : (Try.prog.funcs[30]?).map (fun fn => (fn.name == "runtime.NumGoroutine" || fn.body.isNone)) = some false := by kernel_rfl
theorem tcheck_spec (f g : GFn) (ps : List (List Int)) (hl : ps.length ≤ 1000000000) (hpl : ∀ p ∈ ps, p.length ≤ 1000000000) (hgi : ∀ b ∈ g.blocks, b.ins.length ≤ 1000000) (hI : ∀ p ∈ ps, ∀ j, (instrs f (p.take j)).length ≤ 1000000000) : Spec Try.prog 30 [.agg [.v (.int .i64 f.regs), .r 1], .agg [.v (.int .i64 g.regs), .r 2], .r 3] 4 [(1, .fz 5 (f.blocks.map eBlock)), (2, .fz 5 (g.blocks.map eBlock)), (3, .fz 1 (ps.map eIs))] (.v (.bool (tcheck f g ps))) 4 [] := by
 refine spec_of D (fn := Try.f30) rfl rfl (Nat.le_of_ble_eq_true rfl) ?_
 refine W_seq ?_
 refine W_seqK (b' := 52) rfl rfl ?_
 refine q1 3 4 1 rfl rfl (T_box rfl rfl flat_agg) rfl ?_
 refine q1 4 20 2 rfl rfl (T_box rfl rfl flat_agg) rfl ?_
 refine q0 6 36 3 rfl rfl (T_assign rfl rfl) rfl ?_
 refine k_done rfl ?_
 refine thenK_n ?_
 refine W_seq ?_
 refine W_seq ?_
 refine W_seqK (b' := 340) rfl rfl ?_
 refine q0 11 52 1 rfl rfl (T_move rfl rfl) rfl ?_
 refine q0 12 68 2 rfl rfl (T_len D rfl rfl rfl rfl rfl rfl) rfl ?_
 refine q0 13 84 3 rfl rfl (T_fa D (m := 1) rfl rfl rfl rfl rfl rfl) rfl ?_
 refine q0 14 100 4 rfl rfl (T_load_b D rfl rfl rfl rfl rfl rfl) rfl ?_
 refine q0 15 116 5 rfl rfl (T_len D rfl rfl rfl rfl rfl rfl) rfl ?_
 refine q0 16 132 6 rfl rfl (T_cmp rfl rfl rfl rfl) rfl ?_
 refine q0 17 148 7 rfl rfl (T_move rfl rfl) rfl ?_
 refine k_split (d := 17) rfl (fun g1 => ?_) (fun g1 => ?_)
 ·have h1 := g1; (try simp only [cmpB, decide_eq_true_eq, decide_eq_false_iff_not, beq_iff_eq, beq_eq_false_iff_ne, bne_iff_ne, ne_eq, bne_eq_false_iff_eq, Bool.not_eq_true', Bool.not_eq_false', Int.not_lt, Int.not_le] at h1)
  refine k_no (d := 18) (j' := 8) rfl rfl rfl (g_ft rfl rfl rfl g1) ?_
  refine k_no (d := 19) (j' := 9) rfl rfl rfl (g_ft rfl rfl rfl g1) ?_
  refine k_no (d := 20) (j' := 10) rfl rfl rfl (g_ft rfl rfl rfl g1) ?_
  refine q0 21 212 11 rfl rfl (T_pick_t rfl rfl rfl g1) rfl ?_
  refine q0 22 228 12 rfl rfl (T_move rfl rfl) rfl ?_
  refine k_no (d := 23) (j' := 13) rfl rfl rfl (g_ft rfl rfl rfl rfl) ?_
  refine k_no (d := 24) (j' := 14) rfl rfl rfl (g_ft rfl rfl rfl rfl) ?_
  refine k_no (d := 25) (j' := 15) rfl rfl rfl (g_ft rfl rfl rfl rfl) ?_
  refine k_no (d := 26) (j' := 16) rfl rfl rfl (g_ft rfl rfl rfl rfl) ?_
  refine k_no (d := 27) (j' := 17) rfl rfl rfl (g_ft rfl rfl rfl rfl) ?_
  refine q0 28 324 18 rfl rfl (T_pick_t rfl rfl rfl rfl) rfl ?_
  refine k_done rfl ?_
  refine thenK_n ?_
  refine W_cond rfl (fun g2 => ?_) (fun g2 => ?_)
  ·skip
   refine W_seq ?_
   refine W_seqK (b' := 356) rfl rfl ?_
   refine q0 6 340 1 rfl rfl (T_assign rfl rfl) rfl ?_
   refine k_done rfl ?_
   refine thenK_n ?_
   refine W_ret ?_
   refine thenK_r ?_
   exact .mk [] (.inr rfl) (.tmp rfl (.nil)) (by simp only [resLV, LV.ren, LV.v.injEq, Value.bool.injEq]; rw [tcheck, if_pos (by omega)]) (.nil) rfl
  ·exact absurd (g2.symm.trans rfl) (by decide)
 ·have h1 := g1; (try simp only [cmpB, decide_eq_true_eq, decide_eq_false_iff_not, beq_iff_eq, beq_eq_false_iff_ne, bne_iff_ne, ne_eq, bne_eq_false_iff_eq, Bool.not_eq_true', Bool.not_eq_false', Int.not_lt, Int.not_le] at h1)
  refine k_op0 (d := 18) (b := 164) (j' := 8) rfl rfl rfl rfl (g_ff rfl rfl rfl g1) (T_move rfl rfl) rfl ?_
  refine k_op0 (d := 19) (b := 180) (j' := 9) rfl rfl rfl rfl (g_ff rfl rfl rfl g1) (T_len D rfl rfl rfl rfl rfl rfl) rfl ?_
  refine k_op0 (d := 20) (b := 196) (j' := 10) rfl rfl rfl rfl (g_ff rfl rfl rfl g1) (T_cmp rfl rfl rfl rfl) rfl ?_
  refine q0 21 212 11 rfl rfl (T_pick_f rfl rfl rfl g1) rfl ?_
  refine q0 22 228 12 rfl rfl (T_move rfl rfl) rfl ?_
  refine k_split (d := 22) rfl (fun g3 => ?_) (fun g3 => ?_)
  ·have h3 := g3; (try simp only [cmpB, decide_eq_true_eq, decide_eq_false_iff_not, beq_iff_eq, beq_eq_false_iff_ne, bne_iff_ne, ne_eq, bne_eq_false_iff_eq, Bool.not_eq_true', Bool.not_eq_false', Int.not_lt, Int.not_le] at h3)
   refine k_no (d := 23) (j' := 13) rfl rfl rfl (g_ft rfl rfl rfl g3) ?_
   refine k_no (d := 24) (j' := 14) rfl rfl rfl (g_ft rfl rfl rfl g3) ?_
   refine k_no (d := 25) (j' := 15) rfl rfl rfl (g_ft rfl rfl rfl g3) ?_
   refine k_no (d := 26) (j' := 16) rfl rfl rfl (g_ft rfl rfl rfl g3) ?_
   refine k_no (d := 27) (j' := 17) rfl rfl rfl (g_ft rfl rfl rfl g3) ?_
   refine q0 28 324 18 rfl rfl (T_pick_t rfl rfl rfl g3) rfl ?_
   refine k_done rfl ?_
   refine thenK_n ?_
   refine W_cond rfl (fun g4 => ?_) (fun g4 => ?_)
   ·skip
    refine W_seq ?_
    refine W_seqK (b' := 356) rfl rfl ?_
    refine q0 6 340 1 rfl rfl (T_assign rfl rfl) rfl ?_
    refine k_done rfl ?_
    refine thenK_n ?_
    refine W_ret ?_
    refine thenK_r ?_
    exact .mk [] (.inr rfl) (.tmp rfl (.nil)) (by simp only [resLV, LV.ren, LV.v.injEq, Value.bool.injEq]; rw [tcheck, if_pos (by omega)]) (.nil) rfl
   ·exact absurd (g4.symm.trans rfl) (by decide)
  ·have h3 := g3; (try simp only [cmpB, decide_eq_true_eq, decide_eq_false_iff_not, beq_iff_eq, beq_eq_false_iff_ne, bne_iff_ne, ne_eq, bne_eq_false_iff_eq, Bool.not_eq_true', Bool.not_eq_false', Int.not_lt, Int.not_le] at h3)
   refine k_op0 (d := 23) (b := 244) (j' := 13) rfl rfl rfl rfl (g_ff rfl rfl rfl g3) (T_fa D (m := 0) rfl rfl rfl rfl rfl rfl) rfl ?_
   refine k_op0 (d := 24) (b := 260) (j' := 14) rfl rfl rfl rfl (g_ff rfl rfl rfl g3) (T_load_b D rfl rfl rfl rfl rfl rfl) rfl ?_
   refine k_op0 (d := 25) (b := 276) (j' := 15) rfl rfl rfl rfl (g_ff rfl rfl rfl g3) (T_fa D (m := 0) rfl rfl rfl rfl rfl rfl) rfl ?_
   refine k_op0 (d := 26) (b := 292) (j' := 16) rfl rfl rfl rfl (g_ff rfl rfl rfl g3) (T_load_b D rfl rfl rfl rfl rfl rfl) rfl ?_
   refine k_op0 (d := 27) (b := 308) (j' := 17) rfl rfl rfl rfl (g_ff rfl rfl rfl g3) (T_cmp rfl rfl rfl rfl) rfl ?_
   refine q0 28 324 18 rfl rfl (T_pick_f rfl rfl rfl g3) rfl ?_
   refine k_done rfl ?_
   refine thenK_n ?_
   refine W_cond rfl (fun g5 => ?_) (fun g5 => ?_)
   ·have h5 := g5; (try simp only [cmpB, decide_eq_true_eq, decide_eq_false_iff_not, beq_iff_eq, beq_eq_false_iff_ne, bne_iff_ne, ne_eq, bne_eq_false_iff_eq, Bool.not_eq_true', Bool.not_eq_false', Int.not_lt, Int.not_le] at h5)
    refine W_seq ?_
    refine W_seqK (b' := 356) rfl rfl ?_
    refine q0 6 340 1 rfl rfl (T_assign rfl rfl) rfl ?_
    refine k_done rfl ?_
    refine thenK_n ?_
    refine W_ret ?_
    refine thenK_r ?_
    exact .mk [] (.inr rfl) (.tmp rfl (.nil)) (by simp only [resLV, LV.ren, LV.v.injEq, Value.bool.injEq]; rw [tcheck, if_pos (by omega)]) (.nil) rfl
   ·have h5 := g5; (try simp only [cmpB, decide_eq_true_eq, decide_eq_false_iff_not, beq_iff_eq, beq_eq_false_iff_ne, bne_iff_ne, ne_eq, bne_eq_false_iff_eq, Bool.not_eq_true', Bool.not_eq_false', Int.not_lt, Int.not_le] at h5)
    refine W_skip ?_
    refine thenK_n ?_
    refine W_seq ?_
    refine W_seq ?_
    refine W_seqK (b' := 388) rfl rfl ?_
    refine q0 29 340 1 rfl rfl (T_move rfl rfl) rfl ?_
    refine q0 30 356 2 rfl rfl (T_len D rfl rfl rfl rfl rfl rfl) rfl ?_
    refine q0 31 372 3 rfl rfl (T_move rfl rfl) rfl ?_
    refine k_done rfl ?_
    refine thenK_n ?_
    refine W_block ?_
    refine W_loop (ι := Nat) 6 (fun j => ⟨[(2, .r 3), (3, .p 4 0), (4, .p 5 0), (29, .r 3), (30, .v (.int .i64 (ps.length : Int))), (31, .v (.int .i64 (j : Int)))], [(1, .fz 5 (f.blocks.map eBlock)), (2, .fz 5 (g.blocks.map eBlock)), (3, .fz 1 (ps.map eIs)), (4, .box 29 [.v (.int .i64 f.regs), .r 1]), (5, .box 29 [.v (.int .i64 g.regs), .r 2])]⟩) (fun j => j ≤ ps.length ∧ ∀ i, i < j → okPath f (ps.getD i default) = true) (fun j => ps.length - j) (0) (by exact ⟨Nat.zero_le _, fun i h => absurd h (Nat.not_lt_zero _)⟩) ?_ (fun j hJ => ?_)
    ·exact ⟨[(4, 4), (5, 20)], .same rfl rfl (.same rfl rfl (.same rfl rfl (.same rfl rfl (.eq rfl (.eq rfl (.nil) (by first | rfl | simp)) (by first | rfl | simp))))), .fzE rfl (.fzE rfl (.fzE rfl (.box (by first | rfl | simp) (.box (by first | rfl | simp) (.nil))) (by first | rfl | simp)) (by first | rfl | simp)) (by first | rfl | simp), rfl⟩
    refine W_seq ?_
    refine W_seqK (b' := 22) rfl rfl ?_
    refine q0 32 6 1 rfl rfl (T_cmp rfl rfl rfl rfl) rfl ?_
    refine k_done rfl ?_
    refine thenK_n ?_
    refine W_seq ?_
    refine W_cond rfl (fun g6 => ?_) (fun g6 => ?_)
    ·have h6 := g6; (try simp only [cmpB, decide_eq_true_eq, decide_eq_false_iff_not, beq_iff_eq, beq_eq_false_iff_ne, bne_iff_ne, ne_eq, bne_eq_false_iff_eq, Bool.not_eq_true', Bool.not_eq_false', Int.not_lt, Int.not_le] at h6)
     refine W_skip ?_
     refine thenK_n ?_
     refine W_seq ?_
     refine W_block ?_
     refine W_seq ?_
     refine W_seqK (b' := 70) rfl rfl ?_
     first | refine q0 33 22 1 rfl rfl (T_indexAddr D rfl rfl rfl rfl rfl rfl rfl rfl (by first | assumption | omega | exact okPath_len (hJ.2 0 (by omega)) | (simp; omega))) rfl ?_ | refine q0 33 22 1 rfl rfl (T_indexAddrZ D rfl rfl rfl rfl rfl rfl rfl rfl (by first | assumption | omega | exact okPath_len (hJ.2 0 (by omega)) | (simp; omega)) (by first | assumption | omega | exact okPath_len (hJ.2 0 (by omega)) | (simp; omega))) rfl ?_
     refine q1 34 38 2 rfl rfl (T_ldE D (lv := .r 38) (nn := 1) (upd := [(38, .fz 1 _)]) rfl rfl rfl rfl rfl (by first | assumption | omega | exact okPath_len (hJ.2 0 (by omega)) | (simp; omega)) rfl rfl rfl rfl) rfl ?_
     refine q0 8 54 3 rfl rfl (T_assign rfl rfl) rfl ?_
     refine k_done rfl ?_
     refine thenK_n ?_
     refine W_seq ?_
     refine W_seqK (b' := 198) rfl rfl ?_
     refine q0 35 70 1 rfl rfl (T_move rfl rfl) rfl ?_
     refine q0 36 86 2 rfl rfl (T_len D rfl rfl rfl rfl rfl rfl) rfl ?_
     refine q0 37 102 3 rfl rfl (T_cmp rfl rfl rfl rfl) rfl ?_
     refine q0 38 118 4 rfl rfl (T_move rfl rfl) rfl ?_
     refine k_split (d := 38) rfl (fun g7 => ?_) (fun g7 => ?_)
     ·have h7 := g7; (try simp only [cmpB, decide_eq_true_eq, decide_eq_false_iff_not, beq_iff_eq, beq_eq_false_iff_ne, bne_iff_ne, ne_eq, bne_eq_false_iff_eq, Bool.not_eq_true', Bool.not_eq_false', Int.not_lt, Int.not_le] at h7)
      refine k_no (d := 39) (j' := 5) rfl rfl rfl (g_ft rfl rfl rfl g7) ?_
      refine k_no (d := 40) (j' := 6) rfl rfl rfl (g_ft rfl rfl rfl g7) ?_
      refine k_no (d := 41) (j' := 7) rfl rfl rfl (g_ft rfl rfl rfl g7) ?_
      refine q0 42 182 8 rfl rfl (T_pick_t rfl rfl rfl g7) rfl ?_
      refine k_done rfl ?_
      refine thenK_n ?_
      refine W_cond rfl (fun g8 => ?_) (fun g8 => ?_)
      ·skip
       refine W_seq ?_
       refine W_seqK (b' := 214) rfl rfl ?_
       refine q0 6 198 1 rfl rfl (T_assign rfl rfl) rfl ?_
       refine k_done rfl ?_
       refine thenK_n ?_
       refine W_ret ?_
       refine blockK_r ?_
       refine thenK_r ?_
       refine thenK_r ?_
       refine blockK_r ?_
       refine thenK_r ?_
       exact .mk [] (.inr rfl) (.tmp rfl (.nil)) (by simp only [resLV, LV.ren, LV.v.injEq, Value.bool.injEq]; rw [tcheck, if_neg (by omega), if_pos (all_false_at (i := j) (by omega) (by simp only [okPath, decide_eq_true (p := (ps.getD j default).length = 0) (by omega)]; rfl))]) (.nil) rfl
      ·exact absurd (g8.symm.trans rfl) (by decide)
     ·have h7 := g7; (try simp only [cmpB, decide_eq_true_eq, decide_eq_false_iff_not, beq_iff_eq, beq_eq_false_iff_ne, bne_iff_ne, ne_eq, bne_eq_false_iff_eq, Bool.not_eq_true', Bool.not_eq_false', Int.not_lt, Int.not_le] at h7)
      refine k_op0 (d := 39) (b := 134) (j' := 5) rfl rfl rfl rfl (g_ff rfl rfl rfl g7) (T_move rfl rfl) rfl ?_
      refine k_op0 (d := 40) (b := 150) (j' := 6) rfl rfl rfl rfl (g_ff rfl rfl rfl g7) (T_makeFunc (l := [_]) rfl rfl) rfl ?_
      refine k_op1 (d := 41) (b := 166) (j' := 7) rfl rfl rfl rfl (g_ff rfl rfl rfl g7) (T_call (lvs := [_, _]) (L := [(1, 38), (2, 4), (3, 1)]) (lv := .v _) (upd := [(4, .box 29 [.v _, .r 1])]) (nn := 0) false (contains_spec _ _ (hpl _ (getD_mem (by omega)))) body73 rfl rfl rfl rfl (.fz rfl (.box rfl (.fz rfl (.nil)))) rfl (.inl rfl) rfl rfl rfl) rfl ?_
      refine q0 42 182 8 rfl rfl (T_pick_f rfl rfl rfl g7) rfl ?_
      refine k_done rfl ?_
      refine thenK_n ?_
      refine W_cond rfl (fun g9 => ?_) (fun g9 => ?_)
      ·have h9 := g9; (try simp only [cmpB, decide_eq_true_eq, decide_eq_false_iff_not, beq_iff_eq, beq_eq_false_iff_ne, bne_iff_ne, ne_eq, bne_eq_false_iff_eq, Bool.not_eq_true', Bool.not_eq_false', Int.not_lt, Int.not_le] at h9)
       refine W_seq ?_
       refine W_seqK (b' := 214) rfl rfl ?_
       refine q0 6 198 1 rfl rfl (T_assign rfl rfl) rfl ?_
       refine k_done rfl ?_
       refine thenK_n ?_
       refine W_ret ?_
       refine blockK_r ?_
       refine thenK_r ?_
       refine thenK_r ?_
       refine blockK_r ?_
       refine thenK_r ?_
       exact .mk [] (.inr rfl) (.tmp rfl (.nil)) (by simp only [resLV, LV.ren, LV.v.injEq, Value.bool.injEq]; rw [tcheck, if_neg (by omega), if_pos (all_false_at (i := j) (by omega) (by rw [okPath, h9]; simp))]) (.nil) rfl
      ·have h9 := g9; (try simp only [cmpB, decide_eq_true_eq, decide_eq_false_iff_not, beq_iff_eq, beq_eq_false_iff_ne, bne_iff_ne, ne_eq, bne_eq_false_iff_eq, Bool.not_eq_true', Bool.not_eq_false', Int.not_lt, Int.not_le] at h9)
       refine W_skip ?_
       refine blockK_n ?_
       refine thenK_n ?_
       refine W_seqK (b' := 230) rfl rfl ?_
       refine q0 43 198 1 rfl rfl (T_add64 rfl rfl rfl (by first | assumption | omega | exact okPath_len (hJ.2 0 (by omega)) | (simp; omega))) rfl ?_
       refine q0 31 214 2 rfl rfl (T_move rfl rfl) rfl ?_
       refine k_done rfl ?_
       refine thenK_n ?_
       refine ⟨j + 1, by (try dsimp only); exact ⟨by omega, fun i hi => by rcases Nat.lt_or_ge i j with h | h; exact hJ.2 i h; rw [show i = j by omega]; exact okPath_t (by omega) (by assumption)⟩, by (try dsimp only); omega, ?_⟩
       exact ⟨[(4, 4), (5, 5)], .same rfl rfl (.same rfl rfl (.same rfl rfl (.same rfl rfl (.eq rfl (.eq rfl (.nil) (by first | rfl | simp)) rfl)))), .fzE rfl (.fzE rfl (.fzE rfl (.box (by first | rfl | simp) (.box (by first | rfl | simp) (.nil))) rfl) rfl) rfl, rfl⟩
    ·have h6 := g6; (try simp only [cmpB, decide_eq_true_eq, decide_eq_false_iff_not, beq_iff_eq, beq_eq_false_iff_ne, bne_iff_ne, ne_eq, bne_eq_false_iff_eq, Bool.not_eq_true', Bool.not_eq_false', Int.not_lt, Int.not_le] at h6)
     refine W_exit ?_
     refine thenK_e ?_
     refine thenK_e ?_
     refine blockK_hit ?_
     refine thenK_n ?_
     refine W_seq ?_
     refine W_seq ?_
     refine W_seqK (b' := 118) rfl rfl ?_
     refine q0 44 22 1 rfl rfl (T_move rfl rfl) rfl ?_
     first | refine q0 45 38 2 rfl rfl (T_indexAddr D rfl rfl rfl rfl rfl rfl rfl rfl (by first | assumption | omega | exact okPath_len (hJ.2 0 (by omega)) | (simp; omega))) rfl ?_ | refine q0 45 38 2 rfl rfl (T_indexAddrZ D rfl rfl rfl rfl rfl rfl rfl rfl (by first | assumption | omega | exact okPath_len (hJ.2 0 (by omega)) | (simp; omega)) (by first | assumption | omega | exact okPath_len (hJ.2 0 (by omega)) | (simp; omega))) rfl ?_
     refine q1 46 54 3 rfl rfl (T_ldE D (lv := .r 54) (nn := 1) (upd := [(54, .fz 1 _)]) rfl rfl rfl rfl rfl (by first | assumption | omega | exact okPath_len (hJ.2 0 (by omega)) | (simp; omega)) rfl rfl rfl rfl) rfl ?_
     first | refine q0 47 70 4 rfl rfl (T_indexAddr D rfl rfl rfl rfl rfl rfl rfl rfl (by first | assumption | omega | exact okPath_len (hJ.2 0 (by omega)) | (simp; omega))) rfl ?_ | refine q0 47 70 4 rfl rfl (T_indexAddrZ D rfl rfl rfl rfl rfl rfl rfl rfl (by first | assumption | omega | exact okPath_len (hJ.2 0 (by omega)) | (simp; omega)) (by first | assumption | omega | exact okPath_len (hJ.2 0 (by omega)) | (simp; omega))) rfl ?_
     refine q0 48 86 5 rfl rfl (T_ldE D (lv := .v _) (nn := 0) (upd := []) rfl rfl rfl rfl rfl (by first | assumption | omega | exact okPath_len (hJ.2 0 (by omega)) | (simp; omega)) rfl rfl rfl rfl) rfl ?_
     refine q0 49 102 6 rfl rfl (T_cmp rfl rfl rfl rfl) rfl ?_
     refine k_done rfl ?_
     refine thenK_n ?_
     refine W_cond rfl (fun g10 => ?_) (fun g10 => ?_)
     ·have h10 := g10; (try simp only [cmpB, decide_eq_true_eq, decide_eq_false_iff_not, beq_iff_eq, beq_eq_false_iff_ne, bne_iff_ne, ne_eq, bne_eq_false_iff_eq, Bool.not_eq_true', Bool.not_eq_false', Int.not_lt, Int.not_le] at h10)
      refine W_seq ?_
      refine W_seqK (b' := 134) rfl rfl ?_
      refine q0 6 118 1 rfl rfl (T_assign rfl rfl) rfl ?_
      refine k_done rfl ?_
      refine thenK_n ?_
      refine W_ret ?_
      refine thenK_r ?_
      exact .mk [] (.inr rfl) (.tmp rfl (.nil)) (by simp only [resLV, LV.ren, LV.v.injEq, Value.bool.injEq]; rw [tcheck, if_neg (by omega), if_neg (by simp only [Bool.not_eq_false]; exact all_iff_getD.2 (fun i hi => hJ.2 i (by omega))), if_pos (by assumption)]) (.nil) rfl
     ·have h10 := g10; (try simp only [cmpB, decide_eq_true_eq, decide_eq_false_iff_not, beq_iff_eq, beq_eq_false_iff_ne, bne_iff_ne, ne_eq, bne_eq_false_iff_eq, Bool.not_eq_true', Bool.not_eq_false', Int.not_lt, Int.not_le] at h10)
      refine W_skip ?_
      refine thenK_n ?_
      refine W_seq ?_
      refine W_seq ?_
      refine W_seqK (b' := 166) rfl rfl ?_
      refine q0 50 118 1 rfl rfl (T_move rfl rfl) rfl ?_
      refine q0 51 134 2 rfl rfl (T_len D rfl rfl rfl rfl rfl rfl) rfl ?_
      refine q0 52 150 3 rfl rfl (T_move rfl rfl) rfl ?_
      refine k_done rfl ?_
      refine thenK_n ?_
      refine W_block ?_
      have ok1 : ∀ i, i < ps.length → okPath f (ps.getD i default) = true := fun i hi => hJ.2 i (by omega)
      have hall : ps.all (okPath f) = true := all_iff_getD.2 ok1
      have hps : ∀ q ∈ ps, 0 < q.length := fun q hq => okPath_len (List.all_eq_true.1 hall q hq)
      clear hJ
      refine W_loop (ι := Nat) 6 (fun j => ⟨[(2, .r 3), (3, .p 4 0), (4, .p 5 0), (50, .r 3), (51, .v (.int .i64 (ps.length : Int))), (52, .v (.int .i64 (j : Int)))], [(1, .fz 5 (f.blocks.map eBlock)), (2, .fz 5 (g.blocks.map eBlock)), (3, .fz 1 (ps.map eIs)), (4, .box 29 [.v (.int .i64 f.regs), .r 1]), (5, .box 29 [.v (.int .i64 g.regs), .r 2])]⟩) (fun j => j ≤ ps.length ∧ ∀ i, i < j → made f (g.blocks.getD i default) (ps.getD i default) ps = true) (fun j => ps.length - j) (0) (by exact ⟨Nat.zero_le _, fun i h => absurd h (Nat.not_lt_zero _)⟩) ?_ (fun j hJ => ?_)
      ·exact ⟨[(4, 4), (5, 5)], .same rfl rfl (.same rfl rfl (.same rfl rfl (.same rfl rfl (.eq rfl (.eq rfl (.nil) (by first | rfl | simp)) (by first | rfl | simp))))), .fzE rfl (.fzE rfl (.fzE rfl (.box (by first | rfl | simp) (.box (by first | rfl | simp) (.nil))) (by first | rfl | simp)) (by first | rfl | simp)) (by first | rfl | simp), rfl⟩
      refine W_seq ?_
      refine W_seqK (b' := 22) rfl rfl ?_
      refine q0 53 6 1 rfl rfl (T_cmp rfl rfl rfl rfl) rfl ?_
      refine k_done rfl ?_
      refine thenK_n ?_
      refine W_seq ?_
      refine W_cond rfl (fun g11 => ?_) (fun g11 => ?_)
      ·have h11 := g11; (try simp only [cmpB, decide_eq_true_eq, decide_eq_false_iff_not, beq_iff_eq, beq_eq_false_iff_ne, bne_iff_ne, ne_eq, bne_eq_false_iff_eq, Bool.not_eq_true', Bool.not_eq_false', Int.not_lt, Int.not_le] at h11)
       refine W_skip ?_
       refine thenK_n ?_
       refine W_seq ?_
       refine W_block ?_
       refine W_seq ?_
       refine W_seqK (b' := 102) rfl rfl ?_
       refine q0 54 22 1 rfl rfl (T_move rfl rfl) rfl ?_
       first | refine q0 55 38 2 rfl rfl (T_indexAddr D rfl rfl rfl rfl rfl rfl rfl rfl (by first | assumption | omega | exact okPath_len (hJ.2 0 (by omega)) | (simp; omega))) rfl ?_ | refine q0 55 38 2 rfl rfl (T_indexAddrZ D rfl rfl rfl rfl rfl rfl rfl rfl (by first | assumption | omega | exact okPath_len (hJ.2 0 (by omega)) | (simp; omega)) (by first | assumption | omega | exact okPath_len (hJ.2 0 (by omega)) | (simp; omega))) rfl ?_
       refine q1 56 54 3 rfl rfl (T_ldE D (lv := .r 54) (nn := 1) (upd := [(54, .fz 1 _)]) rfl rfl rfl rfl rfl (by first | assumption | omega | exact okPath_len (hJ.2 0 (by omega)) | (simp; omega)) rfl rfl rfl rfl) rfl ?_
       refine q0 9 70 4 rfl rfl (T_assign rfl rfl) rfl ?_
       refine q0 10 86 5 rfl rfl (T_assign rfl rfl) rfl ?_
       refine k_done rfl ?_
       refine thenK_n ?_
       refine W_seq ?_
       refine W_anyK (b' := 262) rfl rfl rfl ?_
       refine q0 57 102 1 rfl rfl (T_load_bA D (l := [_, _]) rfl rfl rfl rfl rfl rfl rfl) rfl ?_
       refine q0 58 118 2 rfl rfl (T_fa D (m := 1) rfl rfl rfl rfl rfl rfl) rfl ?_
       refine q0 59 134 3 rfl rfl (T_load_b D rfl rfl rfl rfl rfl rfl) rfl ?_
       refine q0 60 150 4 rfl rfl (T_move rfl rfl) rfl ?_
       first | refine q0 61 166 5 rfl rfl (T_indexAddr D rfl rfl rfl rfl rfl rfl rfl rfl (by first | assumption | omega | exact okPath_len (hJ.2 0 (by omega)) | (simp; omega))) rfl ?_ | refine q0 61 166 5 rfl rfl (T_indexAddrZ D rfl rfl rfl rfl rfl rfl rfl rfl (by first | assumption | omega | exact okPath_len (hJ.2 0 (by omega)) | (simp; omega)) (by first | assumption | omega | exact okPath_len (hJ.2 0 (by omega)) | (simp; omega))) rfl ?_
       refine q1 62 182 6 rfl rfl (T_ldEA D (l := [.r 182, .v _, .v _, .v _, .v _]) (nn := 1) (upd := [(182, .fz 8 _)]) rfl rfl rfl rfl rfl (by first | assumption | omega | exact okPath_len (hJ.2 0 (by omega)) | (simp; omega)) rfl rfl rfl rfl rfl) rfl ?_
       refine q0 63 198 7 rfl rfl (T_move rfl rfl) rfl ?_
       refine q0 64 214 8 rfl rfl (T_move rfl rfl) rfl ?_
       refine q0 65 230 9 rfl rfl (T_callV (lvs := [_, _, _, _]) (L := [(1, 1), (2, 182), (3, 54), (4, 3)]) (made_spec _ _ _ _ (hgi _ (getD_mem (by omega))) (okPath_len (ok1 _ (by omega))) ⟨hpl _ (getD_mem (by omega)), okPath_in (ok1 _ (by omega))⟩ (hI _ (getD_mem (by omega))) hps) body75 rfl rfl rfl rfl (.fz rfl (.fz rfl (.fz rfl (.fz rfl (.nil))))) rfl) rfl ?_
       refine q0 66 246 10 rfl rfl (T_not rfl rfl) rfl ?_
       refine k_done rfl ?_
       refine ⟨rfl, ?_⟩
       refine thenK_n ?_
       refine W_cond rfl (fun g12 => ?_) (fun g12 => ?_)
       ·have h12 := g12; (try simp only [cmpB, decide_eq_true_eq, decide_eq_false_iff_not, beq_iff_eq, beq_eq_false_iff_ne, bne_iff_ne, ne_eq, bne_eq_false_iff_eq, Bool.not_eq_true', Bool.not_eq_false', Int.not_lt, Int.not_le] at h12)
        refine W_seq ?_
        refine W_seqK (b' := 278) rfl rfl ?_
        refine q0 6 262 1 rfl rfl (T_assign rfl rfl) rfl ?_
        refine k_done rfl ?_
        refine thenK_n ?_
        refine W_ret ?_
        refine blockK_r ?_
        refine thenK_r ?_
        refine thenK_r ?_
        refine blockK_r ?_
        refine thenK_r ?_
        exact .mk [] (.inr rfl) (.tmp rfl (.nil)) (by simp only [resLV, LV.ren, LV.v.injEq, Value.bool.injEq]; rw [tcheck, if_neg (by omega), if_neg (by simp only [Bool.not_eq_false]; exact hall), if_neg (by omega)]; exact (range_all_false (i := j) (by omega) (by simpa using h12)).symm) (.nil) rfl
       ·have h12 := g12; (try simp only [cmpB, decide_eq_true_eq, decide_eq_false_iff_not, beq_iff_eq, beq_eq_false_iff_ne, bne_iff_ne, ne_eq, bne_eq_false_iff_eq, Bool.not_eq_true', Bool.not_eq_false', Int.not_lt, Int.not_le] at h12)
        refine W_skip ?_
        refine blockK_n ?_
        refine thenK_n ?_
        refine W_seqK (b' := 294) rfl rfl ?_
        refine q0 67 262 1 rfl rfl (T_add64 rfl rfl rfl (by first | assumption | omega | exact okPath_len (hJ.2 0 (by omega)) | (simp; omega))) rfl ?_
        refine q0 52 278 2 rfl rfl (T_move rfl rfl) rfl ?_
        refine k_done rfl ?_
        refine thenK_n ?_
        refine ⟨j + 1, by (try dsimp only); exact ⟨by omega, fun i hi => by rcases Nat.lt_or_ge i j with h | h; exact hJ.2 i h; rw [show i = j by omega]; simpa using h12⟩, by (try dsimp only); omega, ?_⟩
        exact ⟨[(4, 4), (5, 5)], .same rfl rfl (.same rfl rfl (.same rfl rfl (.same rfl rfl (.eq rfl (.eq rfl (.nil) (by first | rfl | simp)) rfl)))), .fzE rfl (.fzE rfl (.fzE rfl (.box (by first | rfl | simp) (.box (by first | rfl | simp) (.nil))) rfl) rfl) rfl, rfl⟩
      ·have h11 := g11; (try simp only [cmpB, decide_eq_true_eq, decide_eq_false_iff_not, beq_iff_eq, beq_eq_false_iff_ne, bne_iff_ne, ne_eq, bne_eq_false_iff_eq, Bool.not_eq_true', Bool.not_eq_false', Int.not_lt, Int.not_le] at h11)
       refine W_exit ?_
       refine thenK_e ?_
       refine thenK_e ?_
       refine blockK_hit ?_
       refine thenK_n ?_
       refine W_seq ?_
       refine W_seqK (b' := 38) rfl rfl ?_
       refine q0 6 22 1 rfl rfl (T_assign rfl rfl) rfl ?_
       refine k_done rfl ?_
       refine thenK_n ?_
       refine W_ret ?_
       exact .mk [] (.inr rfl) (.tmp rfl (.nil)) (by simp only [resLV, LV.ren, LV.v.injEq, Value.bool.injEq]; rw [tcheck, if_neg (by omega), if_neg (by simp only [Bool.not_eq_false]; exact hall), if_neg (by omega)]; exact (range_all_true (fun i hi => hJ.2 i (by omega))).symm) (.nil) rfl
end Lg
end Go.Proofs.Ytpfhmodjjljpjaa

namespace Go.Proofs.Ytpfhmodjjljpjaa
open Go.RowKit
namespace Lg
theorem instrs_split (f : GFn) (p : List Int) (k : Nat) (hk : k < p.length) : instrs f p = instrs f (p.take k) ++ ((blk f (p.getD k default)).ins ++ instrs f (p.drop (k + 1))) := by
  have h : p = p.take k ++ (p.getD k default :: p.drop (k + 1)) := by
    rw [List.getD_eq_getElem?_getD, List.getElem?_eq_getElem hk, Option.getD_some, List.getElem_cons_drop, List.take_append_drop]
  conv => lhs; rw [h]
  simp [instrs, blk]
theorem instrs_at (f : GFn) (p : List Int) (k i : Nat) (hk : k < p.length) (hi : i < (blk f (p.getD k default)).ins.length) :
    (instrs f p).getD ((instrs f (p.take k)).length + i) default = (blk f (p.getD k default)).ins.getD i default ∧ (instrs f (p.take k)).length + i < (instrs f p).length := by
  rw [instrs_split f p k hk]
  refine ⟨?_, by simp only [List.length_append]; omega⟩
  have h1 : (instrs f (p.take k) ++ ((blk f (p.getD k default)).ins ++ instrs f (p.drop (k + 1))))[(instrs f (p.take k)).length + i]? = (blk f (p.getD k default)).ins[i]? := by
    rw [List.getElem?_append_right (by omega), Nat.add_sub_cancel_left, List.getElem?_append_left hi]
  generalize (blk f (p.getD k default)).ins = X at *
  rw [List.getD_eq_getElem?_getD, h1, List.getD_eq_getElem?_getD]
theorem made_ins {f : GFn} {b : GBlock} {p : List Int} {ps : List (List Int)} (h : ¬ b.ins = instrs f p) : made f b p ps = false := by
  simp [made, h]
theorem ins_ne {f : GFn} {b : GBlock} {p : List Int} {k i : Nat} (hk : k < p.length) (hi : i < (blk f (p.getD k default)).ins.length)
    (h : b.ins.length ≤ (instrs f (p.take k)).length + i ∨ ¬ b.ins.getD ((instrs f (p.take k)).length + i) default = (blk f (p.getD k default)).ins.getD i default) : ¬ b.ins = instrs f p := fun e => by
  obtain ⟨h1, h2⟩ := instrs_at f p k i hk hi
  rcases h with h | h
  · rw [e] at h; omega
  · rw [e] at h; exact h h1
theorem ins_step {f : GFn} {b : GBlock} {p : List Int} {k i : Nat} (hk : k < p.length) (hi : i < (blk f (p.getD k default)).ins.length) (h : b.ins.getD ((instrs f (p.take k)).length + i) default = (blk f (p.getD k default)).ins.getD i default)
    (hb : ∀ m, m < (instrs f (p.take k)).length + i → b.ins.getD m default = (instrs f p).getD m default) : ∀ m, m < (instrs f (p.take k)).length + (i + 1) → b.ins.getD m default = (instrs f p).getD m default := fun m hm => by
  rcases Nat.lt_or_ge m ((instrs f (p.take k)).length + i) with h1 | h1
  · exact hb m h1
  · rw [show m = (instrs f (p.take k)).length + i by omega, h, (instrs_at f p k i hk hi).1]
theorem take_len_le (f : GFn) (p : List Int) (k : Nat) : (instrs f (p.take k)).length ≤ (instrs f p).length := by
  have h := congrArg (fun q => (instrs f q).length) (List.take_append_drop k p)
  simp only [instrs, List.map_append, List.flatten_append, List.length_append] at h
  simp only [instrs]
  omega
theorem made_tail {f : GFn} {b : GBlock} {p : List Int} {ps : List (List Int)} (hc : chainB f p = true) (e : b.ins = instrs f p) (h1 : b.fin = (blk f (lastOf p)).fin) (h2 : b.v = (blk f (lastOf p)).v) :
    made f b p ps = if b.fin = 1 then leads ps b.to (blk f (lastOf p)).to && b.els == (blk f (lastOf p)).els
      else if b.fin = 2 then leads ps b.to (blk f (lastOf p)).to && leads ps b.els (blk f (lastOf p)).els
      else b.to == (blk f (lastOf p)).to && b.els == (blk f (lastOf p)).els := by
  unfold made
  rw [hc, decide_eq_true e, h1, h2]
  simp only [beq_self_eq_true, Bool.true_and]
theorem made_fin {f : GFn} {b : GBlock} {p : List Int} {ps : List (List Int)} (h : ¬ b.fin = (blk f (lastOf p)).fin) : made f b p ps = false := by
  unfold made
  rw [beq_eq_false_iff_ne.2 h]
  simp
theorem made_v {f : GFn} {b : GBlock} {p : List Int} {ps : List (List Int)} (h : ¬ b.v = (blk f (lastOf p)).v) : made f b p ps = false := by
  unfold made
  rw [beq_eq_false_iff_ne.2 h]
  simp
theorem any_false_getD {α : Type} [Inhabited α] {a : List α} {q : α → Bool} (h : ∀ i, i < a.length → q (a.getD i default) = false) : a.any q = false := by
  rw [List.any_eq_false]
  intro x hx
  obtain ⟨i, hi, rfl⟩ := List.mem_iff_getElem.1 hx
  have := h i hi
  simpa [List.getD_eq_getElem?_getD, List.getElem?_eq_getElem hi] using this
theorem any_true_getD {α : Type} [Inhabited α] {a : List α} {q : α → Bool} {i : Nat} (hi : i < a.length) (h : q (a.getD i default) = true) : a.any q = true := List.any_eq_true.2 ⟨_, getD_mem hi, h⟩
end Lg
end Go.Proofs.Ytpfhmodjjljpjaa
