import Derived.Test.YtpfhmodjjljpjaaRp
import Derived.Test.YtpfhmodjjljpjaaPi
namespace Go.Proofs.Ytpfhmodjjljpjaa
open Go.RowKit
namespace Lg
theorem fnOk {f : GFn} (h : WFn f) : FnOk f := ⟨by have := h.len; omega, fun b hb => by have := (h.each b hb).len; omega⟩
theorem psOk {l : List (List Int)} (h : WIss l) : PsOk l := ⟨by have := h.len; omega, fun p hp => by have := (h.each p hp).len; omega⟩
end Lg
end Go.Proofs.Ytpfhmodjjljpjaa
