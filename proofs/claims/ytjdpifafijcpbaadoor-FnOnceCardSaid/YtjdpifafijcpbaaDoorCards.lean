/-
  DERIVED. GIVEN WITH THE SEED: THE CARDS: each row of YtjdpifafijcpbaaDoorRows.lean that lists a variable, with what it lists TIED to the program's text (the seventh form; the later family's looks); each row that meets fmt, with fmt's text TOLD by the authors' own Lean function (tested against real Go, not proved from fmt's source: count such statements apart). THE CARD IS WHAT COUNTS. Prove the row's statement (the work); the ties are given (YtjdpifafijcpbaaDoorTie.lean); close each card by the builder's one call (the guide's Derived/Test/ToyasCard.lean, 'card_holds'). Laid BY PROGRAM, IN A SANDBOX (cutbox-door.mjs). By AI agents, Wed Nov 11 2026. No macro, syntax, notation, axiom, sorry.
-/
import Derived.Test.YtjdpifafijcpbaaDoorRows
import GoSem.ClaimSeven
namespace Go.Proofs.YtjdpifafijcpbaaDoor
namespace Rows

/-- THE TIED CARD OF 'laws.FnExactOnceEach'. -/
def fnExactOnceEachCard : Claim7 := { stood := { row := fnExactOnceEachRow, standIns := [], harness := (true, "271306a839dd5d01c9ef5a2d993dfef24a69a470b57593382f5be107d2c45f04"), looks := false }, kinds := [], alts := [], laidByText := true, laidKinds := [.data, .data, .data], laidTests := true, laidLooks := .later }
def FnExactOnceEachCardSaid : Prop := Claim7.holds Tryd.pinned (.plain (OpenSpec.ofChange fnExactOnceEachSpec)) fnExactOnceEachCard

/-- THE TIED CARD OF 'laws.FnOnce'. -/
def fnOnceCard : Claim7 := { stood := { row := fnOnceRow, standIns := [], harness := (true, "271306a839dd5d01c9ef5a2d993dfef24a69a470b57593382f5be107d2c45f04"), looks := false }, kinds := [], alts := [], laidByText := true, laidKinds := [.data, .data, .data], laidTests := true, laidLooks := .later }
def FnOnceCardSaid : Prop := Claim7.holds Tryd.pinned (.plain (OpenSpec.ofChange fnOnceSpec)) fnOnceCard

/-- THE TIED CARD OF 'laws.FnForgotten'. -/
def fnForgottenCard : Claim7 := { stood := { row := fnForgottenRow, standIns := [], harness := (true, "271306a839dd5d01c9ef5a2d993dfef24a69a470b57593382f5be107d2c45f04"), looks := false }, kinds := [], alts := [], laidByText := true, laidKinds := [.data, .data, .data], laidTests := true, laidLooks := .later }
def FnForgottenCardSaid : Prop := Claim7.holds Tryd.pinned (.plain (OpenSpec.ofChange fnForgottenSpec)) fnForgottenCard

/-- THE SECOND FORM's CARD OF 'laws.FnExactOnceEach'. -/
def fnExactOnceEachUptoCard : Claim7 := { stood := { row := fnExactOnceEachUptoRow, standIns := [], harness := (true, "271306a839dd5d01c9ef5a2d993dfef24a69a470b57593382f5be107d2c45f04"), looks := false }, kinds := [], alts := [], laidByText := true, laidKinds := [.data, .data, .data], laidTests := true, laidLooks := .later }
def FnExactOnceEachUptoCardSaid : Prop := Claim7.holds Tryd.pinned (.plain (OpenSpec.upto fnExactOnceEachSpec)) fnExactOnceEachUptoCard

/-- THE SECOND FORM's CARD OF 'laws.FnOnce'. -/
def fnOnceUptoCard : Claim7 := { stood := { row := fnOnceUptoRow, standIns := [], harness := (true, "271306a839dd5d01c9ef5a2d993dfef24a69a470b57593382f5be107d2c45f04"), looks := false }, kinds := [], alts := [], laidByText := true, laidKinds := [.data, .data, .data], laidTests := true, laidLooks := .later }
def FnOnceUptoCardSaid : Prop := Claim7.holds Tryd.pinned (.plain (OpenSpec.upto fnOnceSpec)) fnOnceUptoCard

/-- THE SECOND FORM's CARD OF 'laws.FnForgotten'. -/
def fnForgottenUptoCard : Claim7 := { stood := { row := fnForgottenUptoRow, standIns := [], harness := (true, "271306a839dd5d01c9ef5a2d993dfef24a69a470b57593382f5be107d2c45f04"), looks := false }, kinds := [], alts := [], laidByText := true, laidKinds := [.data, .data, .data], laidTests := true, laidLooks := .later }
def FnForgottenUptoCardSaid : Prop := Claim7.holds Tryd.pinned (.plain (OpenSpec.upto fnForgottenSpec)) fnForgottenUptoCard
end Rows
end Go.Proofs.YtjdpifafijcpbaaDoor
