/- CheckerSpells: the law. -/
import Derived.Test.YtbdajblfnkoagaaGreatDoorQKnown
import Derived.Test.YtbdajblfnkoagaaGreatDoorQLawSpB
set_option linter.unusedVariables false
set_option linter.unusedSimpArgs false
namespace Go.Vm
open Go Go.Am
theorem law_spells (noms accs : List Sym) (kk : Int) (cs x : List Int) : CP Y F.schismalaw55_CheckerSpells [.agg [syms noms, syms accs], .agg [I kk, lst di cs], lst di x] (B true) := law_spells_of known_ok
end Go.Vm
