/-
  THE RECKONED CODE as a table: printed by program.
-/
import Derived.Test.YtfkidinbolmkiaaQbIr1
import Derived.Test.YtfkidinbolmkiaaQbIr2
import Derived.Test.YtfkidinbolmkiaaQdSum
set_option linter.unusedSimpArgs false
set_option linter.unusedVariables false
set_option maxRecDepth 100000
namespace Go.Proofs.Bw.Qb
open Go.Proofs

def tab : Tab := (.node 48 (.node 22 (.node 14 (.node 10 (.node 7 (.leaf 4 ir4) (.node 8 (.leaf 7 ir7) (.leaf 8 ir8))) (.node 12 (.node 11 (.leaf 10 ir10) (.leaf 11 ir11)) (.node 13 (.leaf 12 ir12) (.leaf 13 ir13)))) (.node 18 (.node 16 (.node 15 (.leaf 14 ir14) (.leaf 15 ir15)) (.node 17 (.leaf 16 ir16) (.leaf 17 ir17))) (.node 20 (.node 19 (.leaf 18 ir18) (.leaf 19 ir19)) (.node 21 (.leaf 20 ir20) (.leaf 21 ir21))))) (.node 40 (.node 36 (.node 34 (.node 33 (.leaf 22 ir22) (.leaf 33 ir33)) (.node 35 (.leaf 34 ir34) (.leaf 35 ir35))) (.node 38 (.node 37 (.leaf 36 ir36) (.leaf 37 ir37)) (.node 39 (.leaf 38 ir38) (.leaf 39 ir39)))) (.node 44 (.node 42 (.node 41 (.leaf 40 ir40) (.leaf 41 ir41)) (.node 43 (.leaf 42 ir42) (.leaf 43 ir43))) (.node 46 (.node 45 (.leaf 44 ir44) (.leaf 45 ir45)) (.node 47 (.leaf 46 ir46) (.leaf 47 ir47)))))) (.node 72 (.node 55 (.node 51 (.node 49 (.leaf 48 ir48) (.node 50 (.leaf 49 ir49) (.leaf 50 ir50))) (.node 53 (.node 52 (.leaf 51 ir51) (.leaf 52 ir52)) (.node 54 (.leaf 53 ir53) (.leaf 54 ir54)))) (.node 68 (.node 66 (.node 56 (.leaf 55 ir55) (.leaf 56 ir56)) (.node 67 (.leaf 66 ir66) (.leaf 67 ir67))) (.node 70 (.node 69 (.sum 68 Qc.C68 Qc.S68) (.sum 69 Qd.C69 Qd.S69)) (.node 71 (.leaf 70 ir70) (.leaf 71 ir71))))) (.node 80 (.node 76 (.node 74 (.node 73 (.sum 72 Qc.C98 Qc.S98) (.sum 73 Qc.C73 Qc.S73)) (.node 75 (.leaf 74 ir74) (.leaf 75 ir75))) (.node 78 (.node 77 (.leaf 76 ir76) (.leaf 77 ir77)) (.node 79 (.leaf 78 ir78) (.leaf 79 ir79)))) (.node 84 (.node 82 (.node 81 (.leaf 80 ir80) (.leaf 81 ir81)) (.node 83 (.leaf 82 ir82) (.leaf 83 ir83))) (.node 100 (.node 97 (.leaf 84 ir84) (.leaf 97 ir97)) (.node 101 (.leaf 100 ir100) (.leaf 101 ir101)))))))
theorem tabOk : tab.Ok Try.prog := ⟨⟨⟨⟨⟨⟨_, _, ok4⟩, ⟨⟨_, _, ok7⟩, ⟨_, _, ok8⟩⟩⟩, ⟨⟨⟨_, _, ok10⟩, ⟨_, _, ok11⟩⟩, ⟨⟨_, _, ok12⟩, ⟨_, _, ok13⟩⟩⟩⟩, ⟨⟨⟨⟨_, _, ok14⟩, ⟨_, _, ok15⟩⟩, ⟨⟨_, _, ok16⟩, ⟨_, _, ok17⟩⟩⟩, ⟨⟨⟨_, _, ok18⟩, ⟨_, _, ok19⟩⟩, ⟨⟨_, _, ok20⟩, ⟨_, _, ok21⟩⟩⟩⟩⟩, ⟨⟨⟨⟨⟨_, _, ok22⟩, ⟨_, _, ok33⟩⟩, ⟨⟨_, _, ok34⟩, ⟨_, _, ok35⟩⟩⟩, ⟨⟨⟨_, _, ok36⟩, ⟨_, _, ok37⟩⟩, ⟨⟨_, _, ok38⟩, ⟨_, _, ok39⟩⟩⟩⟩, ⟨⟨⟨⟨_, _, ok40⟩, ⟨_, _, ok41⟩⟩, ⟨⟨_, _, ok42⟩, ⟨_, _, ok43⟩⟩⟩, ⟨⟨⟨_, _, ok44⟩, ⟨_, _, ok45⟩⟩, ⟨⟨_, _, ok46⟩, ⟨_, _, ok47⟩⟩⟩⟩⟩⟩, ⟨⟨⟨⟨⟨_, _, ok48⟩, ⟨⟨_, _, ok49⟩, ⟨_, _, ok50⟩⟩⟩, ⟨⟨⟨_, _, ok51⟩, ⟨_, _, ok52⟩⟩, ⟨⟨_, _, ok53⟩, ⟨_, _, ok54⟩⟩⟩⟩, ⟨⟨⟨⟨_, _, ok55⟩, ⟨_, _, ok56⟩⟩, ⟨⟨_, _, ok66⟩, ⟨_, _, ok67⟩⟩⟩, ⟨⟨(Qc.sum68), (Qd.sum69)⟩, ⟨⟨_, _, ok70⟩, ⟨_, _, ok71⟩⟩⟩⟩⟩, ⟨⟨⟨⟨(Qc.sum72), (Qc.sum73)⟩, ⟨⟨_, _, ok74⟩, ⟨_, _, ok75⟩⟩⟩, ⟨⟨⟨_, _, ok76⟩, ⟨_, _, ok77⟩⟩, ⟨⟨_, _, ok78⟩, ⟨_, _, ok79⟩⟩⟩⟩, ⟨⟨⟨⟨_, _, ok80⟩, ⟨_, _, ok81⟩⟩, ⟨⟨_, _, ok82⟩, ⟨_, _, ok83⟩⟩⟩, ⟨⟨⟨_, _, ok84⟩, ⟨_, _, ok97⟩⟩, ⟨⟨_, _, ok100⟩, ⟨_, _, ok101⟩⟩⟩⟩⟩⟩⟩

end Go.Proofs.Bw.Qb
