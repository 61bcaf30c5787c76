/- TextMovesCardSaid: part 27 of the texts behind it: Top5. No premise of its own. -/
import Derived.Test.YtpfjeinhmmmhkaaGreatDoorD26
set_option linter.all false
section
namespace Go.Det.Sea
open Go Go.Det Go.Proofs Go.Proofs.YtpfjeinhmmmhkaaGreatDoor
theorem known_run (n : Int) : Run (cfgG n) prG owG (.call 8 [] [] (.bool true) []) := kq209 n
theorem known_ok (n : Int) : Callable Tryz.prog 8 /\ CallOK Tryz.prog (cfgG n) 8 [] [] (.bool true) [] := Run.sound (cfgG_ok n (prG_ok n)) (known_run n)
def prF (g : Nat) (xs : List DV) (r : DV) : Prop := prG g xs r \/ (g = 8 /\ xs = [] /\ r = .bool true)
theorem prF_ok (n : Int) : ∀ g xs r, prF g xs r -> Callable Tryz.prog g /\ CallOK Tryz.prog (cfgG n) g xs [] r [] := by
  rintro g xs r (h | ⟨rfl, rfl, rfl⟩)
  · exact prG_ok n g xs r h
  · exact known_ok n
namespace TextStrips
end TextStrips
end Go.Det.Sea
end
