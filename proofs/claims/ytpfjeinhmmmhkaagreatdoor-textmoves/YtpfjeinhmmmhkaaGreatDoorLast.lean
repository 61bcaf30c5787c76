/- TextMovesCardSaid -/
import Derived.Test.YtpfjeinhmmmhkaaGreatDoorD34
namespace Go.Proofs.YtpfjeinhmmmhkaaGreatDoor
theorem textMoves_card : Rows.TextMovesCardSaid := Go.Det.Sea.TextMoves.card'
end Go.Proofs.YtpfjeinhmmmhkaaGreatDoor
