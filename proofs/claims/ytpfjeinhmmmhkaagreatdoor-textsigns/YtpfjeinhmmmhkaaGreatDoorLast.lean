/- TextSigns: whatever three signs come in, the law answers true and its input reads as it did (the tied card) -/
import Derived.Test.YtpfjeinhmmmhkaaGreatDoorD6
namespace Go.Proofs.YtpfjeinhmmmhkaaGreatDoor
theorem textSigns_card : Rows.TextSignsCardSaid := Go.Det.Sea.TextSigns.card'
end Go.Proofs.YtpfjeinhmmmhkaaGreatDoor
