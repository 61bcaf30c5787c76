/- TextStrips: whatever tree comes in, the law answers true and its input reads as it did (the tied card) -/
import Derived.Test.YtpfjeinhmmmhkaaGreatDoorD5
namespace Go.Proofs.YtpfjeinhmmmhkaaGreatDoor
theorem textStrips_card : Rows.TextStripsCardSaid := Go.Det.Sea.TextStrips.card'
end Go.Proofs.YtpfjeinhmmmhkaaGreatDoor
