/- The reference's header, read as the program reads it; bytes behind a first one; the reference's bytes of a header. -/
import Derived.Test.YtmhmmmkpijbbiadPuHead
namespace Go.Proofs.Ytmhmmmkpijbbiad.PuHead
open Go.RowKit Go.Proofs.YtmhmmmkpijbbiadW.PrintWords Go.Proofs.YtmhmmmkpijbbiadW.PrintMore Go.Proofs.Ytmhmmmkpijbbiad.M Go.Proofs.Ytmhmmmkpijbbiad.Bv Go.Proofs.Ytmhmmmkpijbbiad.PuLib Go.Proofs.Ytmhmmmkpijbbiad.PuCat
end Go.Proofs.Ytmhmmmkpijbbiad.PuHead
