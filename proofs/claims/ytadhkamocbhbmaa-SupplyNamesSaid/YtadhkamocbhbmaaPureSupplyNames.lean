import Derived.Test.YtadhkamocbhbmaaPx18
namespace Go.Proofs.Ytadhkamocbhbmaa.Pure
open Go.RowKit Go.Proofs.Ytadhkamocbhbmaa.P Go.Proofs.YtadhkamocbhbmaaW.PrintWords Go.Proofs.YtadhkamocbhbmaaW.PrintLast

theorem SupplyNames : wigwaglaw18_SupplyNames.Pure := rfl

end Go.Proofs.Ytadhkamocbhbmaa.Pure
