/- The event's size and zero, for a seat whose printed texts don't tell it. -/
import Derived.Test.YtmongghhagbokaaPPlayRightsx0
namespace Go.Proofs.Ytmongghhagbokaa.PPlayRights
theorem info54 : (Try.prog.info? 54).map (fun i => (i.zero, i.size, i.bytes)) = some (some (.agg #[(.int .i64 0), (.int .i64 0), (.string ⟨#[]⟩), (.int .i64 0), (.int .i64 0)]), 5, 48) := by kernel_rfl
end Go.Proofs.Ytmongghhagbokaa.PPlayRights
