/- A list of natural numbers, as integers. -/
namespace Go.Proofs.Ytmnohhmnkmnikaa.Nats
def ints (l : List Nat) : List Int := l.map (fun (x : Nat) => (x : Int))
theorem ints_length (l : List Nat) : (ints l).length = l.length := by simp [ints]
end Go.Proofs.Ytmnohhmnkmnikaa.Nats

