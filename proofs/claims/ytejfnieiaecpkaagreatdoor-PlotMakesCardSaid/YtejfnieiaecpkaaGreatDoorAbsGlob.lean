/- The listed package-level variables: none. -/
namespace Go.Abs
def dU (_:Nat):Option (List Int):=none
end Go.Abs
