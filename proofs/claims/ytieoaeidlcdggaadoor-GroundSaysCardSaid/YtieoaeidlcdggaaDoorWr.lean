/- The functions that write what they are lent; the types that are maps'. -/
namespace Go.Ab
def wrF : List Nat := []
/-- The types that are maps'. -/
def mpT : List Nat := [49]
end Go.Ab
