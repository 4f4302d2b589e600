/- The functions that write what they are lent; the types that are maps'. -/
namespace Go.Ab
def wrF : List Nat := [49, 52, 58, 60, 61, 64, 65]
/-- The types that are maps'. -/
def mpT : List Nat := []
end Go.Ab
