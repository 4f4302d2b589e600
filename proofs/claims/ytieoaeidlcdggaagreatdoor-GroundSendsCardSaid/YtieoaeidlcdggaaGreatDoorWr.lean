/- The functions that write what they are lent; the types that are maps'. -/
namespace Go.Ab
def wrF : List Nat := [7, 44]
/-- The types that are maps'. -/
def mpT : List Nat := [75]
end Go.Ab
