/- The functions that write what they are lent; the types that are maps'. -/
namespace Go.Ab
def wrF : List Nat := [24, 25, 26, 28, 29, 30, 31, 32, 33, 34, 35, 38, 43, 46, 48, 49, 50, 52, 54, 55, 56, 59]
/-- The types that are maps'. -/
def mpT : List Nat := [66, 107]
end Go.Ab
