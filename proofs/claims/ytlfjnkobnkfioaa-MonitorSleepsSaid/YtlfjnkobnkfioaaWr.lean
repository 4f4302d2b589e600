/- The functions that write what they are lent. -/
namespace Go.Ab
def wrF : List Nat := [24, 25, 28, 29, 31, 33, 34, 43, 55]
end Go.Ab
