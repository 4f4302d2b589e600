/- The functions that write what they are lent. -/
namespace Go.Ab
def wrF : List Nat := [45, 46, 48, 51, 52, 53, 54, 55]
end Go.Ab
