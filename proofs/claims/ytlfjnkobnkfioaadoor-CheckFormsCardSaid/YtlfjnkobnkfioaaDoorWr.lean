/- The functions that write what they are lent. -/
namespace Go.Ab
def wrF : List Nat := []
end Go.Ab
