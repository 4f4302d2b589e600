/- The functions that write what they are lent; the types that are maps'. -/
namespace Go.Ab
def wrF : List Nat := [17, 39, 51, 53, 56, 60, 61, 62, 63, 64, 65, 66, 67, 68, 69, 76, 78, 102, 103, 109, 112, 113, 118, 121, 123, 124, 128, 135, 136, 137, 138, 142, 145, 147, 161, 162, 169, 172, 173, 174, 175, 181, 188, 192, 215, 219, 220, 223, 233, 250, 253, 258, 280, 285, 286, 292, 299, 300, 301, 302, 322, 323, 324]
/-- The types that are maps'. -/
def mpT : List Nat := [107, 108, 396]
end Go.Ab
