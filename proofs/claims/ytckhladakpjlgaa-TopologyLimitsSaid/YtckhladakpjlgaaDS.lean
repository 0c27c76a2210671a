/- Functions of the program, written anew. No condition but those that stand in each. -/
import Derived.Test.YtckhladakpjlgaaT
namespace Go.Proofs.Ytckhladakpjlgaa
open Go
set_option maxRecDepth 100000
set_option linter.all false
def m_math_bits_Len64 (xa0 : Int) : Option Int :=
 jn (fun (sg : Int × Int) => match sg with | (vx_1, n_1) => jn (fun (sg : Int × Int) => match sg with | (vx_2, n_2) => jn (fun (sg : Int × Int) => match sg with | (vx_3, n_3) => bnd (ixS (⟨#[0, 1, 2, 2, 3, 3, 3, 3, 4, 4, 4, 4, 4, 4, 4, 4, 5, 5, 5, 5, 5, 5, 5, 5, 5, 5, 5, 5, 5, 5, 5, 5, 6, 6, 6, 6, 6, 6, 6, 6, 6, 6, 6, 6, 6, 6, 6, 6, 6, 6, 6, 6, 6, 6, 6, 6, 6, 6, 6, 6, 6, 6, 6, 6, 7, 7, 7, 7, 7, 7, 7, 7, 7, 7, 7, 7, 7, 7, 7, 7, 7, 7, 7, 7, 7, 7, 7, 7, 7, 7, 7, 7, 7, 7, 7, 7, 7, 7, 7, 7, 7, 7, 7, 7, 7, 7, 7, 7, 7, 7, 7, 7, 7, 7, 7, 7, 7, 7, 7, 7, 7, 7, 7, 7, 7, 7, 7, 7, 8, 8, 8, 8, 8, 8, 8, 8, 8, 8, 8, 8, 8, 8, 8, 8, 8, 8, 8, 8, 8, 8, 8, 8, 8, 8, 8, 8, 8, 8, 8, 8, 8, 8, 8, 8, 8, 8, 8, 8, 8, 8, 8, 8, 8, 8, 8, 8, 8, 8, 8, 8, 8, 8, 8, 8, 8, 8, 8, 8, 8, 8, 8, 8, 8, 8, 8, 8, 8, 8, 8, 8, 8, 8, 8, 8, 8, 8, 8, 8, 8, 8, 8, 8, 8, 8, 8, 8, 8, 8, 8, 8, 8, 8, 8, 8, 8, 8, 8, 8, 8, 8, 8, 8, 8, 8, 8, 8, 8, 8, 8, 8, 8, 8, 8, 8, 8, 8, 8, 8, 8, 8, 8, 8, 8, 8, 8, 8]⟩ : ByteArray) (IntKind.wrap .u8 vx_3)) fun (b_1 : UInt8) => some (w64 (n_3 + (w64 (b_1.toNat : Int))))) fun J3 => bif decide ((256:Int) ≤ vx_2) then J3 (Int.fdiv vx_2 (2 ^ min (8:Int).toNat 64), w64 (n_2 + (8:Int))) else J3 (vx_2, n_2)) fun J2 => bif decide ((65536:Int) ≤ vx_1) then J2 (Int.fdiv vx_1 (2 ^ min (16:Int).toNat 64), w64 (n_1 + (16:Int))) else J2 (vx_1, n_1)) fun J1 => bif decide ((4294967296:Int) ≤ xa0) then J1 (Int.fdiv xa0 (2 ^ min (32:Int).toNat 64), (32:Int)) else J1 (xa0, (0:Int))
def m_math_bits_Len (xa0 : Int) : Option Int :=
 bnd (m_math_bits_Len64 xa0) fun (vx_1 : Int) => some vx_1
def m_slices_insertionSortOrdered_int_nil  : Option Unit :=
 whl (fun (Z1 : Unit → Option _) (sg : Unit) => match sg with | () => some ()) ()
def m_slices_pdqsortOrdered_int_nil (limit : Int) : Option Unit :=
 whl (fun (Z1 : Unit → Option _) (sg : Unit) => match sg with | () => bnd (m_slices_insertionSortOrdered_int_nil) fun (vx_1 : Unit) => some ()) ()
def m_slices_Sort_Lint_int_nil  : Option Unit :=
 bnd (m_math_bits_Len (0:Int)) fun (vx_1 : Int) => bnd (m_slices_pdqsortOrdered_int_nil vx_1) fun (vx_2 : Unit) => some ()
end Go.Proofs.Ytckhladakpjlgaa
