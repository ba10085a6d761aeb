/-
  Its second pattern.
-/
import Derived.Test.YtpaebiddgpjlnabGreatDoorSqhA

namespace Go.Vmm
open Go Go.Am Go.Proofs

def qbcore : List AV := [(.int .i64 2), (.int .i64 0), (.int .i64 0), (.vec [(.agg [(.int .i64 44), (.int .i64 44)])] .shut), (.bool false), (.int .i64 0), (.int .i64 0), (.int .i64 0), (.str []), (.int .i64 0), (.int .i64 0), .nilsl, (.int .i64 0), .nilsl, (.int .i64 0)]
def qbm : AV := (.ptr 175 0 0)
def qb_125 : AObj := .cells [(.int .i64 2), (.int .i64 0), (.int .i64 0), (.vec [(.agg [(.int .i64 44), (.int .i64 44)])] .shut), (.bool false), (.int .i64 0), (.int .i64 0), (.int .i64 0), (.str []), (.int .i64 0), (.int .i64 0), .nilsl, (.int .i64 0), .nilsl, (.int .i64 0)] 0
def qb_126 : AObj := .cells [(.int .i64 2), (.int .i64 0), (.int .i64 0), (.vec [(.agg [(.int .i64 44), (.int .i64 44)])] .shut), (.bool false), (.int .i64 0), (.int .i64 0), (.int .i64 0), (.str []), (.int .i64 0), (.int .i64 0), .nilsl, (.int .i64 0), .nilsl, (.int .i64 0)] 0
def qb_127 : AObj := .cells [(.int .i64 2), (.int .i64 0), (.int .i64 0), (.vec [(.agg [(.int .i64 44), (.int .i64 44)])] .shut), (.bool false), (.int .i64 0), (.int .i64 0), (.int .i64 0), (.str []), (.int .i64 0), (.int .i64 0), .nilsl, (.int .i64 0), .nilsl, (.int .i64 0)] 0
def qb_128 : AObj := .cells [(.int .i64 2), (.int .i64 0), (.int .i64 0), (.vec [(.agg [(.int .i64 44), (.int .i64 44)])] .shut), (.bool false), (.int .i64 0), (.int .i64 0), (.int .i64 0), (.str []), (.int .i64 0), (.int .i64 0), .nilsl, (.int .i64 0), .nilsl, (.int .i64 0)] 0
def qb_129 : AObj := .mapo []
def qb_130 : AObj := .cells [(.int .i64 2), (.int .i64 0), (.int .i64 0), (.vec [(.agg [(.int .i64 44), (.int .i64 44)])] .shut), (.bool false), (.int .i64 0), (.int .i64 0), (.int .i64 0), (.str []), (.int .i64 0), (.int .i64 0), .nilsl, (.int .i64 0), .nilsl, (.int .i64 0)] 0
def qb_131 : AObj := .cells [(.int .i64 2), (.int .i64 0), (.int .i64 0), (.vec [(.agg [(.int .i64 44), (.int .i64 44)])] .shut), (.bool false), (.int .i64 0), (.int .i64 0), (.int .i64 0), (.str []), (.int .i64 0), (.int .i64 0), .nilsl, (.int .i64 0), .nilsl, (.int .i64 0)] 0
def qb_132 : AObj := .cells [(.func 125 [] [(.ptr 132 0 0)])] 0
def qb_133 : AObj := .cells [(.ms 137 2 0 3 3 7), (.ms 143 0 0 1 1 1), (.map 129), (.int .i64 0), (.int .i64 2), (.int .i64 0), (.int .i64 0), (.vec [(.agg [(.int .i64 44), (.int .i64 44)])] .shut), (.bool false), (.int .i64 0), (.int .i64 0), (.int .i64 0), (.str []), (.int .i64 0), (.int .i64 0), .nilsl, (.int .i64 0), .nilsl, (.int .i64 0)] 0
def qb_134 : AObj := .mapo [((.str [52, 52, 45, 52, 52, 44]), (.int .i64 0))]
def qb_135 : AObj := .cells [(.ptr 133 0 0), (.map 134), .nilsl, (.ptr 139 0 0)] 0
def qb_136 : AObj := .cells [(.int .i64 0), (.int .i64 0), (.int .i64 0), (.int .i64 0), (.int .i64 0), (.bool false), (.str [])] 0
def qb_137 : AObj := .cells [(.int .i64 0), (.int .i64 0), (.int .i64 0), (.int .i64 0), (.int .i64 0), (.bool false), (.str []), (.int .i64 1), (.int .i64 0), (.int .i64 0), (.int .i64 0), (.int .i64 0), (.bool false), (.str []), (.int .i64 23), (.int .i64 0), (.int .i64 0), (.int .i64 0), (.int .i64 0), (.bool false), (.str [])] 2
def qb_138 : AObj := .cells [(.int .i64 2), (.int .i64 0), (.int .i64 0), (.vec [(.agg [(.int .i64 44), (.int .i64 44)])] .shut), (.bool false), (.int .i64 0), (.int .i64 0), (.int .i64 0), (.str []), (.int .i64 0), (.int .i64 0), .nilsl] 0
def qb_139 : AObj := .cells [.nilsl] 0
def qb_140 : AObj := .cells [(.ptr 135 0 0)] 0
def qb_141 : AObj := .cells [(.int .i64 2), (.int .i64 0), (.int .i64 0), (.vec [(.agg [(.int .i64 44), (.int .i64 44)])] .shut), (.bool false), (.int .i64 0), (.int .i64 0), (.int .i64 0), (.str []), (.int .i64 0), (.int .i64 0), .nilsl] 0
def qb_142 : AObj := .cells [(.int .i64 44), (.int .i64 44)] 0
def qb_143 : AObj := .cells [(.vec [(.cplx .f64 4631389266797133824 4631389266797133824)] .shut)] 0
def qb_144 : AObj := .cells [(.int .i64 1), (.int .i64 0), (.int .i64 0), (.int .i64 0), (.int .i64 0), (.bool false), (.str [])] 0
def qb_145 : AObj := .pend
def qb_146 : AObj := .cells [(.int .i64 23), (.int .i64 0), (.int .i64 0), (.int .i64 0), (.int .i64 0), (.bool false), (.str [])] 0
def qb_147 : AObj := .pend
def qb_148 : AObj := .cells [(.int .i64 2), (.int .i64 0), (.int .i64 0), (.vec [(.agg [(.int .i64 44), (.int .i64 44)])] .shut), (.bool false), (.int .i64 0), (.int .i64 0), (.int .i64 0), (.str []), (.int .i64 0), (.int .i64 0), .nilsl, (.int .i64 0), .nilsl, (.int .i64 0)] 0
def qb_149 : AObj := .cells [(.int .i64 2), (.int .i64 0), (.int .i64 0), (.vec [(.agg [(.int .i64 44), (.int .i64 44)])] .shut), (.bool false), (.int .i64 0), (.int .i64 0), (.int .i64 0), (.str []), (.int .i64 0), (.int .i64 0), .nilsl, (.int .i64 0), .nilsl, (.int .i64 0)] 0
def qb_150 : AObj := .cells [(.int .i64 2), (.int .i64 0), (.int .i64 0), (.vec [(.agg [(.int .i64 44), (.int .i64 44)])] .shut), (.bool false), (.int .i64 0), (.int .i64 0), (.int .i64 0), (.str []), (.int .i64 0), (.int .i64 0), .nilsl] 0
def qb_151 : AObj := .cells [(.bool true)] 0
def qb_152 : AObj := .cells [(.func 77 [] [(.ptr 152 0 0), (.ptr 151 0 0), (.ptr 150 0 0)])] 0
def qb_153 : AObj := .cells [(.int .i64 2), (.int .i64 0), (.int .i64 0), (.vec [(.agg [(.int .i64 44), (.int .i64 44)])] .shut), (.bool false), (.int .i64 0), (.int .i64 0), (.int .i64 0), (.str []), (.int .i64 0), (.int .i64 0), .nilsl] 0
def qb_154 : AObj := .cells [(.int .i64 2), (.int .i64 0), (.int .i64 0), (.vec [(.agg [(.int .i64 44), (.int .i64 44)])] .shut), (.bool false), (.int .i64 0), (.int .i64 0), (.int .i64 0), (.str []), (.int .i64 0), (.int .i64 0), .nilsl] 0
def qb_155 : AObj := .cells [(.int .i64 2), (.int .i64 0), (.int .i64 0), (.vec [(.agg [(.int .i64 44), (.int .i64 44)])] .shut), (.bool false), (.int .i64 0), (.int .i64 0), (.int .i64 0), (.str []), (.int .i64 0), (.int .i64 0), .nilsl, (.int .i64 0), .nilsl, (.int .i64 0)] 0
def qb_156 : AObj := .mapo []
def qb_157 : AObj := .cells [(.int .i64 2), (.int .i64 0), (.int .i64 0), (.vec [(.agg [(.int .i64 44), (.int .i64 44)])] .shut), (.bool false), (.int .i64 0), (.int .i64 0), (.int .i64 0), (.str []), (.int .i64 0), (.int .i64 0), .nilsl, (.int .i64 0), .nilsl, (.int .i64 0)] 0
def qb_158 : AObj := .cells [(.int .i64 2), (.int .i64 0), (.int .i64 0), (.vec [(.agg [(.int .i64 44), (.int .i64 44)])] .shut), (.bool false), (.int .i64 0), (.int .i64 0), (.int .i64 0), (.str []), (.int .i64 0), (.int .i64 0), .nilsl, (.int .i64 0), .nilsl, (.int .i64 0)] 0
def qb_159 : AObj := .cells [(.func 125 [] [(.ptr 159 0 0)])] 0
def qb_160 : AObj := .cells [(.ms 164 2 0 3 3 7), (.ms 170 0 0 1 1 1), (.map 156), (.int .i64 0), (.int .i64 2), (.int .i64 0), (.int .i64 0), (.vec [(.agg [(.int .i64 44), (.int .i64 44)])] .shut), (.bool false), (.int .i64 0), (.int .i64 0), (.int .i64 0), (.str []), (.int .i64 0), (.int .i64 0), .nilsl, (.int .i64 0), .nilsl, (.int .i64 0)] 0
def qb_161 : AObj := .mapo [((.str [52, 52, 45, 52, 52, 44]), (.int .i64 0))]
def qb_162 : AObj := .cells [(.ptr 160 0 0), (.map 161), .nilsl, (.ptr 166 0 0)] 0
def qb_163 : AObj := .cells [(.int .i64 0), (.int .i64 0), (.int .i64 0), (.int .i64 0), (.int .i64 0), (.bool false), (.str [])] 0
def qb_164 : AObj := .cells [(.int .i64 0), (.int .i64 0), (.int .i64 0), (.int .i64 0), (.int .i64 0), (.bool false), (.str []), (.int .i64 1), (.int .i64 0), (.int .i64 0), (.int .i64 0), (.int .i64 0), (.bool false), (.str []), (.int .i64 23), (.int .i64 0), (.int .i64 0), (.int .i64 0), (.int .i64 0), (.bool false), (.str [])] 2
def qb_165 : AObj := .cells [(.int .i64 2), (.int .i64 0), (.int .i64 0), (.vec [(.agg [(.int .i64 44), (.int .i64 44)])] .shut), (.bool false), (.int .i64 0), (.int .i64 0), (.int .i64 0), (.str []), (.int .i64 0), (.int .i64 0), .nilsl] 0
def qb_166 : AObj := .cells [.nilsl] 0
def qb_167 : AObj := .cells [(.ptr 162 0 0)] 0
def qb_168 : AObj := .cells [(.int .i64 2), (.int .i64 0), (.int .i64 0), (.vec [(.agg [(.int .i64 44), (.int .i64 44)])] .shut), (.bool false), (.int .i64 0), (.int .i64 0), (.int .i64 0), (.str []), (.int .i64 0), (.int .i64 0), .nilsl] 0
def qb_169 : AObj := .cells [(.int .i64 44), (.int .i64 44)] 0
def qb_170 : AObj := .cells [(.vec [(.cplx .f64 4631389266797133824 4631389266797133824)] .shut)] 0
def qb_171 : AObj := .cells [(.int .i64 1), (.int .i64 0), (.int .i64 0), (.int .i64 0), (.int .i64 0), (.bool false), (.str [])] 0
def qb_172 : AObj := .pend
def qb_173 : AObj := .cells [(.int .i64 23), (.int .i64 0), (.int .i64 0), (.int .i64 0), (.int .i64 0), (.bool false), (.str [])] 0
def qb_174 : AObj := .pend
def qb_175 : AObj := .cells [(.int .i64 2), (.int .i64 0), (.int .i64 0), (.vec [(.agg [(.int .i64 44), (.int .i64 44)])] .shut), (.bool false), (.int .i64 0), (.int .i64 0), (.int .i64 0), (.str []), (.int .i64 0), (.int .i64 0), .nilsl, (.int .i64 0), .nilsl, (.int .i64 0), (.ptr 133 0 0), (.ptr 160 0 0), (.bool false), (.func 40 [] [(.ptr 176 0 0), (.ptr 177 0 0)])] 0
def qb_176 : AObj := .cells [(.ptr 175 0 0)] 0
def qb_177 : AObj := .cells [(.vec [(.cplx .f64 4631389266797133824 4631389266797133824)] .shut)] 0
def baqb : List AObj := hqa0 ++ [.cells qacore 0]
def hqb0 : List AObj := baqb ++ [qb_125, qb_126, qb_127, qb_128, qb_129, qb_130, qb_131, qb_132, qb_133, qb_134, qb_135, qb_136, qb_137, qb_138, qb_139, qb_140, qb_141, qb_142, qb_143, qb_144, qb_145, qb_146, qb_147, qb_148, qb_149, qb_150, qb_151, qb_152, qb_153, qb_154, qb_155, qb_156, qb_157, qb_158, qb_159, qb_160, qb_161, qb_162, qb_163, qb_164, qb_165, qb_166, qb_167, qb_168, qb_169, qb_170, qb_171, qb_172, qb_173, qb_174, qb_175, qb_176, qb_177]
def hq : List AObj := hqb0 ++ [.cells qbcore 0]
theorem mdqb : callF T 597 bz 7 [.vec (bs [44]) (.exact false), .int .i64 0] ⟨baqb, [1, 1], [], glT⟩ = some (.ret (.tup [.agg qbcore, qbm, .bool true]), ⟨hqb0, [1, 1], [], glT⟩) := by kernel_rfl

end Go.Vmm
