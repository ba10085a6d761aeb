/-
  Of MatchLeft: what the functions that the law reaches come to.
-/
import Derived.Test.YtndindldlkdigabGreatDoorMlhC
import Derived.Test.YtndindldlkdigabGreatDoorMltB

namespace Go.Vmm
open Go Go.Am Go.Proofs

def qccore : List AV := [(.int .i64 12), (.int .i64 0), (.int .i64 0), .nilsl, (.bool false), (.int .i64 0), (.int .i64 0), (.int .i64 0), (.str []), (.int .i64 0), (.int .i64 0), (.vec [(.agg [(.int .i64 2), (.int .i64 0), (.int .i64 0), (.vec [(.agg [(.int .i64 97), (.int .i64 97)])] .shut), (.bool false), (.int .i64 0), (.int .i64 0), (.int .i64 0), (.str []), (.int .i64 0), (.int .i64 0), .nilsl]), (.agg [(.int .i64 2), (.int .i64 1), (.int .i64 0), (.vec [(.agg [(.int .i64 98), (.int .i64 98)])] .shut), (.bool false), (.int .i64 0), (.int .i64 0), (.int .i64 0), (.str []), (.int .i64 0), (.int .i64 0), .nilsl]), (.agg [(.int .i64 2), (.int .i64 2), (.int .i64 0), (.vec [(.agg [(.int .i64 99), (.int .i64 99)])] .shut), (.bool false), (.int .i64 0), (.int .i64 0), (.int .i64 0), (.str []), (.int .i64 0), (.int .i64 0), .nilsl])] .shut), (.int .i64 0), .nilsl, (.int .i64 0)]
def qcm : AV := (.ptr 321 0 0)
def qc_227 : AObj := .cells [(.int .i64 12), (.int .i64 0), (.int .i64 0), .nilsl, (.bool false), (.int .i64 0), (.int .i64 0), (.int .i64 0), (.str []), (.int .i64 0), (.int .i64 0), (.vec [(.agg [(.int .i64 2), (.int .i64 0), (.int .i64 0), (.vec [(.agg [(.int .i64 97), (.int .i64 97)])] .shut), (.bool false), (.int .i64 0), (.int .i64 0), (.int .i64 0), (.str []), (.int .i64 0), (.int .i64 0), .nilsl]), (.agg [(.int .i64 2), (.int .i64 1), (.int .i64 0), (.vec [(.agg [(.int .i64 98), (.int .i64 98)])] .shut), (.bool false), (.int .i64 0), (.int .i64 0), (.int .i64 0), (.str []), (.int .i64 0), (.int .i64 0), .nilsl]), (.agg [(.int .i64 2), (.int .i64 2), (.int .i64 0), (.vec [(.agg [(.int .i64 99), (.int .i64 99)])] .shut), (.bool false), (.int .i64 0), (.int .i64 0), (.int .i64 0), (.str []), (.int .i64 0), (.int .i64 0), .nilsl])] .shut), (.int .i64 0), .nilsl, (.int .i64 0)] 0
def qc_228 : AObj := .cells [(.int .i64 12), (.int .i64 0), (.int .i64 0), .nilsl, (.bool false), (.int .i64 0), (.int .i64 0), (.int .i64 0), (.str []), (.int .i64 0), (.int .i64 0), (.vec [(.agg [(.int .i64 2), (.int .i64 0), (.int .i64 0), (.vec [(.agg [(.int .i64 97), (.int .i64 97)])] .shut), (.bool false), (.int .i64 0), (.int .i64 0), (.int .i64 0), (.str []), (.int .i64 0), (.int .i64 0), .nilsl]), (.agg [(.int .i64 2), (.int .i64 1), (.int .i64 0), (.vec [(.agg [(.int .i64 98), (.int .i64 98)])] .shut), (.bool false), (.int .i64 0), (.int .i64 0), (.int .i64 0), (.str []), (.int .i64 0), (.int .i64 0), .nilsl]), (.agg [(.int .i64 2), (.int .i64 2), (.int .i64 0), (.vec [(.agg [(.int .i64 99), (.int .i64 99)])] .shut), (.bool false), (.int .i64 0), (.int .i64 0), (.int .i64 0), (.str []), (.int .i64 0), (.int .i64 0), .nilsl])] .shut), (.int .i64 0), .nilsl, (.int .i64 0)] 0
def qc_229 : AObj := .cells [(.int .i64 12), (.int .i64 0), (.int .i64 0), .nilsl, (.bool false), (.int .i64 0), (.int .i64 0), (.int .i64 0), (.str []), (.int .i64 0), (.int .i64 0), (.vec [(.agg [(.int .i64 2), (.int .i64 0), (.int .i64 0), (.vec [(.agg [(.int .i64 97), (.int .i64 97)])] .shut), (.bool false), (.int .i64 0), (.int .i64 0), (.int .i64 0), (.str []), (.int .i64 0), (.int .i64 0), .nilsl]), (.agg [(.int .i64 2), (.int .i64 1), (.int .i64 0), (.vec [(.agg [(.int .i64 98), (.int .i64 98)])] .shut), (.bool false), (.int .i64 0), (.int .i64 0), (.int .i64 0), (.str []), (.int .i64 0), (.int .i64 0), .nilsl]), (.agg [(.int .i64 2), (.int .i64 2), (.int .i64 0), (.vec [(.agg [(.int .i64 99), (.int .i64 99)])] .shut), (.bool false), (.int .i64 0), (.int .i64 0), (.int .i64 0), (.str []), (.int .i64 0), (.int .i64 0), .nilsl])] .shut), (.int .i64 0), .nilsl, (.int .i64 0)] 0
def qc_230 : AObj := .cells [(.int .i64 12), (.int .i64 0), (.int .i64 0), .nilsl, (.bool false), (.int .i64 0), (.int .i64 0), (.int .i64 0), (.str []), (.int .i64 0), (.int .i64 0), (.vec [(.agg [(.int .i64 2), (.int .i64 0), (.int .i64 0), (.vec [(.agg [(.int .i64 97), (.int .i64 97)])] .shut), (.bool false), (.int .i64 0), (.int .i64 0), (.int .i64 0), (.str []), (.int .i64 0), (.int .i64 0), .nilsl]), (.agg [(.int .i64 2), (.int .i64 1), (.int .i64 0), (.vec [(.agg [(.int .i64 98), (.int .i64 98)])] .shut), (.bool false), (.int .i64 0), (.int .i64 0), (.int .i64 0), (.str []), (.int .i64 0), (.int .i64 0), .nilsl]), (.agg [(.int .i64 2), (.int .i64 2), (.int .i64 0), (.vec [(.agg [(.int .i64 99), (.int .i64 99)])] .shut), (.bool false), (.int .i64 0), (.int .i64 0), (.int .i64 0), (.str []), (.int .i64 0), (.int .i64 0), .nilsl])] .shut), (.int .i64 0), .nilsl, (.int .i64 0)] 0
def qc_231 : AObj := .mapo []
def qc_232 : AObj := .cells [(.int .i64 12), (.int .i64 0), (.int .i64 0), .nilsl, (.bool false), (.int .i64 0), (.int .i64 0), (.int .i64 0), (.str []), (.int .i64 0), (.int .i64 0), (.vec [(.agg [(.int .i64 2), (.int .i64 0), (.int .i64 0), (.vec [(.agg [(.int .i64 97), (.int .i64 97)])] .shut), (.bool false), (.int .i64 0), (.int .i64 0), (.int .i64 0), (.str []), (.int .i64 0), (.int .i64 0), .nilsl]), (.agg [(.int .i64 2), (.int .i64 1), (.int .i64 0), (.vec [(.agg [(.int .i64 98), (.int .i64 98)])] .shut), (.bool false), (.int .i64 0), (.int .i64 0), (.int .i64 0), (.str []), (.int .i64 0), (.int .i64 0), .nilsl]), (.agg [(.int .i64 2), (.int .i64 2), (.int .i64 0), (.vec [(.agg [(.int .i64 99), (.int .i64 99)])] .shut), (.bool false), (.int .i64 0), (.int .i64 0), (.int .i64 0), (.str []), (.int .i64 0), (.int .i64 0), .nilsl])] .shut), (.int .i64 0), .nilsl, (.int .i64 0)] 0
def qc_233 : AObj := .cells [(.int .i64 12), (.int .i64 0), (.int .i64 0), .nilsl, (.bool false), (.int .i64 0), (.int .i64 0), (.int .i64 0), (.str []), (.int .i64 0), (.int .i64 0), (.vec [(.agg [(.int .i64 2), (.int .i64 0), (.int .i64 0), (.vec [(.agg [(.int .i64 97), (.int .i64 97)])] .shut), (.bool false), (.int .i64 0), (.int .i64 0), (.int .i64 0), (.str []), (.int .i64 0), (.int .i64 0), .nilsl]), (.agg [(.int .i64 2), (.int .i64 1), (.int .i64 0), (.vec [(.agg [(.int .i64 98), (.int .i64 98)])] .shut), (.bool false), (.int .i64 0), (.int .i64 0), (.int .i64 0), (.str []), (.int .i64 0), (.int .i64 0), .nilsl]), (.agg [(.int .i64 2), (.int .i64 2), (.int .i64 0), (.vec [(.agg [(.int .i64 99), (.int .i64 99)])] .shut), (.bool false), (.int .i64 0), (.int .i64 0), (.int .i64 0), (.str []), (.int .i64 0), (.int .i64 0), .nilsl])] .shut), (.int .i64 0), .nilsl, (.int .i64 0)] 0
def qc_234 : AObj := .cells [(.func 98 [] [(.ptr 234 0 0)])] 0
def qc_235 : AObj := .cells [(.ms 239 4 0 5 5 7), (.ms 248 2 0 3 3 1), (.map 231), (.int .i64 0), (.int .i64 12), (.int .i64 0), (.int .i64 0), .nilsl, (.bool false), (.int .i64 0), (.int .i64 0), (.int .i64 0), (.str []), (.int .i64 0), (.int .i64 0), (.vec [(.agg [(.int .i64 2), (.int .i64 0), (.int .i64 0), (.vec [(.agg [(.int .i64 97), (.int .i64 97)])] .shut), (.bool false), (.int .i64 0), (.int .i64 0), (.int .i64 0), (.str []), (.int .i64 0), (.int .i64 0), .nilsl]), (.agg [(.int .i64 2), (.int .i64 1), (.int .i64 0), (.vec [(.agg [(.int .i64 98), (.int .i64 98)])] .shut), (.bool false), (.int .i64 0), (.int .i64 0), (.int .i64 0), (.str []), (.int .i64 0), (.int .i64 0), .nilsl]), (.agg [(.int .i64 2), (.int .i64 2), (.int .i64 0), (.vec [(.agg [(.int .i64 99), (.int .i64 99)])] .shut), (.bool false), (.int .i64 0), (.int .i64 0), (.int .i64 0), (.str []), (.int .i64 0), (.int .i64 0), .nilsl])] .shut), (.int .i64 0), .nilsl, (.int .i64 0)] 0
def qc_236 : AObj := .mapo [((.str [57, 55, 45, 57, 55, 44]), (.int .i64 0)), ((.str [57, 56, 45, 57, 56, 44]), (.int .i64 1)), ((.str [57, 57, 45, 57, 57, 44]), (.int .i64 2))]
def qc_237 : AObj := .cells [(.ptr 235 0 0), (.map 236), .nilsl, (.ptr 241 0 0)] 0
def qc_238 : AObj := .cells [(.int .i64 0), (.int .i64 0), (.int .i64 0), (.int .i64 0), (.int .i64 0), (.bool false), (.str [])] 0
def qc_239 : AObj := .cells [(.int .i64 0), (.int .i64 0), (.int .i64 0), (.int .i64 0), (.int .i64 0), (.bool false), (.str []), (.int .i64 1), (.int .i64 0), (.int .i64 0), (.int .i64 0), (.int .i64 0), (.bool false), (.str []), (.int .i64 1), (.int .i64 1), (.int .i64 0), (.int .i64 0), (.int .i64 0), (.bool false), (.str []), (.int .i64 1), (.int .i64 2), (.int .i64 0), (.int .i64 0), (.int .i64 0), (.bool false), (.str []), (.int .i64 23), (.int .i64 0), (.int .i64 0), (.int .i64 0), (.int .i64 0), (.bool false), (.str [])] 4
def qc_240 : AObj := .cells [(.int .i64 12), (.int .i64 0), (.int .i64 0), .nilsl, (.bool false), (.int .i64 0), (.int .i64 0), (.int .i64 0), (.str []), (.int .i64 0), (.int .i64 0), (.vec [(.agg [(.int .i64 2), (.int .i64 0), (.int .i64 0), (.vec [(.agg [(.int .i64 97), (.int .i64 97)])] .shut), (.bool false), (.int .i64 0), (.int .i64 0), (.int .i64 0), (.str []), (.int .i64 0), (.int .i64 0), .nilsl]), (.agg [(.int .i64 2), (.int .i64 1), (.int .i64 0), (.vec [(.agg [(.int .i64 98), (.int .i64 98)])] .shut), (.bool false), (.int .i64 0), (.int .i64 0), (.int .i64 0), (.str []), (.int .i64 0), (.int .i64 0), .nilsl]), (.agg [(.int .i64 2), (.int .i64 2), (.int .i64 0), (.vec [(.agg [(.int .i64 99), (.int .i64 99)])] .shut), (.bool false), (.int .i64 0), (.int .i64 0), (.int .i64 0), (.str []), (.int .i64 0), (.int .i64 0), .nilsl])] .shut)] 0
def qc_241 : AObj := .cells [.nilsl] 0
def qc_242 : AObj := .cells [(.ptr 237 0 0)] 0
def qc_243 : AObj := .cells [(.int .i64 12), (.int .i64 0), (.int .i64 0), .nilsl, (.bool false), (.int .i64 0), (.int .i64 0), (.int .i64 0), (.str []), (.int .i64 0), (.int .i64 0), (.vec [(.agg [(.int .i64 2), (.int .i64 0), (.int .i64 0), (.vec [(.agg [(.int .i64 97), (.int .i64 97)])] .shut), (.bool false), (.int .i64 0), (.int .i64 0), (.int .i64 0), (.str []), (.int .i64 0), (.int .i64 0), .nilsl]), (.agg [(.int .i64 2), (.int .i64 1), (.int .i64 0), (.vec [(.agg [(.int .i64 98), (.int .i64 98)])] .shut), (.bool false), (.int .i64 0), (.int .i64 0), (.int .i64 0), (.str []), (.int .i64 0), (.int .i64 0), .nilsl]), (.agg [(.int .i64 2), (.int .i64 2), (.int .i64 0), (.vec [(.agg [(.int .i64 99), (.int .i64 99)])] .shut), (.bool false), (.int .i64 0), (.int .i64 0), (.int .i64 0), (.str []), (.int .i64 0), (.int .i64 0), .nilsl])] .shut)] 0
def qc_244 : AObj := .cells [(.int .i64 2), (.int .i64 0), (.int .i64 0), (.vec [(.agg [(.int .i64 97), (.int .i64 97)])] .shut), (.bool false), (.int .i64 0), (.int .i64 0), (.int .i64 0), (.str []), (.int .i64 0), (.int .i64 0), .nilsl] 0
def qc_245 : AObj := .cells [(.ptr 237 0 0)] 0
def qc_246 : AObj := .cells [(.int .i64 2), (.int .i64 0), (.int .i64 0), (.vec [(.agg [(.int .i64 97), (.int .i64 97)])] .shut), (.bool false), (.int .i64 0), (.int .i64 0), (.int .i64 0), (.str []), (.int .i64 0), (.int .i64 0), .nilsl] 0
def qc_247 : AObj := .cells [(.int .i64 97), (.int .i64 97)] 0
def qc_248 : AObj := .cells [(.vec [(.cplx .f64 4636526185122103296 4636526185122103296)] .shut), (.vec [(.cplx .f64 4636596553866280960 4636596553866280960)] .shut), (.vec [(.cplx .f64 4636666922610458624 4636666922610458624)] .shut)] 2
def qc_249 : AObj := .cells [(.int .i64 1), (.int .i64 0), (.int .i64 0), (.int .i64 0), (.int .i64 0), (.bool false), (.str [])] 0
def qc_250 : AObj := .pend
def qc_251 : AObj := .cells [(.int .i64 2), (.int .i64 1), (.int .i64 0), (.vec [(.agg [(.int .i64 98), (.int .i64 98)])] .shut), (.bool false), (.int .i64 0), (.int .i64 0), (.int .i64 0), (.str []), (.int .i64 0), (.int .i64 0), .nilsl] 0
def qc_252 : AObj := .cells [(.ptr 237 0 0)] 0
def qc_253 : AObj := .cells [(.int .i64 2), (.int .i64 1), (.int .i64 0), (.vec [(.agg [(.int .i64 98), (.int .i64 98)])] .shut), (.bool false), (.int .i64 0), (.int .i64 0), (.int .i64 0), (.str []), (.int .i64 0), (.int .i64 0), .nilsl] 0
def qc_254 : AObj := .cells [(.int .i64 98), (.int .i64 98)] 0
def qc_255 : AObj := .pend
def qc_256 : AObj := .cells [(.int .i64 1), (.int .i64 1), (.int .i64 0), (.int .i64 0), (.int .i64 0), (.bool false), (.str [])] 0
def qc_257 : AObj := .pend
def qc_258 : AObj := .cells [(.int .i64 2), (.int .i64 2), (.int .i64 0), (.vec [(.agg [(.int .i64 99), (.int .i64 99)])] .shut), (.bool false), (.int .i64 0), (.int .i64 0), (.int .i64 0), (.str []), (.int .i64 0), (.int .i64 0), .nilsl] 0
def qc_259 : AObj := .cells [(.ptr 237 0 0)] 0
def qc_260 : AObj := .cells [(.int .i64 2), (.int .i64 2), (.int .i64 0), (.vec [(.agg [(.int .i64 99), (.int .i64 99)])] .shut), (.bool false), (.int .i64 0), (.int .i64 0), (.int .i64 0), (.str []), (.int .i64 0), (.int .i64 0), .nilsl] 0
def qc_261 : AObj := .cells [(.int .i64 99), (.int .i64 99)] 0
def qc_262 : AObj := .pend
def qc_263 : AObj := .cells [(.int .i64 1), (.int .i64 2), (.int .i64 0), (.int .i64 0), (.int .i64 0), (.bool false), (.str [])] 0
def qc_264 : AObj := .pend
def qc_265 : AObj := .cells [(.int .i64 23), (.int .i64 0), (.int .i64 0), (.int .i64 0), (.int .i64 0), (.bool false), (.str [])] 0
def qc_266 : AObj := .pend
def qc_267 : AObj := .cells [(.int .i64 12), (.int .i64 0), (.int .i64 0), .nilsl, (.bool false), (.int .i64 0), (.int .i64 0), (.int .i64 0), (.str []), (.int .i64 0), (.int .i64 0), (.ms 277 2 0 3 3 12), (.int .i64 0), .nilsl, (.int .i64 0)] 0
def qc_268 : AObj := .cells [(.int .i64 12), (.int .i64 0), (.int .i64 0), .nilsl, (.bool false), (.int .i64 0), (.int .i64 0), (.int .i64 0), (.str []), (.int .i64 0), (.int .i64 0), (.ms 277 2 0 3 3 12), (.int .i64 0), .nilsl, (.int .i64 0)] 0
def qc_269 : AObj := .cells [(.int .i64 12), (.int .i64 0), (.int .i64 0), .nilsl, (.bool false), (.int .i64 0), (.int .i64 0), (.int .i64 0), (.str []), (.int .i64 0), (.int .i64 0), (.vec [(.agg [(.int .i64 2), (.int .i64 0), (.int .i64 0), (.vec [(.agg [(.int .i64 97), (.int .i64 97)])] .shut), (.bool false), (.int .i64 0), (.int .i64 0), (.int .i64 0), (.str []), (.int .i64 0), (.int .i64 0), .nilsl]), (.agg [(.int .i64 2), (.int .i64 1), (.int .i64 0), (.vec [(.agg [(.int .i64 98), (.int .i64 98)])] .shut), (.bool false), (.int .i64 0), (.int .i64 0), (.int .i64 0), (.str []), (.int .i64 0), (.int .i64 0), .nilsl]), (.agg [(.int .i64 2), (.int .i64 2), (.int .i64 0), (.vec [(.agg [(.int .i64 99), (.int .i64 99)])] .shut), (.bool false), (.int .i64 0), (.int .i64 0), (.int .i64 0), (.str []), (.int .i64 0), (.int .i64 0), .nilsl])] .shut)] 0
def qc_270 : AObj := .cells [(.bool true)] 0
def qc_271 : AObj := .cells [(.func 53 [] [(.ptr 271 0 0), (.ptr 270 0 0), (.ptr 269 0 0)])] 0
def qc_272 : AObj := .cells [(.int .i64 12), (.int .i64 0), (.int .i64 0), .nilsl, (.bool false), (.int .i64 0), (.int .i64 0), (.int .i64 0), (.str []), (.int .i64 0), (.int .i64 0), (.ms 277 2 0 3 3 12)] 0
def qc_273 : AObj := .cells [(.int .i64 12), (.int .i64 0), (.int .i64 0), .nilsl, (.bool false), (.int .i64 0), (.int .i64 0), (.int .i64 0), (.str []), (.int .i64 0), (.int .i64 0), (.ms 277 2 0 3 3 12)] 0
def qc_274 : AObj := .cells [(.int .i64 2), (.int .i64 0), (.int .i64 0), (.vec [(.agg [(.int .i64 97), (.int .i64 97)])] .shut), (.bool false), (.int .i64 0), (.int .i64 0), (.int .i64 0), (.str []), (.int .i64 0), (.int .i64 0), .nilsl] 0
def qc_275 : AObj := .cells [(.int .i64 2), (.int .i64 0), (.int .i64 0), (.vec [(.agg [(.int .i64 97), (.int .i64 97)])] .shut), (.bool false), (.int .i64 0), (.int .i64 0), (.int .i64 0), (.str []), (.int .i64 0), (.int .i64 0), .nilsl] 0
def qc_276 : AObj := .cells [(.int .i64 2), (.int .i64 0), (.int .i64 0), (.vec [(.agg [(.int .i64 97), (.int .i64 97)])] .shut), (.bool false), (.int .i64 0), (.int .i64 0), (.int .i64 0), (.str []), (.int .i64 0), (.int .i64 0), .nilsl] 0
def qc_277 : AObj := .cells [(.int .i64 2), (.int .i64 0), (.int .i64 0), (.vec [(.agg [(.int .i64 97), (.int .i64 97)])] .shut), (.bool false), (.int .i64 0), (.int .i64 0), (.int .i64 0), (.str []), (.int .i64 0), (.int .i64 0), .nilsl, (.int .i64 2), (.int .i64 1), (.int .i64 0), (.vec [(.agg [(.int .i64 98), (.int .i64 98)])] .shut), (.bool false), (.int .i64 0), (.int .i64 0), (.int .i64 0), (.str []), (.int .i64 0), (.int .i64 0), .nilsl, (.int .i64 2), (.int .i64 2), (.int .i64 0), (.vec [(.agg [(.int .i64 99), (.int .i64 99)])] .shut), (.bool false), (.int .i64 0), (.int .i64 0), (.int .i64 0), (.str []), (.int .i64 0), (.int .i64 0), .nilsl] 2
def qc_278 : AObj := .cells [(.int .i64 2), (.int .i64 1), (.int .i64 0), (.vec [(.agg [(.int .i64 98), (.int .i64 98)])] .shut), (.bool false), (.int .i64 0), (.int .i64 0), (.int .i64 0), (.str []), (.int .i64 0), (.int .i64 0), .nilsl] 0
def qc_279 : AObj := .cells [(.int .i64 2), (.int .i64 1), (.int .i64 0), (.vec [(.agg [(.int .i64 98), (.int .i64 98)])] .shut), (.bool false), (.int .i64 0), (.int .i64 0), (.int .i64 0), (.str []), (.int .i64 0), (.int .i64 0), .nilsl] 0
def qc_280 : AObj := .cells [(.int .i64 2), (.int .i64 1), (.int .i64 0), (.vec [(.agg [(.int .i64 98), (.int .i64 98)])] .shut), (.bool false), (.int .i64 0), (.int .i64 0), (.int .i64 0), (.str []), (.int .i64 0), (.int .i64 0), .nilsl] 0
def qc_281 : AObj := .cells [(.int .i64 2), (.int .i64 2), (.int .i64 0), (.vec [(.agg [(.int .i64 99), (.int .i64 99)])] .shut), (.bool false), (.int .i64 0), (.int .i64 0), (.int .i64 0), (.str []), (.int .i64 0), (.int .i64 0), .nilsl] 0
def qc_282 : AObj := .cells [(.int .i64 2), (.int .i64 2), (.int .i64 0), (.vec [(.agg [(.int .i64 99), (.int .i64 99)])] .shut), (.bool false), (.int .i64 0), (.int .i64 0), (.int .i64 0), (.str []), (.int .i64 0), (.int .i64 0), .nilsl] 0
def qc_283 : AObj := .cells [(.int .i64 2), (.int .i64 2), (.int .i64 0), (.vec [(.agg [(.int .i64 99), (.int .i64 99)])] .shut), (.bool false), (.int .i64 0), (.int .i64 0), (.int .i64 0), (.str []), (.int .i64 0), (.int .i64 0), .nilsl] 0
def qc_284 : AObj := .cells [(.int .i64 12), (.int .i64 0), (.int .i64 0), .nilsl, (.bool false), (.int .i64 0), (.int .i64 0), (.int .i64 0), (.str []), (.int .i64 0), (.int .i64 0), (.ms 277 2 0 3 3 12), (.int .i64 0), .nilsl, (.int .i64 0)] 0
def qc_285 : AObj := .mapo []
def qc_286 : AObj := .cells [(.int .i64 12), (.int .i64 0), (.int .i64 0), .nilsl, (.bool false), (.int .i64 0), (.int .i64 0), (.int .i64 0), (.str []), (.int .i64 0), (.int .i64 0), (.vec [(.agg [(.int .i64 2), (.int .i64 0), (.int .i64 0), (.vec [(.agg [(.int .i64 97), (.int .i64 97)])] .shut), (.bool false), (.int .i64 0), (.int .i64 0), (.int .i64 0), (.str []), (.int .i64 0), (.int .i64 0), .nilsl]), (.agg [(.int .i64 2), (.int .i64 1), (.int .i64 0), (.vec [(.agg [(.int .i64 98), (.int .i64 98)])] .shut), (.bool false), (.int .i64 0), (.int .i64 0), (.int .i64 0), (.str []), (.int .i64 0), (.int .i64 0), .nilsl]), (.agg [(.int .i64 2), (.int .i64 2), (.int .i64 0), (.vec [(.agg [(.int .i64 99), (.int .i64 99)])] .shut), (.bool false), (.int .i64 0), (.int .i64 0), (.int .i64 0), (.str []), (.int .i64 0), (.int .i64 0), .nilsl])] .shut), (.int .i64 0), .nilsl, (.int .i64 0)] 0
def qc_287 : AObj := .cells [(.int .i64 12), (.int .i64 0), (.int .i64 0), .nilsl, (.bool false), (.int .i64 0), (.int .i64 0), (.int .i64 0), (.str []), (.int .i64 0), (.int .i64 0), (.vec [(.agg [(.int .i64 2), (.int .i64 0), (.int .i64 0), (.vec [(.agg [(.int .i64 97), (.int .i64 97)])] .shut), (.bool false), (.int .i64 0), (.int .i64 0), (.int .i64 0), (.str []), (.int .i64 0), (.int .i64 0), .nilsl]), (.agg [(.int .i64 2), (.int .i64 1), (.int .i64 0), (.vec [(.agg [(.int .i64 98), (.int .i64 98)])] .shut), (.bool false), (.int .i64 0), (.int .i64 0), (.int .i64 0), (.str []), (.int .i64 0), (.int .i64 0), .nilsl]), (.agg [(.int .i64 2), (.int .i64 2), (.int .i64 0), (.vec [(.agg [(.int .i64 99), (.int .i64 99)])] .shut), (.bool false), (.int .i64 0), (.int .i64 0), (.int .i64 0), (.str []), (.int .i64 0), (.int .i64 0), .nilsl])] .shut), (.int .i64 0), .nilsl, (.int .i64 0)] 0
def qc_288 : AObj := .cells [(.func 98 [] [(.ptr 288 0 0)])] 0
def qc_289 : AObj := .cells [(.ms 293 4 0 5 5 7), (.ms 302 2 0 3 3 1), (.map 285), (.int .i64 0), (.int .i64 12), (.int .i64 0), (.int .i64 0), .nilsl, (.bool false), (.int .i64 0), (.int .i64 0), (.int .i64 0), (.str []), (.int .i64 0), (.int .i64 0), (.vec [(.agg [(.int .i64 2), (.int .i64 0), (.int .i64 0), (.vec [(.agg [(.int .i64 97), (.int .i64 97)])] .shut), (.bool false), (.int .i64 0), (.int .i64 0), (.int .i64 0), (.str []), (.int .i64 0), (.int .i64 0), .nilsl]), (.agg [(.int .i64 2), (.int .i64 1), (.int .i64 0), (.vec [(.agg [(.int .i64 98), (.int .i64 98)])] .shut), (.bool false), (.int .i64 0), (.int .i64 0), (.int .i64 0), (.str []), (.int .i64 0), (.int .i64 0), .nilsl]), (.agg [(.int .i64 2), (.int .i64 2), (.int .i64 0), (.vec [(.agg [(.int .i64 99), (.int .i64 99)])] .shut), (.bool false), (.int .i64 0), (.int .i64 0), (.int .i64 0), (.str []), (.int .i64 0), (.int .i64 0), .nilsl])] .shut), (.int .i64 0), .nilsl, (.int .i64 0)] 0
def qc_290 : AObj := .mapo [((.str [57, 55, 45, 57, 55, 44]), (.int .i64 0)), ((.str [57, 56, 45, 57, 56, 44]), (.int .i64 1)), ((.str [57, 57, 45, 57, 57, 44]), (.int .i64 2))]
def qc_291 : AObj := .cells [(.ptr 289 0 0), (.map 290), .nilsl, (.ptr 295 0 0)] 0
def qc_292 : AObj := .cells [(.int .i64 0), (.int .i64 0), (.int .i64 0), (.int .i64 0), (.int .i64 0), (.bool false), (.str [])] 0
def qc_293 : AObj := .cells [(.int .i64 0), (.int .i64 0), (.int .i64 0), (.int .i64 0), (.int .i64 0), (.bool false), (.str []), (.int .i64 1), (.int .i64 0), (.int .i64 0), (.int .i64 0), (.int .i64 0), (.bool false), (.str []), (.int .i64 1), (.int .i64 1), (.int .i64 0), (.int .i64 0), (.int .i64 0), (.bool false), (.str []), (.int .i64 1), (.int .i64 2), (.int .i64 0), (.int .i64 0), (.int .i64 0), (.bool false), (.str []), (.int .i64 23), (.int .i64 0), (.int .i64 0), (.int .i64 0), (.int .i64 0), (.bool false), (.str [])] 4
def qc_294 : AObj := .cells [(.int .i64 12), (.int .i64 0), (.int .i64 0), .nilsl, (.bool false), (.int .i64 0), (.int .i64 0), (.int .i64 0), (.str []), (.int .i64 0), (.int .i64 0), (.vec [(.agg [(.int .i64 2), (.int .i64 0), (.int .i64 0), (.vec [(.agg [(.int .i64 97), (.int .i64 97)])] .shut), (.bool false), (.int .i64 0), (.int .i64 0), (.int .i64 0), (.str []), (.int .i64 0), (.int .i64 0), .nilsl]), (.agg [(.int .i64 2), (.int .i64 1), (.int .i64 0), (.vec [(.agg [(.int .i64 98), (.int .i64 98)])] .shut), (.bool false), (.int .i64 0), (.int .i64 0), (.int .i64 0), (.str []), (.int .i64 0), (.int .i64 0), .nilsl]), (.agg [(.int .i64 2), (.int .i64 2), (.int .i64 0), (.vec [(.agg [(.int .i64 99), (.int .i64 99)])] .shut), (.bool false), (.int .i64 0), (.int .i64 0), (.int .i64 0), (.str []), (.int .i64 0), (.int .i64 0), .nilsl])] .shut)] 0
def qc_295 : AObj := .cells [.nilsl] 0
def qc_296 : AObj := .cells [(.ptr 291 0 0)] 0
def qc_297 : AObj := .cells [(.int .i64 12), (.int .i64 0), (.int .i64 0), .nilsl, (.bool false), (.int .i64 0), (.int .i64 0), (.int .i64 0), (.str []), (.int .i64 0), (.int .i64 0), (.vec [(.agg [(.int .i64 2), (.int .i64 0), (.int .i64 0), (.vec [(.agg [(.int .i64 97), (.int .i64 97)])] .shut), (.bool false), (.int .i64 0), (.int .i64 0), (.int .i64 0), (.str []), (.int .i64 0), (.int .i64 0), .nilsl]), (.agg [(.int .i64 2), (.int .i64 1), (.int .i64 0), (.vec [(.agg [(.int .i64 98), (.int .i64 98)])] .shut), (.bool false), (.int .i64 0), (.int .i64 0), (.int .i64 0), (.str []), (.int .i64 0), (.int .i64 0), .nilsl]), (.agg [(.int .i64 2), (.int .i64 2), (.int .i64 0), (.vec [(.agg [(.int .i64 99), (.int .i64 99)])] .shut), (.bool false), (.int .i64 0), (.int .i64 0), (.int .i64 0), (.str []), (.int .i64 0), (.int .i64 0), .nilsl])] .shut)] 0
def qc_298 : AObj := .cells [(.int .i64 2), (.int .i64 0), (.int .i64 0), (.vec [(.agg [(.int .i64 97), (.int .i64 97)])] .shut), (.bool false), (.int .i64 0), (.int .i64 0), (.int .i64 0), (.str []), (.int .i64 0), (.int .i64 0), .nilsl] 0
def qc_299 : AObj := .cells [(.ptr 291 0 0)] 0
def qc_300 : AObj := .cells [(.int .i64 2), (.int .i64 0), (.int .i64 0), (.vec [(.agg [(.int .i64 97), (.int .i64 97)])] .shut), (.bool false), (.int .i64 0), (.int .i64 0), (.int .i64 0), (.str []), (.int .i64 0), (.int .i64 0), .nilsl] 0
def qc_301 : AObj := .cells [(.int .i64 97), (.int .i64 97)] 0
def qc_302 : AObj := .cells [(.vec [(.cplx .f64 4636526185122103296 4636526185122103296)] .shut), (.vec [(.cplx .f64 4636596553866280960 4636596553866280960)] .shut), (.vec [(.cplx .f64 4636666922610458624 4636666922610458624)] .shut)] 2
def qc_303 : AObj := .cells [(.int .i64 1), (.int .i64 0), (.int .i64 0), (.int .i64 0), (.int .i64 0), (.bool false), (.str [])] 0
def qc_304 : AObj := .pend
def qc_305 : AObj := .cells [(.int .i64 2), (.int .i64 1), (.int .i64 0), (.vec [(.agg [(.int .i64 98), (.int .i64 98)])] .shut), (.bool false), (.int .i64 0), (.int .i64 0), (.int .i64 0), (.str []), (.int .i64 0), (.int .i64 0), .nilsl] 0
def qc_306 : AObj := .cells [(.ptr 291 0 0)] 0
def qc_307 : AObj := .cells [(.int .i64 2), (.int .i64 1), (.int .i64 0), (.vec [(.agg [(.int .i64 98), (.int .i64 98)])] .shut), (.bool false), (.int .i64 0), (.int .i64 0), (.int .i64 0), (.str []), (.int .i64 0), (.int .i64 0), .nilsl] 0
def qc_308 : AObj := .cells [(.int .i64 98), (.int .i64 98)] 0
def qc_309 : AObj := .pend
def qc_310 : AObj := .cells [(.int .i64 1), (.int .i64 1), (.int .i64 0), (.int .i64 0), (.int .i64 0), (.bool false), (.str [])] 0
def qc_311 : AObj := .pend
def qc_312 : AObj := .cells [(.int .i64 2), (.int .i64 2), (.int .i64 0), (.vec [(.agg [(.int .i64 99), (.int .i64 99)])] .shut), (.bool false), (.int .i64 0), (.int .i64 0), (.int .i64 0), (.str []), (.int .i64 0), (.int .i64 0), .nilsl] 0
def qc_313 : AObj := .cells [(.ptr 291 0 0)] 0
def qc_314 : AObj := .cells [(.int .i64 2), (.int .i64 2), (.int .i64 0), (.vec [(.agg [(.int .i64 99), (.int .i64 99)])] .shut), (.bool false), (.int .i64 0), (.int .i64 0), (.int .i64 0), (.str []), (.int .i64 0), (.int .i64 0), .nilsl] 0
def qc_315 : AObj := .cells [(.int .i64 99), (.int .i64 99)] 0
def qc_316 : AObj := .pend
def qc_317 : AObj := .cells [(.int .i64 1), (.int .i64 2), (.int .i64 0), (.int .i64 0), (.int .i64 0), (.bool false), (.str [])] 0
def qc_318 : AObj := .pend
def qc_319 : AObj := .cells [(.int .i64 23), (.int .i64 0), (.int .i64 0), (.int .i64 0), (.int .i64 0), (.bool false), (.str [])] 0
def qc_320 : AObj := .pend
def qc_321 : AObj := .cells [(.int .i64 12), (.int .i64 0), (.int .i64 0), .nilsl, (.bool false), (.int .i64 0), (.int .i64 0), (.int .i64 0), (.str []), (.int .i64 0), (.int .i64 0), (.vec [(.agg [(.int .i64 2), (.int .i64 0), (.int .i64 0), (.vec [(.agg [(.int .i64 97), (.int .i64 97)])] .shut), (.bool false), (.int .i64 0), (.int .i64 0), (.int .i64 0), (.str []), (.int .i64 0), (.int .i64 0), .nilsl]), (.agg [(.int .i64 2), (.int .i64 1), (.int .i64 0), (.vec [(.agg [(.int .i64 98), (.int .i64 98)])] .shut), (.bool false), (.int .i64 0), (.int .i64 0), (.int .i64 0), (.str []), (.int .i64 0), (.int .i64 0), .nilsl]), (.agg [(.int .i64 2), (.int .i64 2), (.int .i64 0), (.vec [(.agg [(.int .i64 99), (.int .i64 99)])] .shut), (.bool false), (.int .i64 0), (.int .i64 0), (.int .i64 0), (.str []), (.int .i64 0), (.int .i64 0), .nilsl])] .shut), (.int .i64 0), .nilsl, (.int .i64 0), (.ptr 235 0 0), (.ptr 289 0 0), (.bool false), (.func 25 [] [(.ptr 322 0 0), (.ptr 323 0 0)])] 0
def qc_322 : AObj := .cells [(.ptr 321 0 0)] 0
def qc_323 : AObj := .cells [(.vec [(.cplx .f64 4636526185122103296 4636526185122103296)] .shut)] 0
def hqc0 : List AObj := (hqb0 ++ [.cells qbcore 0]) ++ [qc_227, qc_228, qc_229, qc_230, qc_231, qc_232, qc_233, qc_234, qc_235, qc_236, qc_237, qc_238, qc_239, qc_240, qc_241, qc_242, qc_243, qc_244, qc_245, qc_246, qc_247, qc_248, qc_249, qc_250, qc_251, qc_252, qc_253, qc_254, qc_255, qc_256, qc_257, qc_258, qc_259, qc_260, qc_261, qc_262, qc_263, qc_264, qc_265, qc_266, qc_267, qc_268, qc_269, qc_270, qc_271, qc_272, qc_273, qc_274, qc_275, qc_276, qc_277, qc_278, qc_279, qc_280, qc_281, qc_282, qc_283, qc_284, qc_285, qc_286, qc_287, qc_288, qc_289, qc_290, qc_291, qc_292, qc_293, qc_294, qc_295, qc_296, qc_297, qc_298, qc_299, qc_300, qc_301, qc_302, qc_303, qc_304, qc_305, qc_306, qc_307, qc_308, qc_309, qc_310, qc_311, qc_312, qc_313, qc_314, qc_315, qc_316, qc_317, qc_318, qc_319, qc_320, qc_321, qc_322, qc_323]
def hqc1 : List AObj := (hqb0 ++ [.cells qbcore 0]) ++ [.cells z15 0]
def hqc2 : List AObj := (hqb0 ++ [.cells qbcore 0]) ++ [.cells z15 0, qc_228, qc_229, qc_230, qc_231, qc_232, qc_233, qc_234, qc_235, qc_236, qc_237, qc_238, qc_239, qc_240, qc_241, qc_242, qc_243, qc_244, qc_245, qc_246, qc_247, qc_248, qc_249, qc_250, qc_251, qc_252, qc_253, qc_254, qc_255, qc_256, qc_257, qc_258, qc_259, qc_260, qc_261, qc_262, qc_263, qc_264, qc_265, qc_266, qc_267, qc_268, qc_269, qc_270, qc_271, qc_272, qc_273, qc_274, qc_275, qc_276, qc_277, qc_278, qc_279, qc_280, qc_281, qc_282, qc_283, qc_284, qc_285, qc_286, qc_287, qc_288, qc_289, qc_290, qc_291, qc_292, qc_293, qc_294, qc_295, qc_296, qc_297, qc_298, qc_299, qc_300, qc_301, qc_302, qc_303, qc_304, qc_305, qc_306, qc_307, qc_308, qc_309, qc_310, qc_311, qc_312, qc_313, qc_314, qc_315, qc_316, qc_317, qc_318, qc_319, qc_320, qc_321, qc_322, qc_323]
theorem blqc (b : Bar) : callF T 596 b 8 [.vec (bs [97, 98, 99]) (.exact false), .int .i64 0] ⟨hqc1, [1, 1], [], glT⟩ = some (.ret (.tup [.agg qccore, .int .i64 0, .int .i64 0]), ⟨hqc1, [1, 1], [], glT⟩) := by kernel_rfl

end Go.Vmm

namespace Go.Vmm
open Go Go.Am Go.Proofs

theorem nwqc : callF T 596 bz 9 [.agg qccore] ⟨hqc1 ++ [.cells qccore 0], [1, 1], [], glT⟩ = some (.ret (.tup [qcm, .int .i64 0]), ⟨hqc2, [1, 1], [], glT⟩) := by kernel_rfl

end Go.Vmm

namespace Go.Vmm
open Go Go.Am Go.Proofs

def baqb : List AObj := hqa0 ++ [.cells qacore 0]
theorem setlqb : setAt hqb2 78 (.cells qbcore 0) = hqb0 := by kernel_rfl
theorem gotqb : getCells hqb2 78 0 = some z15 := by kernel_rfl
theorem gotcqb : getCells hqb2 79 0 = some qbcore := by kernel_rfl
theorem lenqb : baqb.length = 78 := by kernel_rfl
theorem len1qb : hqb1.length = 79 := by kernel_rfl
theorem gotdqb : getCells hqb0 78 0 = some qbcore := by kernel_rfl
theorem mdqb : callF T 597 bz 5 [.vec (bs [97, 40, 42, 83, 75, 73, 80, 41, 98, 124, 46]) (.exact false), .int .i64 0] ⟨hqa0 ++ [.cells qacore 0], [], [], glT⟩ = some (.ret (.tup [.agg qbcore, qbm, .bool true]), ⟨hqb0, [1, 1], [], glT⟩) := by
  apply OkF.ret
  (apply f_wp rfl rfl; (repeat (first | exact Shape.nil | (apply Shape.cons; conv => lhs; whnf))))
  refine qV ?_
  refine o_alloc rfl ?_
  refine sV ?_
  refine eV ?_
  change OkC _ _ bz _ ⟨[(0, .vec (bs [97, 40, 42, 83, 75, 73, 80, 41, 98, 124, 46]) (.exact false)), (1, .int .i64 0), (4, .ptr baqb.length 0 0), (5, .nilptr), (6, .bool false), (8, .undef), (20, .undef), (7, .undef), (10, .undef), (11, .undef)], [], .off⟩ ⟨hqb1, [], [], glT⟩ _
  rw [lenqb]
  refine qV ?_
  refine o_call rfl rfl (blqb _) ?_
  refine sV ?_
  refine o_alloc rfl ?_
  refine o_st (l := qbcore) rfl rfl rfl rfl (getCells_new _ _ 0) rfl (lets_nil (blt_no (Nat.zero_le _)) rfl) (cs' := qbcore) rfl ?_
  rw [push_put]
  refine sV ?_
  refine eV ?_
  have hcg : getCells (hqb1 ++ [.cells qbcore 0]) 79 0 = some qbcore := by kernel_rfl
  change OkC _ _ bz _ ⟨[(0, .vec (bs [97, 40, 42, 83, 75, 73, 80, 41, 98, 124, 46]) (.exact false)), (1, .int .i64 0), (4, .ptr 78 0 0), (5, .nilptr), (6, .bool false), (8, .int .i64 0), (20, .undef), (7, .ptr hqb1.length 0 0), (10, .undef), (11, .undef)], [], .off⟩ ⟨hqb1 ++ [.cells qbcore 0], [], [], glT⟩ _
  rw [len1qb]
  refine qqV ?_
  refine lV ?_
  refine c_skip ?_
  refine qV ?_
  refine o_call (l := [.agg qbcore]) rfl rfl nwqb ?_
  refine sV ?_
  refine eV ?_
  have hcg2 := gotcqb
  refine qV ?_
  refine o_st (i := 78) (g' := 0) (off := 0) (l := qbcore) rfl rfl rfl rfl gotqb rfl (lets_nil (blt_no (Nat.zero_le _)) rfl) (cs' := qbcore) rfl ?_
  refine sV ?_
  refine eV ?_
  refine c_ret ?_
  refine fin_ret (.inl rfl) (read_cell (i := 78) (g := 0) (off := 0) (cs := qbcore) rfl ?_ rfl (read_tmp rfl (read_tmp rfl read_nil))) rfl ⟨rfl, ?_⟩
  · show getCells (setAt hqb2 78 (.cells qbcore 0)) 78 0 = _
    rw [setlqb]; exact gotdqb
  · show (⟨setAt hqb2 78 (.cells qbcore 0), [1, 1], [], glT⟩ : Sg) = _
    rw [setlqb]

def baqc : List AObj := hqb0 ++ [.cells qbcore 0]
theorem setlqc : setAt hqc2 227 (.cells qccore 0) = hqc0 := by kernel_rfl
theorem gotqc : getCells hqc2 227 0 = some z15 := by kernel_rfl
theorem gotcqc : getCells hqc2 228 0 = some qccore := by kernel_rfl
theorem lenqc : baqc.length = 227 := by kernel_rfl
theorem len1qc : hqc1.length = 228 := by kernel_rfl
theorem gotdqc : getCells hqc0 227 0 = some qccore := by kernel_rfl
theorem mdqc : callF T 597 bz 5 [.vec (bs [97, 98, 99]) (.exact false), .int .i64 0] ⟨hqb0 ++ [.cells qbcore 0], [1, 1], [], glT⟩ = some (.ret (.tup [.agg qccore, qcm, .bool true]), ⟨hqc0, [1, 1], [], glT⟩) := by
  apply OkF.ret
  (apply f_wp rfl rfl; (repeat (first | exact Shape.nil | (apply Shape.cons; conv => lhs; whnf))))
  refine qV ?_
  refine o_alloc rfl ?_
  refine sV ?_
  refine eV ?_
  change OkC _ _ bz _ ⟨[(0, .vec (bs [97, 98, 99]) (.exact false)), (1, .int .i64 0), (4, .ptr baqc.length 0 0), (5, .nilptr), (6, .bool false), (8, .undef), (20, .undef), (7, .undef), (10, .undef), (11, .undef)], [], .off⟩ ⟨hqc1, [1, 1], [], glT⟩ _
  rw [lenqc]
  refine qV ?_
  refine o_call rfl rfl (blqc _) ?_
  refine sV ?_
  refine o_alloc rfl ?_
  refine o_st (l := qccore) rfl rfl rfl rfl (getCells_new _ _ 0) rfl (lets_nil (blt_no (Nat.zero_le _)) rfl) (cs' := qccore) rfl ?_
  rw [push_put]
  refine sV ?_
  refine eV ?_
  have hcg : getCells (hqc1 ++ [.cells qccore 0]) 228 0 = some qccore := by kernel_rfl
  change OkC _ _ bz _ ⟨[(0, .vec (bs [97, 98, 99]) (.exact false)), (1, .int .i64 0), (4, .ptr 227 0 0), (5, .nilptr), (6, .bool false), (8, .int .i64 0), (20, .undef), (7, .ptr hqc1.length 0 0), (10, .undef), (11, .undef)], [], .off⟩ ⟨hqc1 ++ [.cells qccore 0], [1, 1], [], glT⟩ _
  rw [len1qc]
  refine qqV ?_
  refine lV ?_
  refine c_skip ?_
  refine qV ?_
  refine o_call (l := [.agg qccore]) rfl rfl nwqc ?_
  refine sV ?_
  refine eV ?_
  have hcg2 := gotcqc
  refine qV ?_
  refine o_st (i := 227) (g' := 0) (off := 0) (l := qccore) rfl rfl rfl rfl gotqc rfl (lets_nil (blt_no (Nat.zero_le _)) rfl) (cs' := qccore) rfl ?_
  refine sV ?_
  refine eV ?_
  refine c_ret ?_
  refine fin_ret (.inl rfl) (read_cell (i := 227) (g := 0) (off := 0) (cs := qccore) rfl ?_ rfl (read_tmp rfl (read_tmp rfl read_nil))) rfl ⟨rfl, ?_⟩
  · show getCells (setAt hqc2 227 (.cells qccore 0)) 227 0 = _
    rw [setlqc]; exact gotdqc
  · show (⟨setAt hqc2 227 (.cells qccore 0), [1, 1], [], glT⟩ : Sg) = _
    rw [setlqc]

end Go.Vmm
