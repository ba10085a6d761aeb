/-
  The seat of laws is awake: a pattern is built.
-/
import Derived.Test.YtpaebiddgpjlnaaGreatDoorAbtA

namespace Go.Vmm
open Go Go.Am Go.Proofs

def bs (l : List Nat) : List AV := l.map fun (c : Nat) => AV.int .u8 (c : Int)
/-- the table of powers of ten -/
def pow10 : AV := .agg [.int .u64 1, .int .u64 10, .int .u64 100, .int .u64 1000, .int .u64 10000, .int .u64 100000, .int .u64 1000000, .int .u64 10000000, .int .u64 100000000, .int .u64 1000000000, .int .u64 10000000000, .int .u64 100000000000, .int .u64 1000000000000, .int .u64 10000000000000, .int .u64 100000000000000, .int .u64 1000000000000000, .int .u64 10000000000000000, .int .u64 100000000000000000, .int .u64 1000000000000000000, .int .u64 10000000000000000000]
def glT : List (Nat × AV) := [(0, pow10)]
def bz : Bar := { w := 0, t := 0, es := [] }

end Go.Vmm

namespace Go.Vmm
open Go Go.Am Go.Proofs

def qacore : List AV := [(.int .i64 20), (.int .i64 1), (.int .i64 0), .nilsl, (.bool false), (.int .i64 0), (.int .i64 (-1)), (.int .i64 0), (.str []), (.int .i64 0), (.int .i64 0), (.vec [(.agg [(.int .i64 2), (.int .i64 0), (.int .i64 0), (.vec [(.agg [(.int .i64 97), (.int .i64 97)])] .shut), (.bool false), (.int .i64 0), (.int .i64 0), (.int .i64 0), (.str []), (.int .i64 0), (.int .i64 0), .nilsl])] .shut), (.int .i64 0), .nilsl, (.int .i64 0)]
def qam : AV := (.ptr 74 0 0)
def qa_0 : AObj := .cells [(.int .i64 20), (.int .i64 1), (.int .i64 0), .nilsl, (.bool false), (.int .i64 0), (.int .i64 (-1)), (.int .i64 0), (.str []), (.int .i64 0), (.int .i64 0), (.vec [(.agg [(.int .i64 2), (.int .i64 0), (.int .i64 0), (.vec [(.agg [(.int .i64 97), (.int .i64 97)])] .shut), (.bool false), (.int .i64 0), (.int .i64 0), (.int .i64 0), (.str []), (.int .i64 0), (.int .i64 0), .nilsl])] .shut), (.int .i64 0), .nilsl, (.int .i64 0)] 0
def qa_1 : AObj := .cells [(.int .i64 20), (.int .i64 1), (.int .i64 0), .nilsl, (.bool false), (.int .i64 0), (.int .i64 (-1)), (.int .i64 0), (.str []), (.int .i64 0), (.int .i64 0), (.vec [(.agg [(.int .i64 2), (.int .i64 0), (.int .i64 0), (.vec [(.agg [(.int .i64 97), (.int .i64 97)])] .shut), (.bool false), (.int .i64 0), (.int .i64 0), (.int .i64 0), (.str []), (.int .i64 0), (.int .i64 0), .nilsl])] .shut), (.int .i64 0), .nilsl, (.int .i64 0)] 0
def qa_2 : AObj := .cells [(.int .i64 20), (.int .i64 1), (.int .i64 0), .nilsl, (.bool false), (.int .i64 0), (.int .i64 (-1)), (.int .i64 0), (.str []), (.int .i64 0), (.int .i64 0), (.vec [(.agg [(.int .i64 2), (.int .i64 0), (.int .i64 0), (.vec [(.agg [(.int .i64 97), (.int .i64 97)])] .shut), (.bool false), (.int .i64 0), (.int .i64 0), (.int .i64 0), (.str []), (.int .i64 0), (.int .i64 0), .nilsl])] .shut), (.int .i64 0), .nilsl, (.int .i64 0)] 0
def qa_3 : AObj := .cells [(.int .i64 20), (.int .i64 1), (.int .i64 0), .nilsl, (.bool false), (.int .i64 0), (.int .i64 (-1)), (.int .i64 0), (.str []), (.int .i64 0), (.int .i64 0), (.vec [(.agg [(.int .i64 2), (.int .i64 0), (.int .i64 0), (.vec [(.agg [(.int .i64 97), (.int .i64 97)])] .shut), (.bool false), (.int .i64 0), (.int .i64 0), (.int .i64 0), (.str []), (.int .i64 0), (.int .i64 0), .nilsl])] .shut), (.int .i64 0), .nilsl, (.int .i64 0)] 0
def qa_4 : AObj := .mapo []
def qa_5 : AObj := .cells [(.int .i64 20), (.int .i64 1), (.int .i64 0), .nilsl, (.bool false), (.int .i64 0), (.int .i64 (-1)), (.int .i64 0), (.str []), (.int .i64 0), (.int .i64 0), (.vec [(.agg [(.int .i64 2), (.int .i64 0), (.int .i64 0), (.vec [(.agg [(.int .i64 97), (.int .i64 97)])] .shut), (.bool false), (.int .i64 0), (.int .i64 0), (.int .i64 0), (.str []), (.int .i64 0), (.int .i64 0), .nilsl])] .shut), (.int .i64 0), .nilsl, (.int .i64 0)] 0
def qa_6 : AObj := .cells [(.int .i64 20), (.int .i64 1), (.int .i64 0), .nilsl, (.bool false), (.int .i64 0), (.int .i64 (-1)), (.int .i64 0), (.str []), (.int .i64 0), (.int .i64 0), (.vec [(.agg [(.int .i64 2), (.int .i64 0), (.int .i64 0), (.vec [(.agg [(.int .i64 97), (.int .i64 97)])] .shut), (.bool false), (.int .i64 0), (.int .i64 0), (.int .i64 0), (.str []), (.int .i64 0), (.int .i64 0), .nilsl])] .shut), (.int .i64 0), .nilsl, (.int .i64 0)] 0
def qa_7 : AObj := .cells [(.func 97 [] [(.ptr 7 0 0)])] 0
def qa_8 : AObj := .cells [(.ms 12 5 0 6 6 7), (.ms 26 0 0 1 1 1), (.map 4), (.int .i64 2), (.int .i64 20), (.int .i64 1), (.int .i64 0), .nilsl, (.bool false), (.int .i64 0), (.int .i64 (-1)), (.int .i64 0), (.str []), (.int .i64 0), (.int .i64 0), (.vec [(.agg [(.int .i64 2), (.int .i64 0), (.int .i64 0), (.vec [(.agg [(.int .i64 97), (.int .i64 97)])] .shut), (.bool false), (.int .i64 0), (.int .i64 0), (.int .i64 0), (.str []), (.int .i64 0), (.int .i64 0), .nilsl])] .shut), (.int .i64 0), .nilsl, (.int .i64 0)] 0
def qa_9 : AObj := .mapo [((.str [57, 55, 45, 57, 55, 44]), (.int .i64 0))]
def qa_10 : AObj := .cells [(.ptr 8 0 0), (.map 9), .nilsl, (.ptr 14 0 0)] 0
def qa_11 : AObj := .cells [(.int .i64 0), (.int .i64 0), (.int .i64 0), (.int .i64 0), (.int .i64 0), (.bool false), (.str [])] 0
def qa_12 : AObj := .cells [(.int .i64 0), (.int .i64 0), (.int .i64 0), (.int .i64 0), (.int .i64 0), (.bool false), (.str []), (.int .i64 21), (.int .i64 0), (.int .i64 0), (.int .i64 0), (.int .i64 0), (.bool false), (.str []), (.int .i64 22), (.int .i64 0), (.int .i64 (-1)), (.int .i64 5), (.int .i64 0), (.bool false), (.str []), (.int .i64 1), (.int .i64 0), (.int .i64 0), (.int .i64 0), (.int .i64 0), (.bool false), (.str []), (.int .i64 20), (.int .i64 2), (.int .i64 0), (.int .i64 0), (.int .i64 0), (.bool false), (.str []), (.int .i64 23), (.int .i64 0), (.int .i64 0), (.int .i64 0), (.int .i64 0), (.bool false), (.str [])] 5
def qa_13 : AObj := .cells [(.int .i64 20), (.int .i64 1), (.int .i64 0), .nilsl, (.bool false), (.int .i64 0), (.int .i64 (-1)), (.int .i64 0), (.str []), (.int .i64 0), (.int .i64 0), (.vec [(.agg [(.int .i64 2), (.int .i64 0), (.int .i64 0), (.vec [(.agg [(.int .i64 97), (.int .i64 97)])] .shut), (.bool false), (.int .i64 0), (.int .i64 0), (.int .i64 0), (.str []), (.int .i64 0), (.int .i64 0), .nilsl])] .shut)] 0
def qa_14 : AObj := .cells [.nilsl] 0
def qa_15 : AObj := .cells [(.ptr 10 0 0)] 0
def qa_16 : AObj := .cells [(.int .i64 20), (.int .i64 1), (.int .i64 0), .nilsl, (.bool false), (.int .i64 0), (.int .i64 (-1)), (.int .i64 0), (.str []), (.int .i64 0), (.int .i64 0), (.vec [(.agg [(.int .i64 2), (.int .i64 0), (.int .i64 0), (.vec [(.agg [(.int .i64 97), (.int .i64 97)])] .shut), (.bool false), (.int .i64 0), (.int .i64 0), (.int .i64 0), (.str []), (.int .i64 0), (.int .i64 0), .nilsl])] .shut)] 0
def qa_17 : AObj := .cells [(.ptr 10 0 0)] 0
def qa_18 : AObj := .cells [(.int .i64 20), (.int .i64 1), (.int .i64 0), .nilsl, (.bool false), (.int .i64 0), (.int .i64 (-1)), (.int .i64 0), (.str []), (.int .i64 0), (.int .i64 0), (.vec [(.agg [(.int .i64 2), (.int .i64 0), (.int .i64 0), (.vec [(.agg [(.int .i64 97), (.int .i64 97)])] .shut), (.bool false), (.int .i64 0), (.int .i64 0), (.int .i64 0), (.str []), (.int .i64 0), (.int .i64 0), .nilsl])] .shut)] 0
def qa_19 : AObj := .cells [(.int .i64 21), (.int .i64 0), (.int .i64 0), (.int .i64 0), (.int .i64 0), (.bool false), (.str [])] 0
def qa_20 : AObj := .pend
def qa_21 : AObj := .cells [(.int .i64 22), (.int .i64 0), (.int .i64 (-1)), (.int .i64 0), (.int .i64 0), (.bool false), (.str [])] 0
def qa_22 : AObj := .pend
def qa_23 : AObj := .cells [(.ptr 10 0 0)] 0
def qa_24 : AObj := .cells [(.int .i64 2), (.int .i64 0), (.int .i64 0), (.vec [(.agg [(.int .i64 97), (.int .i64 97)])] .shut), (.bool false), (.int .i64 0), (.int .i64 0), (.int .i64 0), (.str []), (.int .i64 0), (.int .i64 0), .nilsl] 0
def qa_25 : AObj := .cells [(.int .i64 97), (.int .i64 97)] 0
def qa_26 : AObj := .cells [(.vec [(.cplx .f64 4636526185122103296 4636526185122103296)] .shut)] 0
def qa_27 : AObj := .cells [(.int .i64 1), (.int .i64 0), (.int .i64 0), (.int .i64 0), (.int .i64 0), (.bool false), (.str [])] 0
def qa_28 : AObj := .pend
def qa_29 : AObj := .cells [(.int .i64 20), (.int .i64 2), (.int .i64 0), (.int .i64 0), (.int .i64 0), (.bool false), (.str [])] 0
def qa_30 : AObj := .pend
def qa_31 : AObj := .cells [(.int .i64 23), (.int .i64 0), (.int .i64 0), (.int .i64 0), (.int .i64 0), (.bool false), (.str [])] 0
def qa_32 : AObj := .pend
def qa_33 : AObj := .cells [(.int .i64 20), (.int .i64 1), (.int .i64 0), .nilsl, (.bool false), (.int .i64 0), (.int .i64 (-1)), (.int .i64 0), (.str []), (.int .i64 0), (.int .i64 0), (.ms 43 0 0 1 1 12), (.int .i64 0), .nilsl, (.int .i64 0)] 0
def qa_34 : AObj := .cells [(.int .i64 20), (.int .i64 1), (.int .i64 0), .nilsl, (.bool false), (.int .i64 0), (.int .i64 (-1)), (.int .i64 0), (.str []), (.int .i64 0), (.int .i64 0), (.ms 43 0 0 1 1 12), (.int .i64 0), .nilsl, (.int .i64 0)] 0
def qa_35 : AObj := .cells [(.int .i64 20), (.int .i64 1), (.int .i64 0), .nilsl, (.bool false), (.int .i64 0), (.int .i64 (-1)), (.int .i64 0), (.str []), (.int .i64 0), (.int .i64 0), (.vec [(.agg [(.int .i64 2), (.int .i64 0), (.int .i64 0), (.vec [(.agg [(.int .i64 97), (.int .i64 97)])] .shut), (.bool false), (.int .i64 0), (.int .i64 0), (.int .i64 0), (.str []), (.int .i64 0), (.int .i64 0), .nilsl])] .shut)] 0
def qa_36 : AObj := .cells [(.bool true)] 0
def qa_37 : AObj := .cells [(.func 56 [] [(.ptr 37 0 0), (.ptr 36 0 0), (.ptr 35 0 0)])] 0
def qa_38 : AObj := .cells [(.int .i64 20), (.int .i64 1), (.int .i64 0), .nilsl, (.bool false), (.int .i64 0), (.int .i64 (-1)), (.int .i64 0), (.str []), (.int .i64 0), (.int .i64 0), (.ms 43 0 0 1 1 12)] 0
def qa_39 : AObj := .cells [(.int .i64 20), (.int .i64 1), (.int .i64 0), .nilsl, (.bool false), (.int .i64 0), (.int .i64 (-1)), (.int .i64 0), (.str []), (.int .i64 0), (.int .i64 0), (.ms 43 0 0 1 1 12)] 0
def qa_40 : AObj := .cells [(.int .i64 2), (.int .i64 0), (.int .i64 0), (.vec [(.agg [(.int .i64 97), (.int .i64 97)])] .shut), (.bool false), (.int .i64 0), (.int .i64 0), (.int .i64 0), (.str []), (.int .i64 0), (.int .i64 0), .nilsl] 0
def qa_41 : AObj := .cells [(.int .i64 2), (.int .i64 0), (.int .i64 0), (.vec [(.agg [(.int .i64 97), (.int .i64 97)])] .shut), (.bool false), (.int .i64 0), (.int .i64 0), (.int .i64 0), (.str []), (.int .i64 0), (.int .i64 0), .nilsl] 0
def qa_42 : AObj := .cells [(.int .i64 2), (.int .i64 0), (.int .i64 0), (.vec [(.agg [(.int .i64 97), (.int .i64 97)])] .shut), (.bool false), (.int .i64 0), (.int .i64 0), (.int .i64 0), (.str []), (.int .i64 0), (.int .i64 0), .nilsl] 0
def qa_43 : AObj := .cells [(.int .i64 2), (.int .i64 0), (.int .i64 0), (.vec [(.agg [(.int .i64 97), (.int .i64 97)])] .shut), (.bool false), (.int .i64 0), (.int .i64 0), (.int .i64 0), (.str []), (.int .i64 0), (.int .i64 0), .nilsl] 0
def qa_44 : AObj := .cells [(.int .i64 20), (.int .i64 1), (.int .i64 0), .nilsl, (.bool false), (.int .i64 0), (.int .i64 (-1)), (.int .i64 0), (.str []), (.int .i64 0), (.int .i64 0), (.ms 43 0 0 1 1 12), (.int .i64 0), .nilsl, (.int .i64 0)] 0
def qa_45 : AObj := .mapo []
def qa_46 : AObj := .cells [(.int .i64 20), (.int .i64 1), (.int .i64 0), .nilsl, (.bool false), (.int .i64 0), (.int .i64 (-1)), (.int .i64 0), (.str []), (.int .i64 0), (.int .i64 0), (.vec [(.agg [(.int .i64 2), (.int .i64 0), (.int .i64 0), (.vec [(.agg [(.int .i64 97), (.int .i64 97)])] .shut), (.bool false), (.int .i64 0), (.int .i64 0), (.int .i64 0), (.str []), (.int .i64 0), (.int .i64 0), .nilsl])] .shut), (.int .i64 0), .nilsl, (.int .i64 0)] 0
def qa_47 : AObj := .cells [(.int .i64 20), (.int .i64 1), (.int .i64 0), .nilsl, (.bool false), (.int .i64 0), (.int .i64 (-1)), (.int .i64 0), (.str []), (.int .i64 0), (.int .i64 0), (.vec [(.agg [(.int .i64 2), (.int .i64 0), (.int .i64 0), (.vec [(.agg [(.int .i64 97), (.int .i64 97)])] .shut), (.bool false), (.int .i64 0), (.int .i64 0), (.int .i64 0), (.str []), (.int .i64 0), (.int .i64 0), .nilsl])] .shut), (.int .i64 0), .nilsl, (.int .i64 0)] 0
def qa_48 : AObj := .cells [(.func 97 [] [(.ptr 48 0 0)])] 0
def qa_49 : AObj := .cells [(.ms 53 5 0 6 6 7), (.ms 67 0 0 1 1 1), (.map 45), (.int .i64 2), (.int .i64 20), (.int .i64 1), (.int .i64 0), .nilsl, (.bool false), (.int .i64 0), (.int .i64 (-1)), (.int .i64 0), (.str []), (.int .i64 0), (.int .i64 0), (.vec [(.agg [(.int .i64 2), (.int .i64 0), (.int .i64 0), (.vec [(.agg [(.int .i64 97), (.int .i64 97)])] .shut), (.bool false), (.int .i64 0), (.int .i64 0), (.int .i64 0), (.str []), (.int .i64 0), (.int .i64 0), .nilsl])] .shut), (.int .i64 0), .nilsl, (.int .i64 0)] 0
def qa_50 : AObj := .mapo [((.str [57, 55, 45, 57, 55, 44]), (.int .i64 0))]
def qa_51 : AObj := .cells [(.ptr 49 0 0), (.map 50), .nilsl, (.ptr 55 0 0)] 0
def qa_52 : AObj := .cells [(.int .i64 0), (.int .i64 0), (.int .i64 0), (.int .i64 0), (.int .i64 0), (.bool false), (.str [])] 0
def qa_53 : AObj := .cells [(.int .i64 0), (.int .i64 0), (.int .i64 0), (.int .i64 0), (.int .i64 0), (.bool false), (.str []), (.int .i64 21), (.int .i64 0), (.int .i64 0), (.int .i64 0), (.int .i64 0), (.bool false), (.str []), (.int .i64 22), (.int .i64 0), (.int .i64 (-1)), (.int .i64 5), (.int .i64 0), (.bool false), (.str []), (.int .i64 1), (.int .i64 0), (.int .i64 0), (.int .i64 0), (.int .i64 0), (.bool false), (.str []), (.int .i64 20), (.int .i64 2), (.int .i64 0), (.int .i64 0), (.int .i64 0), (.bool false), (.str []), (.int .i64 23), (.int .i64 0), (.int .i64 0), (.int .i64 0), (.int .i64 0), (.bool false), (.str [])] 5
def qa_54 : AObj := .cells [(.int .i64 20), (.int .i64 1), (.int .i64 0), .nilsl, (.bool false), (.int .i64 0), (.int .i64 (-1)), (.int .i64 0), (.str []), (.int .i64 0), (.int .i64 0), (.vec [(.agg [(.int .i64 2), (.int .i64 0), (.int .i64 0), (.vec [(.agg [(.int .i64 97), (.int .i64 97)])] .shut), (.bool false), (.int .i64 0), (.int .i64 0), (.int .i64 0), (.str []), (.int .i64 0), (.int .i64 0), .nilsl])] .shut)] 0
def qa_55 : AObj := .cells [.nilsl] 0
def qa_56 : AObj := .cells [(.ptr 51 0 0)] 0
def qa_57 : AObj := .cells [(.int .i64 20), (.int .i64 1), (.int .i64 0), .nilsl, (.bool false), (.int .i64 0), (.int .i64 (-1)), (.int .i64 0), (.str []), (.int .i64 0), (.int .i64 0), (.vec [(.agg [(.int .i64 2), (.int .i64 0), (.int .i64 0), (.vec [(.agg [(.int .i64 97), (.int .i64 97)])] .shut), (.bool false), (.int .i64 0), (.int .i64 0), (.int .i64 0), (.str []), (.int .i64 0), (.int .i64 0), .nilsl])] .shut)] 0
def qa_58 : AObj := .cells [(.ptr 51 0 0)] 0
def qa_59 : AObj := .cells [(.int .i64 20), (.int .i64 1), (.int .i64 0), .nilsl, (.bool false), (.int .i64 0), (.int .i64 (-1)), (.int .i64 0), (.str []), (.int .i64 0), (.int .i64 0), (.vec [(.agg [(.int .i64 2), (.int .i64 0), (.int .i64 0), (.vec [(.agg [(.int .i64 97), (.int .i64 97)])] .shut), (.bool false), (.int .i64 0), (.int .i64 0), (.int .i64 0), (.str []), (.int .i64 0), (.int .i64 0), .nilsl])] .shut)] 0
def qa_60 : AObj := .cells [(.int .i64 21), (.int .i64 0), (.int .i64 0), (.int .i64 0), (.int .i64 0), (.bool false), (.str [])] 0
def qa_61 : AObj := .pend
def qa_62 : AObj := .cells [(.int .i64 22), (.int .i64 0), (.int .i64 (-1)), (.int .i64 0), (.int .i64 0), (.bool false), (.str [])] 0
def qa_63 : AObj := .pend
def qa_64 : AObj := .cells [(.ptr 51 0 0)] 0
def qa_65 : AObj := .cells [(.int .i64 2), (.int .i64 0), (.int .i64 0), (.vec [(.agg [(.int .i64 97), (.int .i64 97)])] .shut), (.bool false), (.int .i64 0), (.int .i64 0), (.int .i64 0), (.str []), (.int .i64 0), (.int .i64 0), .nilsl] 0
def qa_66 : AObj := .cells [(.int .i64 97), (.int .i64 97)] 0
def qa_67 : AObj := .cells [(.vec [(.cplx .f64 4636526185122103296 4636526185122103296)] .shut)] 0
def qa_68 : AObj := .cells [(.int .i64 1), (.int .i64 0), (.int .i64 0), (.int .i64 0), (.int .i64 0), (.bool false), (.str [])] 0
def qa_69 : AObj := .pend
def qa_70 : AObj := .cells [(.int .i64 20), (.int .i64 2), (.int .i64 0), (.int .i64 0), (.int .i64 0), (.bool false), (.str [])] 0
def qa_71 : AObj := .pend
def qa_72 : AObj := .cells [(.int .i64 23), (.int .i64 0), (.int .i64 0), (.int .i64 0), (.int .i64 0), (.bool false), (.str [])] 0
def qa_73 : AObj := .pend
def qa_74 : AObj := .cells [(.int .i64 20), (.int .i64 1), (.int .i64 0), .nilsl, (.bool false), (.int .i64 0), (.int .i64 (-1)), (.int .i64 0), (.str []), (.int .i64 0), (.int .i64 0), (.vec [(.agg [(.int .i64 2), (.int .i64 0), (.int .i64 0), (.vec [(.agg [(.int .i64 97), (.int .i64 97)])] .shut), (.bool false), (.int .i64 0), (.int .i64 0), (.int .i64 0), (.str []), (.int .i64 0), (.int .i64 0), .nilsl])] .shut), (.int .i64 0), .nilsl, (.int .i64 0), (.ptr 8 0 0), (.ptr 49 0 0), (.bool false), (.func 25 [] [])] 0
def qa_75 : AObj := .cells [(.ptr 74 0 0)] 0
def hqa0 : List AObj := [qa_0, qa_1, qa_2, qa_3, qa_4, qa_5, qa_6, qa_7, qa_8, qa_9, qa_10, qa_11, qa_12, qa_13, qa_14, qa_15, qa_16, qa_17, qa_18, qa_19, qa_20, qa_21, qa_22, qa_23, qa_24, qa_25, qa_26, qa_27, qa_28, qa_29, qa_30, qa_31, qa_32, qa_33, qa_34, qa_35, qa_36, qa_37, qa_38, qa_39, qa_40, qa_41, qa_42, qa_43, qa_44, qa_45, qa_46, qa_47, qa_48, qa_49, qa_50, qa_51, qa_52, qa_53, qa_54, qa_55, qa_56, qa_57, qa_58, qa_59, qa_60, qa_61, qa_62, qa_63, qa_64, qa_65, qa_66, qa_67, qa_68, qa_69, qa_70, qa_71, qa_72, qa_73, qa_74, qa_75]
theorem mdqa : callF T 597 bz 8 [.vec (bs [97, 42]) (.exact false), .int .i64 0] ⟨[], [], [], glT⟩ = some (.ret (.tup [.agg qacore, qam, .bool true]), ⟨hqa0, [], [], glT⟩) := by kernel_rfl

end Go.Vmm
