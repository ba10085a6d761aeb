/-
  Of MatchLeft: what the functions that the law reaches come to.
-/
import Derived.Test.YtndindldlkdigabGreatDoorMltA

namespace Go.Vmm
open Go Go.Am Go.Proofs

def bs (l : List Nat) : List AV := l.map fun (c : Nat) => AV.int .u8 (c : Int)
/-- the table of powers of ten -/
def pow10 : AV := .agg [.int .u64 1, .int .u64 10, .int .u64 100, .int .u64 1000, .int .u64 10000, .int .u64 100000, .int .u64 1000000, .int .u64 10000000, .int .u64 100000000, .int .u64 1000000000, .int .u64 10000000000, .int .u64 100000000000, .int .u64 1000000000000, .int .u64 10000000000000, .int .u64 100000000000000, .int .u64 1000000000000000, .int .u64 10000000000000000, .int .u64 100000000000000000, .int .u64 1000000000000000000, .int .u64 10000000000000000000]
def glT : List (Nat × AV) := [(0, pow10)]
def bz : Bar := { w := 0, t := 0, es := [] }
/-- no core -/
def z15 : List AV := [.int .i64 0, .int .i64 0, .int .i64 0, .nilsl, .bool false, .int .i64 0, .int .i64 0, .int .i64 0, .str [], .int .i64 0, .int .i64 0, .nilsl, .int .i64 0, .nilsl, .int .i64 0]

end Go.Vmm

namespace Go.Vmm
open Go Go.Am Go.Proofs

def qdcore : List AV := [(.int .i64 20), (.int .i64 6), (.int .i64 0), .nilsl, (.bool false), (.int .i64 1), (.int .i64 (-1)), (.int .i64 0), (.str []), (.int .i64 0), (.int .i64 0), (.vec [(.agg [(.int .i64 2), (.int .i64 0), (.int .i64 0), (.vec [(.agg [(.int .i64 98), (.int .i64 100)]), (.agg [(.int .i64 120), (.int .i64 120)])] .shut), (.bool false), (.int .i64 0), (.int .i64 0), (.int .i64 0), (.str []), (.int .i64 0), (.int .i64 0), .nilsl])] .shut), (.int .i64 0), .nilsl, (.int .i64 0)]
def qdm : AV := (.ptr 76 0 0)
def qd_0 : AObj := .cells [(.int .i64 20), (.int .i64 6), (.int .i64 0), .nilsl, (.bool false), (.int .i64 1), (.int .i64 (-1)), (.int .i64 0), (.str []), (.int .i64 0), (.int .i64 0), (.vec [(.agg [(.int .i64 2), (.int .i64 0), (.int .i64 0), (.vec [(.agg [(.int .i64 98), (.int .i64 100)]), (.agg [(.int .i64 120), (.int .i64 120)])] .shut), (.bool false), (.int .i64 0), (.int .i64 0), (.int .i64 0), (.str []), (.int .i64 0), (.int .i64 0), .nilsl])] .shut), (.int .i64 0), .nilsl, (.int .i64 0)] 0
def qd_1 : AObj := .cells [(.int .i64 20), (.int .i64 6), (.int .i64 0), .nilsl, (.bool false), (.int .i64 1), (.int .i64 (-1)), (.int .i64 0), (.str []), (.int .i64 0), (.int .i64 0), (.vec [(.agg [(.int .i64 2), (.int .i64 0), (.int .i64 0), (.vec [(.agg [(.int .i64 98), (.int .i64 100)]), (.agg [(.int .i64 120), (.int .i64 120)])] .shut), (.bool false), (.int .i64 0), (.int .i64 0), (.int .i64 0), (.str []), (.int .i64 0), (.int .i64 0), .nilsl])] .shut), (.int .i64 0), .nilsl, (.int .i64 0)] 0
def qd_2 : AObj := .cells [(.int .i64 20), (.int .i64 6), (.int .i64 0), .nilsl, (.bool false), (.int .i64 1), (.int .i64 (-1)), (.int .i64 0), (.str []), (.int .i64 0), (.int .i64 0), (.vec [(.agg [(.int .i64 2), (.int .i64 0), (.int .i64 0), (.vec [(.agg [(.int .i64 98), (.int .i64 100)]), (.agg [(.int .i64 120), (.int .i64 120)])] .shut), (.bool false), (.int .i64 0), (.int .i64 0), (.int .i64 0), (.str []), (.int .i64 0), (.int .i64 0), .nilsl])] .shut), (.int .i64 0), .nilsl, (.int .i64 0)] 0
def qd_3 : AObj := .cells [(.int .i64 20), (.int .i64 6), (.int .i64 0), .nilsl, (.bool false), (.int .i64 1), (.int .i64 (-1)), (.int .i64 0), (.str []), (.int .i64 0), (.int .i64 0), (.vec [(.agg [(.int .i64 2), (.int .i64 0), (.int .i64 0), (.vec [(.agg [(.int .i64 98), (.int .i64 100)]), (.agg [(.int .i64 120), (.int .i64 120)])] .shut), (.bool false), (.int .i64 0), (.int .i64 0), (.int .i64 0), (.str []), (.int .i64 0), (.int .i64 0), .nilsl])] .shut), (.int .i64 0), .nilsl, (.int .i64 0)] 0
def qd_4 : AObj := .mapo []
def qd_5 : AObj := .cells [(.int .i64 20), (.int .i64 6), (.int .i64 0), .nilsl, (.bool false), (.int .i64 1), (.int .i64 (-1)), (.int .i64 0), (.str []), (.int .i64 0), (.int .i64 0), (.vec [(.agg [(.int .i64 2), (.int .i64 0), (.int .i64 0), (.vec [(.agg [(.int .i64 98), (.int .i64 100)]), (.agg [(.int .i64 120), (.int .i64 120)])] .shut), (.bool false), (.int .i64 0), (.int .i64 0), (.int .i64 0), (.str []), (.int .i64 0), (.int .i64 0), .nilsl])] .shut), (.int .i64 0), .nilsl, (.int .i64 0)] 0
def qd_6 : AObj := .cells [(.int .i64 20), (.int .i64 6), (.int .i64 0), .nilsl, (.bool false), (.int .i64 1), (.int .i64 (-1)), (.int .i64 0), (.str []), (.int .i64 0), (.int .i64 0), (.vec [(.agg [(.int .i64 2), (.int .i64 0), (.int .i64 0), (.vec [(.agg [(.int .i64 98), (.int .i64 100)]), (.agg [(.int .i64 120), (.int .i64 120)])] .shut), (.bool false), (.int .i64 0), (.int .i64 0), (.int .i64 0), (.str []), (.int .i64 0), (.int .i64 0), .nilsl])] .shut), (.int .i64 0), .nilsl, (.int .i64 0)] 0
def qd_7 : AObj := .cells [(.func 98 [] [(.ptr 7 0 0)])] 0
def qd_8 : AObj := .cells [(.ms 12 5 0 6 6 7), (.ms 27 0 0 1 1 1), (.map 4), (.int .i64 2), (.int .i64 20), (.int .i64 6), (.int .i64 0), .nilsl, (.bool false), (.int .i64 1), (.int .i64 (-1)), (.int .i64 0), (.str []), (.int .i64 0), (.int .i64 0), (.vec [(.agg [(.int .i64 2), (.int .i64 0), (.int .i64 0), (.vec [(.agg [(.int .i64 98), (.int .i64 100)]), (.agg [(.int .i64 120), (.int .i64 120)])] .shut), (.bool false), (.int .i64 0), (.int .i64 0), (.int .i64 0), (.str []), (.int .i64 0), (.int .i64 0), .nilsl])] .shut), (.int .i64 0), .nilsl, (.int .i64 0)] 0
def qd_9 : AObj := .mapo [((.str [57, 56, 45, 49, 48, 48, 44, 49, 50, 48, 45, 49, 50, 48, 44]), (.int .i64 0))]
def qd_10 : AObj := .cells [(.ptr 8 0 0), (.map 9), .nilsl, (.ptr 14 0 0)] 0
def qd_11 : AObj := .cells [(.int .i64 0), (.int .i64 0), (.int .i64 0), (.int .i64 0), (.int .i64 0), (.bool false), (.str [])] 0
def qd_12 : AObj := .cells [(.int .i64 0), (.int .i64 0), (.int .i64 0), (.int .i64 0), (.int .i64 0), (.bool false), (.str []), (.int .i64 21), (.int .i64 0), (.int .i64 0), (.int .i64 0), (.int .i64 0), (.bool false), (.str []), (.int .i64 22), (.int .i64 1), (.int .i64 (-1)), (.int .i64 5), (.int .i64 0), (.bool false), (.str []), (.int .i64 1), (.int .i64 0), (.int .i64 0), (.int .i64 0), (.int .i64 0), (.bool false), (.str []), (.int .i64 20), (.int .i64 2), (.int .i64 0), (.int .i64 0), (.int .i64 0), (.bool false), (.str []), (.int .i64 23), (.int .i64 0), (.int .i64 0), (.int .i64 0), (.int .i64 0), (.bool false), (.str [])] 5
def qd_13 : AObj := .cells [(.int .i64 20), (.int .i64 6), (.int .i64 0), .nilsl, (.bool false), (.int .i64 1), (.int .i64 (-1)), (.int .i64 0), (.str []), (.int .i64 0), (.int .i64 0), (.vec [(.agg [(.int .i64 2), (.int .i64 0), (.int .i64 0), (.vec [(.agg [(.int .i64 98), (.int .i64 100)]), (.agg [(.int .i64 120), (.int .i64 120)])] .shut), (.bool false), (.int .i64 0), (.int .i64 0), (.int .i64 0), (.str []), (.int .i64 0), (.int .i64 0), .nilsl])] .shut)] 0
def qd_14 : AObj := .cells [.nilsl] 0
def qd_15 : AObj := .cells [(.ptr 10 0 0)] 0
def qd_16 : AObj := .cells [(.int .i64 20), (.int .i64 6), (.int .i64 0), .nilsl, (.bool false), (.int .i64 1), (.int .i64 (-1)), (.int .i64 0), (.str []), (.int .i64 0), (.int .i64 0), (.vec [(.agg [(.int .i64 2), (.int .i64 0), (.int .i64 0), (.vec [(.agg [(.int .i64 98), (.int .i64 100)]), (.agg [(.int .i64 120), (.int .i64 120)])] .shut), (.bool false), (.int .i64 0), (.int .i64 0), (.int .i64 0), (.str []), (.int .i64 0), (.int .i64 0), .nilsl])] .shut)] 0
def qd_17 : AObj := .cells [(.ptr 10 0 0)] 0
def qd_18 : AObj := .cells [(.int .i64 20), (.int .i64 6), (.int .i64 0), .nilsl, (.bool false), (.int .i64 1), (.int .i64 (-1)), (.int .i64 0), (.str []), (.int .i64 0), (.int .i64 0), (.vec [(.agg [(.int .i64 2), (.int .i64 0), (.int .i64 0), (.vec [(.agg [(.int .i64 98), (.int .i64 100)]), (.agg [(.int .i64 120), (.int .i64 120)])] .shut), (.bool false), (.int .i64 0), (.int .i64 0), (.int .i64 0), (.str []), (.int .i64 0), (.int .i64 0), .nilsl])] .shut)] 0
def qd_19 : AObj := .cells [(.int .i64 21), (.int .i64 0), (.int .i64 0), (.int .i64 0), (.int .i64 0), (.bool false), (.str [])] 0
def qd_20 : AObj := .pend
def qd_21 : AObj := .cells [(.int .i64 22), (.int .i64 1), (.int .i64 (-1)), (.int .i64 0), (.int .i64 0), (.bool false), (.str [])] 0
def qd_22 : AObj := .pend
def qd_23 : AObj := .cells [(.ptr 10 0 0)] 0
def qd_24 : AObj := .cells [(.int .i64 2), (.int .i64 0), (.int .i64 0), (.vec [(.agg [(.int .i64 98), (.int .i64 100)]), (.agg [(.int .i64 120), (.int .i64 120)])] .shut), (.bool false), (.int .i64 0), (.int .i64 0), (.int .i64 0), (.str []), (.int .i64 0), (.int .i64 0), .nilsl] 0
def qd_25 : AObj := .cells [(.int .i64 98), (.int .i64 100)] 0
def qd_26 : AObj := .cells [(.int .i64 120), (.int .i64 120)] 0
def qd_27 : AObj := .cells [(.vec [(.cplx .f64 4636596553866280960 4636737291354636288), (.cplx .f64 4638144666238189568 4638144666238189568)] .shut)] 0
def qd_28 : AObj := .cells [(.int .i64 1), (.int .i64 0), (.int .i64 0), (.int .i64 0), (.int .i64 0), (.bool false), (.str [])] 0
def qd_29 : AObj := .pend
def qd_30 : AObj := .cells [(.int .i64 20), (.int .i64 2), (.int .i64 0), (.int .i64 0), (.int .i64 0), (.bool false), (.str [])] 0
def qd_31 : AObj := .pend
def qd_32 : AObj := .cells [(.int .i64 23), (.int .i64 0), (.int .i64 0), (.int .i64 0), (.int .i64 0), (.bool false), (.str [])] 0
def qd_33 : AObj := .pend
def qd_34 : AObj := .cells [(.int .i64 20), (.int .i64 6), (.int .i64 0), .nilsl, (.bool false), (.int .i64 1), (.int .i64 (-1)), (.int .i64 0), (.str []), (.int .i64 0), (.int .i64 0), (.ms 44 0 0 1 1 12), (.int .i64 0), .nilsl, (.int .i64 0)] 0
def qd_35 : AObj := .cells [(.int .i64 20), (.int .i64 6), (.int .i64 0), .nilsl, (.bool false), (.int .i64 1), (.int .i64 (-1)), (.int .i64 0), (.str []), (.int .i64 0), (.int .i64 0), (.ms 44 0 0 1 1 12), (.int .i64 0), .nilsl, (.int .i64 0)] 0
def qd_36 : AObj := .cells [(.int .i64 20), (.int .i64 6), (.int .i64 0), .nilsl, (.bool false), (.int .i64 1), (.int .i64 (-1)), (.int .i64 0), (.str []), (.int .i64 0), (.int .i64 0), (.vec [(.agg [(.int .i64 2), (.int .i64 0), (.int .i64 0), (.vec [(.agg [(.int .i64 98), (.int .i64 100)]), (.agg [(.int .i64 120), (.int .i64 120)])] .shut), (.bool false), (.int .i64 0), (.int .i64 0), (.int .i64 0), (.str []), (.int .i64 0), (.int .i64 0), .nilsl])] .shut)] 0
def qd_37 : AObj := .cells [(.bool true)] 0
def qd_38 : AObj := .cells [(.func 53 [] [(.ptr 38 0 0), (.ptr 37 0 0), (.ptr 36 0 0)])] 0
def qd_39 : AObj := .cells [(.int .i64 20), (.int .i64 6), (.int .i64 0), .nilsl, (.bool false), (.int .i64 1), (.int .i64 (-1)), (.int .i64 0), (.str []), (.int .i64 0), (.int .i64 0), (.ms 44 0 0 1 1 12)] 0
def qd_40 : AObj := .cells [(.int .i64 20), (.int .i64 6), (.int .i64 0), .nilsl, (.bool false), (.int .i64 1), (.int .i64 (-1)), (.int .i64 0), (.str []), (.int .i64 0), (.int .i64 0), (.ms 44 0 0 1 1 12)] 0
def qd_41 : AObj := .cells [(.int .i64 2), (.int .i64 0), (.int .i64 0), (.vec [(.agg [(.int .i64 98), (.int .i64 100)]), (.agg [(.int .i64 120), (.int .i64 120)])] .shut), (.bool false), (.int .i64 0), (.int .i64 0), (.int .i64 0), (.str []), (.int .i64 0), (.int .i64 0), .nilsl] 0
def qd_42 : AObj := .cells [(.int .i64 2), (.int .i64 0), (.int .i64 0), (.vec [(.agg [(.int .i64 98), (.int .i64 100)]), (.agg [(.int .i64 120), (.int .i64 120)])] .shut), (.bool false), (.int .i64 0), (.int .i64 0), (.int .i64 0), (.str []), (.int .i64 0), (.int .i64 0), .nilsl] 0
def qd_43 : AObj := .cells [(.int .i64 2), (.int .i64 0), (.int .i64 0), (.vec [(.agg [(.int .i64 98), (.int .i64 100)]), (.agg [(.int .i64 120), (.int .i64 120)])] .shut), (.bool false), (.int .i64 0), (.int .i64 0), (.int .i64 0), (.str []), (.int .i64 0), (.int .i64 0), .nilsl] 0
def qd_44 : AObj := .cells [(.int .i64 2), (.int .i64 0), (.int .i64 0), (.vec [(.agg [(.int .i64 98), (.int .i64 100)]), (.agg [(.int .i64 120), (.int .i64 120)])] .shut), (.bool false), (.int .i64 0), (.int .i64 0), (.int .i64 0), (.str []), (.int .i64 0), (.int .i64 0), .nilsl] 0
def qd_45 : AObj := .cells [(.int .i64 20), (.int .i64 6), (.int .i64 0), .nilsl, (.bool false), (.int .i64 1), (.int .i64 (-1)), (.int .i64 0), (.str []), (.int .i64 0), (.int .i64 0), (.ms 44 0 0 1 1 12), (.int .i64 0), .nilsl, (.int .i64 0)] 0
def qd_46 : AObj := .mapo []
def qd_47 : AObj := .cells [(.int .i64 20), (.int .i64 6), (.int .i64 0), .nilsl, (.bool false), (.int .i64 1), (.int .i64 (-1)), (.int .i64 0), (.str []), (.int .i64 0), (.int .i64 0), (.vec [(.agg [(.int .i64 2), (.int .i64 0), (.int .i64 0), (.vec [(.agg [(.int .i64 98), (.int .i64 100)]), (.agg [(.int .i64 120), (.int .i64 120)])] .shut), (.bool false), (.int .i64 0), (.int .i64 0), (.int .i64 0), (.str []), (.int .i64 0), (.int .i64 0), .nilsl])] .shut), (.int .i64 0), .nilsl, (.int .i64 0)] 0
def qd_48 : AObj := .cells [(.int .i64 20), (.int .i64 6), (.int .i64 0), .nilsl, (.bool false), (.int .i64 1), (.int .i64 (-1)), (.int .i64 0), (.str []), (.int .i64 0), (.int .i64 0), (.vec [(.agg [(.int .i64 2), (.int .i64 0), (.int .i64 0), (.vec [(.agg [(.int .i64 98), (.int .i64 100)]), (.agg [(.int .i64 120), (.int .i64 120)])] .shut), (.bool false), (.int .i64 0), (.int .i64 0), (.int .i64 0), (.str []), (.int .i64 0), (.int .i64 0), .nilsl])] .shut), (.int .i64 0), .nilsl, (.int .i64 0)] 0
def qd_49 : AObj := .cells [(.func 98 [] [(.ptr 49 0 0)])] 0
def qd_50 : AObj := .cells [(.ms 54 5 0 6 6 7), (.ms 69 0 0 1 1 1), (.map 46), (.int .i64 2), (.int .i64 20), (.int .i64 6), (.int .i64 0), .nilsl, (.bool false), (.int .i64 1), (.int .i64 (-1)), (.int .i64 0), (.str []), (.int .i64 0), (.int .i64 0), (.vec [(.agg [(.int .i64 2), (.int .i64 0), (.int .i64 0), (.vec [(.agg [(.int .i64 98), (.int .i64 100)]), (.agg [(.int .i64 120), (.int .i64 120)])] .shut), (.bool false), (.int .i64 0), (.int .i64 0), (.int .i64 0), (.str []), (.int .i64 0), (.int .i64 0), .nilsl])] .shut), (.int .i64 0), .nilsl, (.int .i64 0)] 0
def qd_51 : AObj := .mapo [((.str [57, 56, 45, 49, 48, 48, 44, 49, 50, 48, 45, 49, 50, 48, 44]), (.int .i64 0))]
def qd_52 : AObj := .cells [(.ptr 50 0 0), (.map 51), .nilsl, (.ptr 56 0 0)] 0
def qd_53 : AObj := .cells [(.int .i64 0), (.int .i64 0), (.int .i64 0), (.int .i64 0), (.int .i64 0), (.bool false), (.str [])] 0
def qd_54 : AObj := .cells [(.int .i64 0), (.int .i64 0), (.int .i64 0), (.int .i64 0), (.int .i64 0), (.bool false), (.str []), (.int .i64 21), (.int .i64 0), (.int .i64 0), (.int .i64 0), (.int .i64 0), (.bool false), (.str []), (.int .i64 22), (.int .i64 1), (.int .i64 (-1)), (.int .i64 5), (.int .i64 0), (.bool false), (.str []), (.int .i64 1), (.int .i64 0), (.int .i64 0), (.int .i64 0), (.int .i64 0), (.bool false), (.str []), (.int .i64 20), (.int .i64 2), (.int .i64 0), (.int .i64 0), (.int .i64 0), (.bool false), (.str []), (.int .i64 23), (.int .i64 0), (.int .i64 0), (.int .i64 0), (.int .i64 0), (.bool false), (.str [])] 5
def qd_55 : AObj := .cells [(.int .i64 20), (.int .i64 6), (.int .i64 0), .nilsl, (.bool false), (.int .i64 1), (.int .i64 (-1)), (.int .i64 0), (.str []), (.int .i64 0), (.int .i64 0), (.vec [(.agg [(.int .i64 2), (.int .i64 0), (.int .i64 0), (.vec [(.agg [(.int .i64 98), (.int .i64 100)]), (.agg [(.int .i64 120), (.int .i64 120)])] .shut), (.bool false), (.int .i64 0), (.int .i64 0), (.int .i64 0), (.str []), (.int .i64 0), (.int .i64 0), .nilsl])] .shut)] 0
def qd_56 : AObj := .cells [.nilsl] 0
def qd_57 : AObj := .cells [(.ptr 52 0 0)] 0
def qd_58 : AObj := .cells [(.int .i64 20), (.int .i64 6), (.int .i64 0), .nilsl, (.bool false), (.int .i64 1), (.int .i64 (-1)), (.int .i64 0), (.str []), (.int .i64 0), (.int .i64 0), (.vec [(.agg [(.int .i64 2), (.int .i64 0), (.int .i64 0), (.vec [(.agg [(.int .i64 98), (.int .i64 100)]), (.agg [(.int .i64 120), (.int .i64 120)])] .shut), (.bool false), (.int .i64 0), (.int .i64 0), (.int .i64 0), (.str []), (.int .i64 0), (.int .i64 0), .nilsl])] .shut)] 0
def qd_59 : AObj := .cells [(.ptr 52 0 0)] 0
def qd_60 : AObj := .cells [(.int .i64 20), (.int .i64 6), (.int .i64 0), .nilsl, (.bool false), (.int .i64 1), (.int .i64 (-1)), (.int .i64 0), (.str []), (.int .i64 0), (.int .i64 0), (.vec [(.agg [(.int .i64 2), (.int .i64 0), (.int .i64 0), (.vec [(.agg [(.int .i64 98), (.int .i64 100)]), (.agg [(.int .i64 120), (.int .i64 120)])] .shut), (.bool false), (.int .i64 0), (.int .i64 0), (.int .i64 0), (.str []), (.int .i64 0), (.int .i64 0), .nilsl])] .shut)] 0
def qd_61 : AObj := .cells [(.int .i64 21), (.int .i64 0), (.int .i64 0), (.int .i64 0), (.int .i64 0), (.bool false), (.str [])] 0
def qd_62 : AObj := .pend
def qd_63 : AObj := .cells [(.int .i64 22), (.int .i64 1), (.int .i64 (-1)), (.int .i64 0), (.int .i64 0), (.bool false), (.str [])] 0
def qd_64 : AObj := .pend
def qd_65 : AObj := .cells [(.ptr 52 0 0)] 0
def qd_66 : AObj := .cells [(.int .i64 2), (.int .i64 0), (.int .i64 0), (.vec [(.agg [(.int .i64 98), (.int .i64 100)]), (.agg [(.int .i64 120), (.int .i64 120)])] .shut), (.bool false), (.int .i64 0), (.int .i64 0), (.int .i64 0), (.str []), (.int .i64 0), (.int .i64 0), .nilsl] 0
def qd_67 : AObj := .cells [(.int .i64 98), (.int .i64 100)] 0
def qd_68 : AObj := .cells [(.int .i64 120), (.int .i64 120)] 0
def qd_69 : AObj := .cells [(.vec [(.cplx .f64 4636596553866280960 4636737291354636288), (.cplx .f64 4638144666238189568 4638144666238189568)] .shut)] 0
def qd_70 : AObj := .cells [(.int .i64 1), (.int .i64 0), (.int .i64 0), (.int .i64 0), (.int .i64 0), (.bool false), (.str [])] 0
def qd_71 : AObj := .pend
def qd_72 : AObj := .cells [(.int .i64 20), (.int .i64 2), (.int .i64 0), (.int .i64 0), (.int .i64 0), (.bool false), (.str [])] 0
def qd_73 : AObj := .pend
def qd_74 : AObj := .cells [(.int .i64 23), (.int .i64 0), (.int .i64 0), (.int .i64 0), (.int .i64 0), (.bool false), (.str [])] 0
def qd_75 : AObj := .pend
def qd_76 : AObj := .cells [(.int .i64 20), (.int .i64 6), (.int .i64 0), .nilsl, (.bool false), (.int .i64 1), (.int .i64 (-1)), (.int .i64 0), (.str []), (.int .i64 0), (.int .i64 0), (.vec [(.agg [(.int .i64 2), (.int .i64 0), (.int .i64 0), (.vec [(.agg [(.int .i64 98), (.int .i64 100)]), (.agg [(.int .i64 120), (.int .i64 120)])] .shut), (.bool false), (.int .i64 0), (.int .i64 0), (.int .i64 0), (.str []), (.int .i64 0), (.int .i64 0), .nilsl])] .shut), (.int .i64 0), .nilsl, (.int .i64 0), (.ptr 8 0 0), (.ptr 50 0 0), (.bool false), (.func 25 [] [(.ptr 77 0 0), (.ptr 78 0 0)])] 0
def qd_77 : AObj := .cells [(.ptr 76 0 0)] 0
def qd_78 : AObj := .cells [(.vec [(.cplx .f64 4636596553866280960 4636737291354636288), (.cplx .f64 4638144666238189568 4638144666238189568)] .shut)] 0
def hqd0 : List AObj := [qd_0, qd_1, qd_2, qd_3, qd_4, qd_5, qd_6, qd_7, qd_8, qd_9, qd_10, qd_11, qd_12, qd_13, qd_14, qd_15, qd_16, qd_17, qd_18, qd_19, qd_20, qd_21, qd_22, qd_23, qd_24, qd_25, qd_26, qd_27, qd_28, qd_29, qd_30, qd_31, qd_32, qd_33, qd_34, qd_35, qd_36, qd_37, qd_38, qd_39, qd_40, qd_41, qd_42, qd_43, qd_44, qd_45, qd_46, qd_47, qd_48, qd_49, qd_50, qd_51, qd_52, qd_53, qd_54, qd_55, qd_56, qd_57, qd_58, qd_59, qd_60, qd_61, qd_62, qd_63, qd_64, qd_65, qd_66, qd_67, qd_68, qd_69, qd_70, qd_71, qd_72, qd_73, qd_74, qd_75, qd_76, qd_77, qd_78]
theorem mdqd : callF T 597 bz 5 [.vec (bs [91, 98, 45, 100, 120, 93, 43]) (.exact false), .int .i64 0] ⟨[], [], [], glT⟩ = some (.ret (.tup [.agg qdcore, qdm, .bool true]), ⟨hqd0, [], [], glT⟩) := by kernel_rfl

end Go.Vmm
