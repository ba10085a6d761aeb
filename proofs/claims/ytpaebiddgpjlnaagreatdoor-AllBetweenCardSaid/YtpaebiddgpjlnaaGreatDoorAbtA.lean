/-
  The functions of the package all that the law reaches, for the abstract machine; that they are the program's.
-/
import Derived.Test.YtpaebiddgpjlnaaGreatDoorMachD
import Derived.Test.YtpaebiddgpjlnaaGreatDoorMachF
import Derived.Test.YtpaebiddgpjlnaaGreatDoorProg
import Derived.KernelRfl
import Derived.Lib.Bytealg

namespace Go.Vmm
open Go Go.Am
def inL : List Nat → Nat → Bool
  | [], _ => false
  | a :: r, f => Nat.beq a f || inL r f
def inP : List (Nat × List Nat) → Nat → Nat → Bool
  | [], _, _ => false
  | (a, l) :: r, f, t => (Nat.beq a f && inL l t) || inP r f t
def toF : List (Nat × Nat) → Nat → Option Nat
  | [], _ => none
  | (a, g) :: r, f => if Nat.beq a f then some g else toF r f
def cfg : Cfg := { mode := fun f => if inL [8, 12, 13, 14, 23, 24, 31, 32, 33, 49, 50, 51, 56, 98, 99, 100, 101, 140, 141, 142, 143, 144, 145, 146, 147, 148, 174, 175, 177, 179, 180, 192, 206, 212, 219, 224, 225, 226, 227, 231, 238, 243, 244, 245, 246, 248, 249, 251] f then .raw else if inL [38, 39, 46, 65, 82, 92, 102, 103, 112, 136, 149, 157, 176, 181, 193, 194, 195, 197, 198, 199, 200, 205, 215, 220, 223, 236, 237, 239, 240, 241, 254, 258] f then .eff else .pure, keep := fun f => !(inL [] f), mu := fun f t => inP [(9, [32]), (13, [7]), (27, [31]), (50, [18]), (52, []), (56, [53]), (65, [54]), (98, [7]), (101, [10]), (110, [9]), (140, [67]), (143, [17]), (161, [82, 86, 1000000]), (192, [33]), (219, [22]), (248, [45])] f t, fv := fun f _ => toF [(9, 31), (24, 56), (31, 1000000001), (49, 97), (97, 97)] f }
/-- lurcher/lurcherlaw20.AllBetween -/
def af3c : ACode := .seq (.region [Vv 4 (.move (.const (.bool false)))] [4]) (.seq (.region [Cl 6 4 [], Mv 5 6] [5]) (.seq (.seq (.region [Mv 7 5, Vv 8 (.un .not (.tmp 7))] [8]) (.cond (.tmp 8) (.seq (.region [Vv 4 (.move (.const (.bool false)))] [4]) (.ret)) (.skip))) (.seq (.region [Mv 9 0, Mv 10 1, Cl 11 6 [Tm 9, Tm 10], Mv 12 0, Vv 13 (.len 1 (.tmp 12)), Mv 14 1, Cl 15 7 [Tm 13, Tm 14], Cl 16 5 [Tm 11, Tm 15], Mv 4 16] [4]) (.ret))))
def af3 : AFunc := ⟨.pure, true, [0, 1, 4, 5, 8], [⟨4, none, none, true⟩], true, af3c⟩
/-- lurcher/lurcherlaw20.awake -/
def af4c : ACode := .seq (.region [Vv 0 (.move (.const (.bool false)))] [0]) (.seq (.region [⟨some 10, .v (.buildSl 1 (.int .u8 0) 2 [(0, (.const (.int .u8 97))), (1, (.const (.int .u8 42)))]), none⟩, Vv 11 (.conv .ownBytes (.tmp 10)), Cl 12 8 [Tm 11, (Ci 0)], Mv 9 12, Vv 13 (.extract (.tmp 9) 0), Vv 14 (.extract (.tmp 9) 1), Vv 15 (.extract (.tmp 9) 2), ⟨some 1, .e (.alloc [(.int .i64 0), (.int .i64 0), (.int .i64 0), .nilsl, (.bool false), (.int .i64 0), (.int .i64 0), (.int .i64 0), (.str []), (.int .i64 0), (.int .i64 0), .nilsl, (.int .i64 0), .nilsl, (.int .i64 0)]), none⟩, St 15 1 13, Mv 2 14, Mv 3 15] [2, 3]) (.seq (.seq (.region [Mv 16 3, Vv 17 (.un .not (.tmp 16))] [17]) (.cond (.tmp 17) (.seq (.region [Vv 0 (.move (.const (.bool false)))] [0]) (.ret)) (.skip))) (.seq (.region [Mv 19 2, ⟨some 20, .v (.buildSl 1 (.int .u8 0) 3 [(0, (.const (.int .u8 97))), (1, (.const (.int .u8 97))), (2, (.const (.int .u8 98)))]), none⟩, Vv 21 (.conv .ownBytes (.tmp 20)), Vv 22 (.build [(.int .i64 0), (.int .i64 0), (.int .i64 0)] []), Cl 23 9 [Tm 19, Tm 21, (Ci 0), (Ci 0), (.const .nilsl), Tm 22], Mv 18 23, Vv 24 (.extract (.tmp 18) 0), Vv 25 (.extract (.tmp 18) 1), Mv 4 24, Mv 5 25] [4, 5]) (.seq (.region [Mv 27 2, ⟨some 28, .v (.buildSl 1 (.int .u8 0) 3 [(0, (.const (.int .u8 97))), (1, (.const (.int .u8 97))), (2, (.const (.int .u8 98)))]), none⟩, Vv 29 (.conv .ownBytes (.tmp 28)), Cl 30 10 [Tm 27, Tm 29, (Ci 0)], Mv 26 30, Vv 31 (.extract (.tmp 26) 0), Vv 32 (.extract (.tmp 26) 1), Mv 6 31, Mv 7 32] [6, 7]) (.seq (.region [⟨some 33, .v (.buildSl 1 (.int .u8 0) 3 [(0, (.const (.int .u8 97))), (1, (.const (.int .u8 98))), (2, (.const (.int .u8 99)))]), none⟩, Vv 34 (.conv .ownBytes (.tmp 33)), Vv 35 (.build [(.int .i64 0), (.int .i64 0)] [(0, 1, (Ci 1)), (1, 1, (Ci 2))]), Vv 36 (.buildSl 2 (.agg [(.int .i64 0), (.int .i64 0)]) 1 [(0, (.tmp 35))]), Vv 37 (.build [(.int .i64 0), .nilsl, (.str [])] [(0, 1, (Ci 1)), (1, 1, (.tmp 36))]), Vv 38 (.buildSl 3 (.agg [(.int .i64 0), .nilsl, (.str [])]) 1 [(0, (.tmp 37))]), Cl 39 6 [Tm 34, Tm 38], Mv 8 39] [8]) (.seq (.region [Mv 40 5, Bc 41 .eql 40 0, Mv 42 41, Gt 43 42 (.move (.tmp 4)), Gt 44 42 (.len 1 (.tmp 43)), Gt 45 42 (.bin .eql (.tmp 44) (Ci 3)), Vv 46 (.pick (.tmp 42) (.tmp 45) (.const (.bool false))), Mv 47 46, Gt 48 47 (.move (.tmp 4)), Gt 49 47 (.indexAddrS (some 3) (.tmp 48) (Ci 1)), Gt 50 47 (.fieldAddr 1 none (.tmp 49)), Gt 51 47 (.load none (.tmp 50)), Gt 52 47 (.indexAddrS (some 2) (.tmp 51) (Ci 0)), Gt 53 47 (.fieldAddr 0 none (.tmp 52)), Gt 54 47 (.load none (.tmp 53)), Gt 55 47 (.bin .eql (.tmp 54) (Ci 2)), Vv 56 (.pick (.tmp 47) (.tmp 55) (.const (.bool false))), Mv 57 56, Gt 58 57 (.move (.tmp 4)), Gt 59 57 (.indexAddrS (some 3) (.tmp 58) (Ci 2)), Gt 60 57 (.fieldAddr 1 none (.tmp 59)), Gt 61 57 (.load none (.tmp 60)), Gt 62 57 (.indexAddrS (some 2) (.tmp 61) (Ci 0)), Gt 63 57 (.fieldAddr 1 none (.tmp 62)), Gt 64 57 (.load none (.tmp 63)), Gt 65 57 (.bin .eql (.tmp 64) (Ci 3)), Vv 66 (.pick (.tmp 57) (.tmp 65) (.const (.bool false))), Mv 67 66, Gt 68 67 (.move (.tmp 6)), Gt 69 67 (.bin .eql (.tmp 68) (Ci 3)), Vv 70 (.pick (.tmp 67) (.tmp 69) (.const (.bool false))), Mv 71 70, Gt 72 71 (.move (.tmp 7)), Gt 73 71 (.bin .eql (.tmp 72) (Ci 0)), Vv 74 (.pick (.tmp 71) (.tmp 73) (.const (.bool false))), Mv 75 74, Gt 76 75 (.move (.tmp 8)), Gt 77 75 (.len 1 (.tmp 76)), Gt 78 75 (.bin .eql (.tmp 77) (Ci 2)), Vv 79 (.pick (.tmp 75) (.tmp 78) (.const (.bool false))), Mv 80 79, Gt 81 80 (.move (.tmp 8)), Gt 82 80 (.indexAddrS (some 2) (.tmp 81) (Ci 1)), Gt 83 80 (.fieldAddr 0 none (.tmp 82)), Gt 84 80 (.load none (.tmp 83)), Gt 85 80 (.bin .eql (.tmp 84) (Ci 2)), Vv 86 (.pick (.tmp 80) (.tmp 85) (.const (.bool false))), Mv 0 86] [0]) (.ret)))))))
def af4 : AFunc := ⟨.pure, true, [0, 3, 17, 2, 5, 4, 6, 7, 8], [⟨0, none, none, true⟩], true, af4c⟩
/-- lurcher/lurcherlaw20.made -/
def af8c : ACode := .seq (.region [⟨some 4, .e (.alloc [(.int .i64 0), (.int .i64 0), (.int .i64 0), .nilsl, (.bool false), (.int .i64 0), (.int .i64 0), (.int .i64 0), (.str []), (.int .i64 0), (.int .i64 0), .nilsl, (.int .i64 0), .nilsl, (.int .i64 0)]), none⟩, Vv 5 (.move (.const .nilptr)), Vv 6 (.move (.const (.bool false)))] [4, 5, 6]) (.seq (.region [Mv 13 0, Mv 14 1, Cl 15 11 [Tm 13, Tm 14], Mv 12 15, Vv 16 (.extract (.tmp 12) 0), Vv 17 (.extract (.tmp 12) 1), Vv 18 (.extract (.tmp 12) 2), ⟨some 7, .e (.alloc [(.int .i64 0), (.int .i64 0), (.int .i64 0), .nilsl, (.bool false), (.int .i64 0), (.int .i64 0), (.int .i64 0), (.str []), (.int .i64 0), (.int .i64 0), .nilsl, (.int .i64 0), .nilsl, (.int .i64 0)]), none⟩, St 15 7 16, Mv 8 17, Mv 9 18] [7, 8]) (.seq (.seq (.region [Mv 19 8, Bc 20 .neq 19 0] [20]) (.cond (.tmp 20) (.seq (.region [La 21 15 7, St 15 4 21, Vv 5 (.move (.const .nilptr)), Vv 6 (.move (.const (.bool false)))] [5, 6]) (.ret)) (.skip))) (.seq (.region [La 23 15 7, Cl 24 12 [Tm 23], Mv 22 24, Vv 25 (.extract (.tmp 22) 0), Vv 26 (.extract (.tmp 22) 1), Mv 10 25, Mv 11 26] [10, 11]) (.seq (.region [La 27 15 7, Mv 28 10, Mv 29 11, Bc 30 .eql 29 0, Mv 31 30, Gt 32 31 (.move (.tmp 10)), Gt 33 31 (.eqNil true 0 (.tmp 32)), Vv 34 (.pick (.tmp 31) (.tmp 33) (.const (.bool false))), St 15 4 27, Mv 5 28, Mv 6 34] [5, 6]) (.ret)))))
def af8 : AFunc := ⟨.raw, true, [0, 1, 4, 5, 6, 8, 20, 7, 10, 11], [⟨4, (some (some 15)), none, true⟩, ⟨5, none, none, true⟩, ⟨6, none, none, true⟩], true, af8c⟩
/-- lurcher/all.Between -/
def af6c : ACode := .seq (.region [Vv 4 (.move (.const .nilsl))] [4]) (.seq (.region [Vv 5 (.move (.const .nilsl))] [5]) (.seq (.region [Mc 6 0] [6]) (.seq (.seq (.region [Mv 10 1, Vv 11 (.len 1 (.tmp 10)), Mc 12 0] [10, 11, 12]) (.block 0 (.loop (.seq (.region [Bn 13 .lss 12 11] [13]) (.seq (.cond (.tmp 13) (.skip) (.exit 0)) (.seq (.block 1 (.seq (.region [Vv 14 (.indexAddrS (some 3) (.tmp 10) (.tmp 12)), La 15 3 14, ⟨some 8, .e (.alloc [(.int .i64 0), .nilsl, (.str [])]), none⟩, St 3 8 15] [8]) (.seq (.seq (.region [Fa 16 0 8, Ld 17 16, Bc 18 .neq 17 1, Mv 19 18, Gf 20 19 (.fieldAddr 1 none (.tmp 8)), Gf 21 19 (.load none (.tmp 20)), Gf 22 19 (.len 1 (.tmp 21)), Gf 23 19 (.bin .eql (.tmp 22) (Ci 0)), Vv 24 (.pick (.tmp 19) (.const (.bool true)) (.tmp 23))] [24]) (.cond (.tmp 24) (.exit 1) (.skip))) (.seq (.region [Fa 25 1 8, Ld 26 25, Vv 27 (.indexAddrS (some 2) (.tmp 26) (Ci 0)), La 28 2 27, ⟨some 9, .e (.alloc [(.int .i64 0), (.int .i64 0)]), none⟩, St 2 9 28] [9]) (.seq (.region [Fa 29 0 9, Ld 30 29, Mv 31 6, Bn 32 .geq 30 31, Mv 33 32, Gt 34 33 (.fieldAddr 1 none (.tmp 9)), Gt 35 33 (.load none (.tmp 34)), Gt 36 33 (.fieldAddr 0 none (.tmp 9)), Gt 37 33 (.load none (.tmp 36)), Gt 38 33 (.bin .geq (.tmp 35) (.tmp 37)), Vv 39 (.pick (.tmp 33) (.tmp 38) (.const (.bool false))), Mv 40 39, Gt 41 40 (.fieldAddr 1 none (.tmp 9)), Gt 42 40 (.load none (.tmp 41)), Gt 43 40 (.move (.tmp 0)), Gt 44 40 (.len 1 (.tmp 43)), Gt 45 40 (.bin .leq (.tmp 42) (.tmp 44)), Vv 46 (.pick (.tmp 40) (.tmp 45) (.const (.bool false)))] [46]) (.cond (.tmp 46) (.seq (.region [Mv 47 5, Mv 48 6, Fa 49 0 9, Ld 50 49, Vv 51 (.build [(.int .i64 0), (.int .i64 0)] [(0, 1, (.tmp 48)), (1, 1, (.tmp 50))]), Vv 52 (.buildSl 2 (.agg [(.int .i64 0), (.int .i64 0)]) 1 [(0, (.tmp 51))]), ⟨some 53, .e (.append false (some 2) 16 (.tmp 47) (.tmp 52)), none⟩, Mv 5 53] [5]) (.region [Fa 54 1 9, Ld 55 54, Mv 6 55] [6])) (.skip))))))) (.region [Bc 56 .add 12 1, Mv 12 56] [12]))))))) (.seq (.region [Mv 57 5, Mv 58 6, Mv 59 0, Vv 60 (.len 1 (.tmp 59)), Vv 61 (.build [(.int .i64 0), (.int .i64 0)] [(0, 1, (.tmp 58)), (1, 1, (.tmp 60))]), Vv 62 (.buildSl 2 (.agg [(.int .i64 0), (.int .i64 0)]) 1 [(0, (.tmp 61))]), ⟨some 63, .e (.append false (some 2) 16 (.tmp 57) (.tmp 62)), none⟩, Mv 4 63] [4]) (.ret)))))
def af6 : AFunc := ⟨.pure, true, [0, 1, 4, 12, 11, 13, 10, 8, 24, 9, 6, 46, 5], [⟨4, none, (some (some 2)), true⟩], true, af6c⟩
/-- lurcher/lurcherref20.Between -/
def af7c : ACode := .seq (.region [Vv 4 (.move (.const .nilsl))] [4]) (.seq (.region [Vv 5 (.move (.const .nilsl))] [5]) (.seq (.region [Mc 6 0] [6]) (.seq (.seq (.region [Mc 7 0] [7]) (.block 0 (.loop (.seq (.seq (.region [Mv 9 7, Mv 10 1, Vv 11 (.len 1 (.tmp 10)), Bn 12 .lss 9 11] [12]) (.cond (.tmp 12) (.skip) (.exit 0))) (.seq (.block 1 (.seq (.seq (.region [Mv 15 1, Mv 16 7, Vv 17 (.indexAddrS (some 3) (.tmp 15) (.tmp 16)), Fa 18 0 17, Ld 19 18, Bc 20 .neq 19 1, Mv 21 20, Gf 22 21 (.move (.tmp 1)), Gf 23 21 (.move (.tmp 7)), Gf 24 21 (.indexAddrS (some 3) (.tmp 22) (.tmp 23)), Gf 25 21 (.fieldAddr 1 none (.tmp 24)), Gf 26 21 (.load none (.tmp 25)), Gf 27 21 (.len 1 (.tmp 26)), Gf 28 21 (.bin .eql (.tmp 27) (Ci 0)), Vv 29 (.pick (.tmp 21) (.const (.bool true)) (.tmp 28))] [29]) (.cond (.tmp 29) (.exit 1) (.skip))) (.seq (.region [Mv 30 1, Mv 31 7, Vv 32 (.indexAddrS (some 3) (.tmp 30) (.tmp 31)), Fa 33 1 32, Ld 34 33, Vv 35 (.indexAddrS (some 2) (.tmp 34) (Ci 0)), La 36 2 35, ⟨some 8, .e (.alloc [(.int .i64 0), (.int .i64 0)]), none⟩, St 2 8 36] [8]) (.seq (.seq (.region [Fa 37 0 8, Ld 38 37, Mv 39 6, Bn 40 .lss 38 39, Mv 41 40, Gf 42 41 (.fieldAddr 1 none (.tmp 8)), Gf 43 41 (.load none (.tmp 42)), Gf 44 41 (.fieldAddr 0 none (.tmp 8)), Gf 45 41 (.load none (.tmp 44)), Gf 46 41 (.bin .lss (.tmp 43) (.tmp 45)), Vv 47 (.pick (.tmp 41) (.const (.bool true)) (.tmp 46)), Mv 48 47, Gf 49 48 (.fieldAddr 1 none (.tmp 8)), Gf 50 48 (.load none (.tmp 49)), Gf 51 48 (.move (.tmp 0)), Gf 52 48 (.bin .gtr (.tmp 50) (.tmp 51)), Vv 53 (.pick (.tmp 48) (.const (.bool true)) (.tmp 52))] [53]) (.cond (.tmp 53) (.exit 1) (.skip))) (.seq (.region [Mv 54 5, Mv 55 6, Fa 56 0 8, Ld 57 56, Vv 58 (.build [(.int .i64 0), (.int .i64 0)] [(0, 1, (.tmp 55)), (1, 1, (.tmp 57))]), Vv 59 (.buildSl 2 (.agg [(.int .i64 0), (.int .i64 0)]) 1 [(0, (.tmp 58))]), ⟨some 60, .e (.append false (some 2) 16 (.tmp 54) (.tmp 59)), none⟩, Mv 5 60] [5]) (.region [Fa 61 1 8, Ld 62 61, Mv 6 62] [6])))))) (.region [Mv 13 7, Bc 14 .add 13 1, Mv 7 14] [7])))))) (.seq (.region [Mv 63 5, Mv 64 6, Mv 65 0, Vv 66 (.build [(.int .i64 0), (.int .i64 0)] [(0, 1, (.tmp 64)), (1, 1, (.tmp 65))]), Vv 67 (.buildSl 2 (.agg [(.int .i64 0), (.int .i64 0)]) 1 [(0, (.tmp 66))]), ⟨some 68, .e (.append false (some 2) 16 (.tmp 63) (.tmp 67)), none⟩, Mv 4 68] [4]) (.ret)))))
def af7 : AFunc := ⟨.pure, true, [0, 1, 4, 7, 12, 29, 8, 6, 53, 5], [⟨4, none, (some (some 2)), true⟩], true, af7c⟩
/-- lurcher/lurcherref20.Spans -/
def af5c : ACode := .seq (.region [Vv 4 (.move (.const (.bool false)))] [4]) (.seq (.seq (.region [Mv 6 0, Vv 7 (.len 1 (.tmp 6)), Mv 8 1, Vv 9 (.len 1 (.tmp 8)), Bn 10 .neq 7 9] [10]) (.cond (.tmp 10) (.seq (.region [Vv 4 (.move (.const (.bool false)))] [4]) (.ret)) (.skip))) (.seq (.seq (.region [Mc 5 0] [5]) (.block 0 (.loop (.seq (.seq (.region [Mv 11 5, Mv 12 0, Vv 13 (.len 1 (.tmp 12)), Bn 14 .lss 11 13] [14]) (.cond (.tmp 14) (.skip) (.exit 0))) (.seq (.block 1 (.seq (.drawn [Mv 17 0, Mv 18 5, Vv 19 (.indexAddrS (some 2) (.tmp 17) (.tmp 18)), La 20 2 19, Mv 21 1, Mv 22 5, Vv 23 (.indexAddrS (some 2) (.tmp 21) (.tmp 22)), La 24 2 23, Vv 25 (.eqAgg true [0, 0] (.tmp 20) (.tmp 24))] [25] [] false 0) (.cond (.tmp 25) (.seq (.region [Vv 4 (.move (.const (.bool false)))] [4]) (.ret)) (.skip)))) (.region [Mv 15 5, Bc 16 .add 15 1, Mv 5 16] [5])))))) (.seq (.region [Vv 4 (.move (.const (.bool true)))] [4]) (.ret))))
def af5 : AFunc := ⟨.pure, true, [0, 1, 4, 10, 5, 14, 25], [⟨4, none, none, true⟩], true, af5c⟩
/-- lurcher/all.Count -/
def af10c : ACode := .seq (.region [Mc 6 0, Mc 7 0] [6, 7]) (.seq (.region [Mv 11 0, Mv 12 1, Mv 13 2, Vv 14 (.build [(.int .i64 0), (.int .i64 0), (.int .i64 0)] []), Cl 15 9 [Tm 11, Tm 12, Tm 13, (Ci 0), (.const .nilsl), Tm 14], Mv 10 15, Vv 16 (.extract (.tmp 10) 0), Vv 17 (.extract (.tmp 10) 1), Mv 8 16, Mv 9 17] [8, 9]) (.seq (.region [Mv 18 8, Vv 19 (.len 1 (.tmp 18)), Mv 20 9, Mv 6 19, Mv 7 20] [6, 7]) (.ret)))
def af10 : AFunc := ⟨.pure, true, [0, 1, 2, 6, 7, 8, 9], [⟨6, none, none, true⟩, ⟨7, none, none, true⟩], true, af10c⟩

end Go.Vmm

namespace Go.Vmm
open Go Go.Am Go.Proofs
theorem fn3 : tFunc Tryz.prog cfg 3 = some af3 := by kernel_rfl
theorem fn4 : tFunc Tryz.prog cfg 4 = some af4 := by kernel_rfl
theorem fn8 : tFunc Tryz.prog cfg 8 = some af8 := by kernel_rfl
theorem fn6 : tFunc Tryz.prog cfg 6 = some af6 := by kernel_rfl
theorem fn7 : tFunc Tryz.prog cfg 7 = some af7 := by kernel_rfl
theorem fn5 : tFunc Tryz.prog cfg 5 = some af5 := by kernel_rfl
theorem fn10 : tFunc Tryz.prog cfg 10 = some af10 := by kernel_rfl
end Go.Vmm

namespace Go.Vmm
open Go Go.Am Go.Proofs

/-- the functions that are looked at, by number -/
def funs : List (Nat × AFunc) := [(3, af3), (4, af4), (8, af8), (6, af6), (7, af7), (5, af5), (10, af10)]

def findIn (d : Nat → Option AFunc) : List (Nat × AFunc) → Nat → Option AFunc
  | [], f => d f
  | (k, a) :: r, f => if Nat.beq k f then some a else findIn d r f

noncomputable def T : Tab := { fn := findIn (fun f => tFunc Tryz.prog cfg f) funs, prim := fun _ => none }

theorem findIn_ok {d : Nat → Option AFunc} : ∀ {l : List (Nat × AFunc)}, (∀ p ∈ l, d p.1 = some p.2) → ∀ {f : Nat} {a : AFunc}, findIn d l f = some a → d f = some a
  | [], _, f, a, h => h
  | (k, b) :: r, hl, f, a, h => by
    simp only [findIn] at h
    split at h
    · rename_i e
      have e := Nat.eq_of_beq_eq_true e
      subst e
      cases h
      exact hl _ List.mem_cons_self
    · exact findIn_ok (fun p hp => hl p (List.mem_cons_of_mem _ hp)) h

theorem funs_ok : ∀ p ∈ funs, tFunc Tryz.prog cfg p.1 = some p.2 := by
  simp only [funs, List.forall_mem_cons, fn3, fn4, fn8, fn6, fn7, fn5, fn10, true_and]
  exact fun p hp => absurd hp List.not_mem_nil

theorem tab_ok : TabOk Tryz.prog cfg T where
  fn f a h := findIn_ok (d := fun f => tFunc Tryz.prog cfg f) funs_ok h
  prim f p hp := by cases hp

end Go.Vmm
