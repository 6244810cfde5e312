/- The facts on the types and functions of the translation, as the kernel reckons them. No conditions. -/
import Derived.Test.YtemapkbfpkdddaaFcJ
import Derived.Test.YtemapkbfpkdddaaProg
import Derived.KernelRfl
set_option linter.all false
namespace Go.Proofs.Ytemapkbfpkdddaa
open Go Go.Fc
@[go_sem] theorem sz_1 : szOf Try.prog 1 = some 1 := by kernel_rfl
@[go_sem] theorem ag_1 : isAggT Try.prog 1 = some false := by kernel_rfl
@[go_sem] theorem ze_1 : zeroL Try.prog 1 = some [.nilFunc] := by kernel_rfl
@[go_sem] theorem isl_1 : isSliceT Try.prog 1 = false := by kernel_rfl
@[go_sem] theorem ist_1 : isStrT Try.prog 1 = false := by kernel_rfl
@[go_sem] theorem isp_1 : isPtrT Try.prog 1 = false := by kernel_rfl
@[go_sem] theorem isb_1 : isBoolT Try.prog 1 = false := by kernel_rfl
@[go_sem] theorem isi_1 : isIfaceT Try.prog 1 = false := by kernel_rfl
@[go_sem] theorem isn_1 : isIntT Try.prog 1 = none := by kernel_rfl
@[go_sem] theorem by_1 : bytesT Try.prog 1 = 8 := by kernel_rfl
@[go_sem] theorem sz_2 : szOf Try.prog 2 = some 1 := by kernel_rfl
@[go_sem] theorem ag_2 : isAggT Try.prog 2 = some false := by kernel_rfl
@[go_sem] theorem ze_2 : zeroL Try.prog 2 = some [.int .i64 0] := by kernel_rfl
@[go_sem] theorem isl_2 : isSliceT Try.prog 2 = false := by kernel_rfl
@[go_sem] theorem ist_2 : isStrT Try.prog 2 = false := by kernel_rfl
@[go_sem] theorem isp_2 : isPtrT Try.prog 2 = false := by kernel_rfl
@[go_sem] theorem isb_2 : isBoolT Try.prog 2 = false := by kernel_rfl
@[go_sem] theorem isi_2 : isIfaceT Try.prog 2 = false := by kernel_rfl
@[go_sem] theorem isn_2 : isIntT Try.prog 2 = some .i64 := by kernel_rfl
@[go_sem] theorem by_2 : bytesT Try.prog 2 = 8 := by kernel_rfl
@[go_sem] theorem sz_3 : szOf Try.prog 3 = some 1 := by kernel_rfl
@[go_sem] theorem ag_3 : isAggT Try.prog 3 = some false := by kernel_rfl
@[go_sem] theorem ze_3 : zeroL Try.prog 3 = some [.int .i64 0] := by kernel_rfl
@[go_sem] theorem isl_3 : isSliceT Try.prog 3 = false := by kernel_rfl
@[go_sem] theorem ist_3 : isStrT Try.prog 3 = false := by kernel_rfl
@[go_sem] theorem isp_3 : isPtrT Try.prog 3 = false := by kernel_rfl
@[go_sem] theorem isb_3 : isBoolT Try.prog 3 = false := by kernel_rfl
@[go_sem] theorem isi_3 : isIfaceT Try.prog 3 = false := by kernel_rfl
@[go_sem] theorem isn_3 : isIntT Try.prog 3 = some .i64 := by kernel_rfl
@[go_sem] theorem by_3 : bytesT Try.prog 3 = 8 := by kernel_rfl
@[go_sem] theorem sz_4 : szOf Try.prog 4 = some 1 := by kernel_rfl
@[go_sem] theorem ag_4 : isAggT Try.prog 4 = some false := by kernel_rfl
@[go_sem] theorem ze_4 : zeroL Try.prog 4 = some [.bool false] := by kernel_rfl
@[go_sem] theorem isl_4 : isSliceT Try.prog 4 = false := by kernel_rfl
@[go_sem] theorem ist_4 : isStrT Try.prog 4 = false := by kernel_rfl
@[go_sem] theorem isp_4 : isPtrT Try.prog 4 = false := by kernel_rfl
@[go_sem] theorem isb_4 : isBoolT Try.prog 4 = true := by kernel_rfl
@[go_sem] theorem isi_4 : isIfaceT Try.prog 4 = false := by kernel_rfl
@[go_sem] theorem isn_4 : isIntT Try.prog 4 = none := by kernel_rfl
@[go_sem] theorem by_4 : bytesT Try.prog 4 = 1 := by kernel_rfl
@[go_sem] theorem sz_5 : szOf Try.prog 5 = some 1 := by kernel_rfl
@[go_sem] theorem ag_5 : isAggT Try.prog 5 = some false := by kernel_rfl
@[go_sem] theorem ze_5 : zeroL Try.prog 5 = some [.int .u8 0] := by kernel_rfl
@[go_sem] theorem isl_5 : isSliceT Try.prog 5 = false := by kernel_rfl
@[go_sem] theorem ist_5 : isStrT Try.prog 5 = false := by kernel_rfl
@[go_sem] theorem isp_5 : isPtrT Try.prog 5 = false := by kernel_rfl
@[go_sem] theorem isb_5 : isBoolT Try.prog 5 = false := by kernel_rfl
@[go_sem] theorem isi_5 : isIfaceT Try.prog 5 = false := by kernel_rfl
@[go_sem] theorem isn_5 : isIntT Try.prog 5 = some .u8 := by kernel_rfl
@[go_sem] theorem by_5 : bytesT Try.prog 5 = 1 := by kernel_rfl
@[go_sem] theorem sz_6 : szOf Try.prog 6 = some 1 := by kernel_rfl
@[go_sem] theorem ag_6 : isAggT Try.prog 6 = some false := by kernel_rfl
@[go_sem] theorem ze_6 : zeroL Try.prog 6 = some [.int .u8 0] := by kernel_rfl
@[go_sem] theorem isl_6 : isSliceT Try.prog 6 = false := by kernel_rfl
@[go_sem] theorem ist_6 : isStrT Try.prog 6 = false := by kernel_rfl
@[go_sem] theorem isp_6 : isPtrT Try.prog 6 = false := by kernel_rfl
@[go_sem] theorem isb_6 : isBoolT Try.prog 6 = false := by kernel_rfl
@[go_sem] theorem isi_6 : isIfaceT Try.prog 6 = false := by kernel_rfl
@[go_sem] theorem isn_6 : isIntT Try.prog 6 = some .u8 := by kernel_rfl
@[go_sem] theorem by_6 : bytesT Try.prog 6 = 1 := by kernel_rfl
@[go_sem] theorem sz_7 : szOf Try.prog 7 = some 4 := by kernel_rfl
@[go_sem] theorem ag_7 : isAggT Try.prog 7 = some true := by kernel_rfl
@[go_sem] theorem ze_7 : zeroL Try.prog 7 = some [.int .i64 0, .int .i64 0, .bool false, .int .u8 0] := by kernel_rfl
@[go_sem] theorem fo_7_0 : fOff Try.prog 7 0 = some 0 := by kernel_rfl
@[go_sem] theorem ft_7_0 : fTy Try.prog 7 0 = some (2, 0) := by kernel_rfl
@[go_sem] theorem fo_7_1 : fOff Try.prog 7 1 = some 1 := by kernel_rfl
@[go_sem] theorem ft_7_1 : fTy Try.prog 7 1 = some (3, 1) := by kernel_rfl
@[go_sem] theorem fo_7_2 : fOff Try.prog 7 2 = some 2 := by kernel_rfl
@[go_sem] theorem ft_7_2 : fTy Try.prog 7 2 = some (4, 2) := by kernel_rfl
@[go_sem] theorem fo_7_3 : fOff Try.prog 7 3 = some 3 := by kernel_rfl
@[go_sem] theorem ft_7_3 : fTy Try.prog 7 3 = some (6, 3) := by kernel_rfl
@[go_sem] theorem pl_7 : places Try.prog 7 = some [(0, 1), (1, 1), (2, 1), (3, 1)] := by kernel_rfl
@[go_sem] theorem eqk_7 : eqKinds Try.prog 7 = some [.int .i64, .int .i64, .bool, .int .u8] := by kernel_rfl
@[go_sem] theorem isl_7 : isSliceT Try.prog 7 = false := by kernel_rfl
@[go_sem] theorem ist_7 : isStrT Try.prog 7 = false := by kernel_rfl
@[go_sem] theorem isp_7 : isPtrT Try.prog 7 = false := by kernel_rfl
@[go_sem] theorem isb_7 : isBoolT Try.prog 7 = false := by kernel_rfl
@[go_sem] theorem isi_7 : isIfaceT Try.prog 7 = false := by kernel_rfl
@[go_sem] theorem isn_7 : isIntT Try.prog 7 = none := by kernel_rfl
@[go_sem] theorem by_7 : bytesT Try.prog 7 = 24 := by kernel_rfl
@[go_sem] theorem sz_8 : szOf Try.prog 8 = some 4 := by kernel_rfl
@[go_sem] theorem ag_8 : isAggT Try.prog 8 = some true := by kernel_rfl
@[go_sem] theorem ze_8 : zeroL Try.prog 8 = some [.int .i64 0, .int .i64 0, .bool false, .int .u8 0] := by kernel_rfl
@[go_sem] theorem fo_8_0 : fOff Try.prog 8 0 = some 0 := by kernel_rfl
@[go_sem] theorem ft_8_0 : fTy Try.prog 8 0 = some (2, 0) := by kernel_rfl
@[go_sem] theorem fo_8_1 : fOff Try.prog 8 1 = some 1 := by kernel_rfl
@[go_sem] theorem ft_8_1 : fTy Try.prog 8 1 = some (3, 1) := by kernel_rfl
@[go_sem] theorem fo_8_2 : fOff Try.prog 8 2 = some 2 := by kernel_rfl
@[go_sem] theorem ft_8_2 : fTy Try.prog 8 2 = some (4, 2) := by kernel_rfl
@[go_sem] theorem fo_8_3 : fOff Try.prog 8 3 = some 3 := by kernel_rfl
@[go_sem] theorem ft_8_3 : fTy Try.prog 8 3 = some (6, 3) := by kernel_rfl
@[go_sem] theorem pl_8 : places Try.prog 8 = some [(0, 1), (1, 1), (2, 1), (3, 1)] := by kernel_rfl
@[go_sem] theorem isl_8 : isSliceT Try.prog 8 = false := by kernel_rfl
@[go_sem] theorem ist_8 : isStrT Try.prog 8 = false := by kernel_rfl
@[go_sem] theorem isp_8 : isPtrT Try.prog 8 = false := by kernel_rfl
@[go_sem] theorem isb_8 : isBoolT Try.prog 8 = false := by kernel_rfl
@[go_sem] theorem isi_8 : isIfaceT Try.prog 8 = false := by kernel_rfl
@[go_sem] theorem isn_8 : isIntT Try.prog 8 = none := by kernel_rfl
@[go_sem] theorem by_8 : bytesT Try.prog 8 = 24 := by kernel_rfl
@[go_sem] theorem sz_9 : szOf Try.prog 9 = some 1 := by kernel_rfl
@[go_sem] theorem ag_9 : isAggT Try.prog 9 = some false := by kernel_rfl
@[go_sem] theorem ze_9 : zeroL Try.prog 9 = some [.string ⟨#[]⟩] := by kernel_rfl
@[go_sem] theorem isl_9 : isSliceT Try.prog 9 = false := by kernel_rfl
@[go_sem] theorem ist_9 : isStrT Try.prog 9 = true := by kernel_rfl
@[go_sem] theorem isp_9 : isPtrT Try.prog 9 = false := by kernel_rfl
@[go_sem] theorem isb_9 : isBoolT Try.prog 9 = false := by kernel_rfl
@[go_sem] theorem isi_9 : isIfaceT Try.prog 9 = false := by kernel_rfl
@[go_sem] theorem isn_9 : isIntT Try.prog 9 = none := by kernel_rfl
@[go_sem] theorem by_9 : bytesT Try.prog 9 = 16 := by kernel_rfl
@[go_sem] theorem sz_10 : szOf Try.prog 10 = some 1 := by kernel_rfl
@[go_sem] theorem ag_10 : isAggT Try.prog 10 = some false := by kernel_rfl
@[go_sem] theorem ze_10 : zeroL Try.prog 10 = some [.string ⟨#[]⟩] := by kernel_rfl
@[go_sem] theorem isl_10 : isSliceT Try.prog 10 = false := by kernel_rfl
@[go_sem] theorem ist_10 : isStrT Try.prog 10 = true := by kernel_rfl
@[go_sem] theorem isp_10 : isPtrT Try.prog 10 = false := by kernel_rfl
@[go_sem] theorem isb_10 : isBoolT Try.prog 10 = false := by kernel_rfl
@[go_sem] theorem isi_10 : isIfaceT Try.prog 10 = false := by kernel_rfl
@[go_sem] theorem isn_10 : isIntT Try.prog 10 = none := by kernel_rfl
@[go_sem] theorem by_10 : bytesT Try.prog 10 = 16 := by kernel_rfl
@[go_sem] theorem sz_11 : szOf Try.prog 11 = some 1 := by kernel_rfl
@[go_sem] theorem ag_11 : isAggT Try.prog 11 = some false := by kernel_rfl
@[go_sem] theorem ze_11 : zeroL Try.prog 11 = some [.string ⟨#[]⟩] := by kernel_rfl
@[go_sem] theorem isl_11 : isSliceT Try.prog 11 = false := by kernel_rfl
@[go_sem] theorem ist_11 : isStrT Try.prog 11 = true := by kernel_rfl
@[go_sem] theorem isp_11 : isPtrT Try.prog 11 = false := by kernel_rfl
@[go_sem] theorem isb_11 : isBoolT Try.prog 11 = false := by kernel_rfl
@[go_sem] theorem isi_11 : isIfaceT Try.prog 11 = false := by kernel_rfl
@[go_sem] theorem isn_11 : isIntT Try.prog 11 = none := by kernel_rfl
@[go_sem] theorem by_11 : bytesT Try.prog 11 = 16 := by kernel_rfl
@[go_sem] theorem sz_12 : szOf Try.prog 12 = some 1 := by kernel_rfl
@[go_sem] theorem ag_12 : isAggT Try.prog 12 = some false := by kernel_rfl
@[go_sem] theorem ze_12 : zeroL Try.prog 12 = some [.int .u64 0] := by kernel_rfl
@[go_sem] theorem isl_12 : isSliceT Try.prog 12 = false := by kernel_rfl
@[go_sem] theorem ist_12 : isStrT Try.prog 12 = false := by kernel_rfl
@[go_sem] theorem isp_12 : isPtrT Try.prog 12 = false := by kernel_rfl
@[go_sem] theorem isb_12 : isBoolT Try.prog 12 = false := by kernel_rfl
@[go_sem] theorem isi_12 : isIfaceT Try.prog 12 = false := by kernel_rfl
@[go_sem] theorem isn_12 : isIntT Try.prog 12 = some .u64 := by kernel_rfl
@[go_sem] theorem by_12 : bytesT Try.prog 12 = 8 := by kernel_rfl
@[go_sem] theorem sz_13 : szOf Try.prog 13 = some 2 := by kernel_rfl
@[go_sem] theorem ag_13 : isAggT Try.prog 13 = some true := by kernel_rfl
@[go_sem] theorem ze_13 : zeroL Try.prog 13 = some [.string ⟨#[]⟩, .int .u64 0] := by kernel_rfl
@[go_sem] theorem fo_13_0 : fOff Try.prog 13 0 = some 0 := by kernel_rfl
@[go_sem] theorem ft_13_0 : fTy Try.prog 13 0 = some (9, 0) := by kernel_rfl
@[go_sem] theorem fo_13_1 : fOff Try.prog 13 1 = some 1 := by kernel_rfl
@[go_sem] theorem ft_13_1 : fTy Try.prog 13 1 = some (12, 1) := by kernel_rfl
@[go_sem] theorem pl_13 : places Try.prog 13 = some [(0, 1), (1, 1)] := by kernel_rfl
@[go_sem] theorem isl_13 : isSliceT Try.prog 13 = false := by kernel_rfl
@[go_sem] theorem ist_13 : isStrT Try.prog 13 = false := by kernel_rfl
@[go_sem] theorem isp_13 : isPtrT Try.prog 13 = false := by kernel_rfl
@[go_sem] theorem isb_13 : isBoolT Try.prog 13 = false := by kernel_rfl
@[go_sem] theorem isi_13 : isIfaceT Try.prog 13 = false := by kernel_rfl
@[go_sem] theorem isn_13 : isIntT Try.prog 13 = none := by kernel_rfl
@[go_sem] theorem by_13 : bytesT Try.prog 13 = 24 := by kernel_rfl
@[go_sem] theorem sz_14 : szOf Try.prog 14 = some 2 := by kernel_rfl
@[go_sem] theorem ag_14 : isAggT Try.prog 14 = some true := by kernel_rfl
@[go_sem] theorem ze_14 : zeroL Try.prog 14 = some [.string ⟨#[]⟩, .int .u64 0] := by kernel_rfl
@[go_sem] theorem fo_14_0 : fOff Try.prog 14 0 = some 0 := by kernel_rfl
@[go_sem] theorem ft_14_0 : fTy Try.prog 14 0 = some (9, 0) := by kernel_rfl
@[go_sem] theorem fo_14_1 : fOff Try.prog 14 1 = some 1 := by kernel_rfl
@[go_sem] theorem ft_14_1 : fTy Try.prog 14 1 = some (12, 1) := by kernel_rfl
@[go_sem] theorem pl_14 : places Try.prog 14 = some [(0, 1), (1, 1)] := by kernel_rfl
@[go_sem] theorem isl_14 : isSliceT Try.prog 14 = false := by kernel_rfl
@[go_sem] theorem ist_14 : isStrT Try.prog 14 = false := by kernel_rfl
@[go_sem] theorem isp_14 : isPtrT Try.prog 14 = false := by kernel_rfl
@[go_sem] theorem isb_14 : isBoolT Try.prog 14 = false := by kernel_rfl
@[go_sem] theorem isi_14 : isIfaceT Try.prog 14 = false := by kernel_rfl
@[go_sem] theorem isn_14 : isIntT Try.prog 14 = none := by kernel_rfl
@[go_sem] theorem by_14 : bytesT Try.prog 14 = 24 := by kernel_rfl
@[go_sem] theorem sz_15 : szOf Try.prog 15 = some 1 := by kernel_rfl
@[go_sem] theorem ag_15 : isAggT Try.prog 15 = some false := by kernel_rfl
@[go_sem] theorem ze_15 : zeroL Try.prog 15 = some [.pointer none] := by kernel_rfl
@[go_sem] theorem isl_15 : isSliceT Try.prog 15 = false := by kernel_rfl
@[go_sem] theorem ist_15 : isStrT Try.prog 15 = false := by kernel_rfl
@[go_sem] theorem isp_15 : isPtrT Try.prog 15 = true := by kernel_rfl
@[go_sem] theorem isb_15 : isBoolT Try.prog 15 = false := by kernel_rfl
@[go_sem] theorem isi_15 : isIfaceT Try.prog 15 = false := by kernel_rfl
@[go_sem] theorem isn_15 : isIntT Try.prog 15 = none := by kernel_rfl
@[go_sem] theorem by_15 : bytesT Try.prog 15 = 8 := by kernel_rfl
@[go_sem] theorem sz_16 : szOf Try.prog 16 = some 1 := by kernel_rfl
@[go_sem] theorem ag_16 : isAggT Try.prog 16 = some false := by kernel_rfl
@[go_sem] theorem ze_16 : zeroL Try.prog 16 = some [.pointer none] := by kernel_rfl
@[go_sem] theorem isl_16 : isSliceT Try.prog 16 = false := by kernel_rfl
@[go_sem] theorem ist_16 : isStrT Try.prog 16 = false := by kernel_rfl
@[go_sem] theorem isp_16 : isPtrT Try.prog 16 = true := by kernel_rfl
@[go_sem] theorem isb_16 : isBoolT Try.prog 16 = false := by kernel_rfl
@[go_sem] theorem isi_16 : isIfaceT Try.prog 16 = false := by kernel_rfl
@[go_sem] theorem isn_16 : isIntT Try.prog 16 = none := by kernel_rfl
@[go_sem] theorem by_16 : bytesT Try.prog 16 = 8 := by kernel_rfl
@[go_sem] theorem sz_17 : szOf Try.prog 17 = some 1 := by kernel_rfl
@[go_sem] theorem ag_17 : isAggT Try.prog 17 = some false := by kernel_rfl
@[go_sem] theorem ze_17 : zeroL Try.prog 17 = some [.pointer none] := by kernel_rfl
@[go_sem] theorem isl_17 : isSliceT Try.prog 17 = false := by kernel_rfl
@[go_sem] theorem ist_17 : isStrT Try.prog 17 = false := by kernel_rfl
@[go_sem] theorem isp_17 : isPtrT Try.prog 17 = true := by kernel_rfl
@[go_sem] theorem isb_17 : isBoolT Try.prog 17 = false := by kernel_rfl
@[go_sem] theorem isi_17 : isIfaceT Try.prog 17 = false := by kernel_rfl
@[go_sem] theorem isn_17 : isIntT Try.prog 17 = none := by kernel_rfl
@[go_sem] theorem by_17 : bytesT Try.prog 17 = 8 := by kernel_rfl
@[go_sem] theorem sz_18 : szOf Try.prog 18 = some 1 := by kernel_rfl
@[go_sem] theorem ag_18 : isAggT Try.prog 18 = some true := by kernel_rfl
@[go_sem] theorem ze_18 : zeroL Try.prog 18 = some [.pointer none] := by kernel_rfl
@[go_sem] theorem fo_18_0 : fOff Try.prog 18 0 = some 0 := by kernel_rfl
@[go_sem] theorem ft_18_0 : fTy Try.prog 18 0 = some (17, 0) := by kernel_rfl
@[go_sem] theorem pl_18 : places Try.prog 18 = some [(0, 1)] := by kernel_rfl
@[go_sem] theorem isl_18 : isSliceT Try.prog 18 = false := by kernel_rfl
@[go_sem] theorem ist_18 : isStrT Try.prog 18 = false := by kernel_rfl
@[go_sem] theorem isp_18 : isPtrT Try.prog 18 = false := by kernel_rfl
@[go_sem] theorem isb_18 : isBoolT Try.prog 18 = false := by kernel_rfl
@[go_sem] theorem isi_18 : isIfaceT Try.prog 18 = false := by kernel_rfl
@[go_sem] theorem isn_18 : isIntT Try.prog 18 = none := by kernel_rfl
@[go_sem] theorem by_18 : bytesT Try.prog 18 = 8 := by kernel_rfl
@[go_sem] theorem sz_19 : szOf Try.prog 19 = some 1 := by kernel_rfl
@[go_sem] theorem ag_19 : isAggT Try.prog 19 = some true := by kernel_rfl
@[go_sem] theorem ze_19 : zeroL Try.prog 19 = some [.pointer none] := by kernel_rfl
@[go_sem] theorem fo_19_0 : fOff Try.prog 19 0 = some 0 := by kernel_rfl
@[go_sem] theorem ft_19_0 : fTy Try.prog 19 0 = some (17, 0) := by kernel_rfl
@[go_sem] theorem pl_19 : places Try.prog 19 = some [(0, 1)] := by kernel_rfl
@[go_sem] theorem isl_19 : isSliceT Try.prog 19 = false := by kernel_rfl
@[go_sem] theorem ist_19 : isStrT Try.prog 19 = false := by kernel_rfl
@[go_sem] theorem isp_19 : isPtrT Try.prog 19 = false := by kernel_rfl
@[go_sem] theorem isb_19 : isBoolT Try.prog 19 = false := by kernel_rfl
@[go_sem] theorem isi_19 : isIfaceT Try.prog 19 = false := by kernel_rfl
@[go_sem] theorem isn_19 : isIntT Try.prog 19 = none := by kernel_rfl
@[go_sem] theorem by_19 : bytesT Try.prog 19 = 8 := by kernel_rfl
@[go_sem] theorem sz_20 : szOf Try.prog 20 = some 1 := by kernel_rfl
@[go_sem] theorem ag_20 : isAggT Try.prog 20 = some false := by kernel_rfl
@[go_sem] theorem ze_20 : zeroL Try.prog 20 = some [.nilIface] := by kernel_rfl
@[go_sem] theorem isl_20 : isSliceT Try.prog 20 = false := by kernel_rfl
@[go_sem] theorem ist_20 : isStrT Try.prog 20 = false := by kernel_rfl
@[go_sem] theorem isp_20 : isPtrT Try.prog 20 = false := by kernel_rfl
@[go_sem] theorem isb_20 : isBoolT Try.prog 20 = false := by kernel_rfl
@[go_sem] theorem isi_20 : isIfaceT Try.prog 20 = true := by kernel_rfl
@[go_sem] theorem isn_20 : isIntT Try.prog 20 = none := by kernel_rfl
@[go_sem] theorem by_20 : bytesT Try.prog 20 = 16 := by kernel_rfl
@[go_sem] theorem sz_21 : szOf Try.prog 21 = some 1 := by kernel_rfl
@[go_sem] theorem ag_21 : isAggT Try.prog 21 = some false := by kernel_rfl
@[go_sem] theorem ze_21 : zeroL Try.prog 21 = some [.int .i32 0] := by kernel_rfl
@[go_sem] theorem isl_21 : isSliceT Try.prog 21 = false := by kernel_rfl
@[go_sem] theorem ist_21 : isStrT Try.prog 21 = false := by kernel_rfl
@[go_sem] theorem isp_21 : isPtrT Try.prog 21 = false := by kernel_rfl
@[go_sem] theorem isb_21 : isBoolT Try.prog 21 = false := by kernel_rfl
@[go_sem] theorem isi_21 : isIfaceT Try.prog 21 = false := by kernel_rfl
@[go_sem] theorem isn_21 : isIntT Try.prog 21 = some .i32 := by kernel_rfl
@[go_sem] theorem by_21 : bytesT Try.prog 21 = 4 := by kernel_rfl
@[go_sem] theorem sz_22 : szOf Try.prog 22 = some 1 := by kernel_rfl
@[go_sem] theorem ag_22 : isAggT Try.prog 22 = some false := by kernel_rfl
@[go_sem] theorem ze_22 : zeroL Try.prog 22 = some [.slice none 0 0] := by kernel_rfl
@[go_sem] theorem un_22 : Try.prog.underlying 22 = some (.slice 29) := by kernel_rfl
@[go_sem] theorem el_22 : elT Try.prog 22 = some 29 := by kernel_rfl
@[go_sem] theorem es_22 : elSz Try.prog 22 = some 3 := by kernel_rfl
@[go_sem] theorem isl_22 : isSliceT Try.prog 22 = true := by kernel_rfl
@[go_sem] theorem ist_22 : isStrT Try.prog 22 = false := by kernel_rfl
@[go_sem] theorem isp_22 : isPtrT Try.prog 22 = false := by kernel_rfl
@[go_sem] theorem isb_22 : isBoolT Try.prog 22 = false := by kernel_rfl
@[go_sem] theorem isi_22 : isIfaceT Try.prog 22 = false := by kernel_rfl
@[go_sem] theorem isn_22 : isIntT Try.prog 22 = none := by kernel_rfl
@[go_sem] theorem by_22 : bytesT Try.prog 22 = 24 := by kernel_rfl
@[go_sem] theorem sz_23 : szOf Try.prog 23 = some 1 := by kernel_rfl
@[go_sem] theorem ag_23 : isAggT Try.prog 23 = some false := by kernel_rfl
@[go_sem] theorem ze_23 : zeroL Try.prog 23 = some [.nilFunc] := by kernel_rfl
@[go_sem] theorem isl_23 : isSliceT Try.prog 23 = false := by kernel_rfl
@[go_sem] theorem ist_23 : isStrT Try.prog 23 = false := by kernel_rfl
@[go_sem] theorem isp_23 : isPtrT Try.prog 23 = false := by kernel_rfl
@[go_sem] theorem isb_23 : isBoolT Try.prog 23 = false := by kernel_rfl
@[go_sem] theorem isi_23 : isIfaceT Try.prog 23 = false := by kernel_rfl
@[go_sem] theorem isn_23 : isIntT Try.prog 23 = none := by kernel_rfl
@[go_sem] theorem by_23 : bytesT Try.prog 23 = 8 := by kernel_rfl
@[go_sem] theorem sz_24 : szOf Try.prog 24 = some 1 := by kernel_rfl
@[go_sem] theorem ag_24 : isAggT Try.prog 24 = some false := by kernel_rfl
@[go_sem] theorem ze_24 : zeroL Try.prog 24 = some [.pointer none] := by kernel_rfl
@[go_sem] theorem isl_24 : isSliceT Try.prog 24 = false := by kernel_rfl
@[go_sem] theorem ist_24 : isStrT Try.prog 24 = false := by kernel_rfl
@[go_sem] theorem isp_24 : isPtrT Try.prog 24 = true := by kernel_rfl
@[go_sem] theorem isb_24 : isBoolT Try.prog 24 = false := by kernel_rfl
@[go_sem] theorem isi_24 : isIfaceT Try.prog 24 = false := by kernel_rfl
@[go_sem] theorem isn_24 : isIntT Try.prog 24 = none := by kernel_rfl
@[go_sem] theorem by_24 : bytesT Try.prog 24 = 8 := by kernel_rfl
@[go_sem] theorem sz_25 : szOf Try.prog 25 = some 1 := by kernel_rfl
@[go_sem] theorem ag_25 : isAggT Try.prog 25 = some false := by kernel_rfl
@[go_sem] theorem ze_25 : zeroL Try.prog 25 = some [.nilFunc] := by kernel_rfl
@[go_sem] theorem isl_25 : isSliceT Try.prog 25 = false := by kernel_rfl
@[go_sem] theorem ist_25 : isStrT Try.prog 25 = false := by kernel_rfl
@[go_sem] theorem isp_25 : isPtrT Try.prog 25 = false := by kernel_rfl
@[go_sem] theorem isb_25 : isBoolT Try.prog 25 = false := by kernel_rfl
@[go_sem] theorem isi_25 : isIfaceT Try.prog 25 = false := by kernel_rfl
@[go_sem] theorem isn_25 : isIntT Try.prog 25 = none := by kernel_rfl
@[go_sem] theorem by_25 : bytesT Try.prog 25 = 8 := by kernel_rfl
@[go_sem] theorem sz_26 : szOf Try.prog 26 = some 1 := by kernel_rfl
@[go_sem] theorem ag_26 : isAggT Try.prog 26 = some false := by kernel_rfl
@[go_sem] theorem ze_26 : zeroL Try.prog 26 = some [.pointer none] := by kernel_rfl
@[go_sem] theorem isl_26 : isSliceT Try.prog 26 = false := by kernel_rfl
@[go_sem] theorem ist_26 : isStrT Try.prog 26 = false := by kernel_rfl
@[go_sem] theorem isp_26 : isPtrT Try.prog 26 = true := by kernel_rfl
@[go_sem] theorem isb_26 : isBoolT Try.prog 26 = false := by kernel_rfl
@[go_sem] theorem isi_26 : isIfaceT Try.prog 26 = false := by kernel_rfl
@[go_sem] theorem isn_26 : isIntT Try.prog 26 = none := by kernel_rfl
@[go_sem] theorem by_26 : bytesT Try.prog 26 = 8 := by kernel_rfl
@[go_sem] theorem sz_27 : szOf Try.prog 27 = some 1 := by kernel_rfl
@[go_sem] theorem ag_27 : isAggT Try.prog 27 = some false := by kernel_rfl
@[go_sem] theorem ze_27 : zeroL Try.prog 27 = some [.nilFunc] := by kernel_rfl
@[go_sem] theorem isl_27 : isSliceT Try.prog 27 = false := by kernel_rfl
@[go_sem] theorem ist_27 : isStrT Try.prog 27 = false := by kernel_rfl
@[go_sem] theorem isp_27 : isPtrT Try.prog 27 = false := by kernel_rfl
@[go_sem] theorem isb_27 : isBoolT Try.prog 27 = false := by kernel_rfl
@[go_sem] theorem isi_27 : isIfaceT Try.prog 27 = false := by kernel_rfl
@[go_sem] theorem isn_27 : isIntT Try.prog 27 = none := by kernel_rfl
@[go_sem] theorem by_27 : bytesT Try.prog 27 = 8 := by kernel_rfl
@[go_sem] theorem sz_28 : szOf Try.prog 28 = some 3 := by kernel_rfl
@[go_sem] theorem ag_28 : isAggT Try.prog 28 = some true := by kernel_rfl
@[go_sem] theorem ze_28 : zeroL Try.prog 28 = some [.int .u8 0, .int .i64 0, .int .i64 0] := by kernel_rfl
@[go_sem] theorem fo_28_0 : fOff Try.prog 28 0 = some 0 := by kernel_rfl
@[go_sem] theorem ft_28_0 : fTy Try.prog 28 0 = some (5, 0) := by kernel_rfl
@[go_sem] theorem fo_28_1 : fOff Try.prog 28 1 = some 1 := by kernel_rfl
@[go_sem] theorem ft_28_1 : fTy Try.prog 28 1 = some (3, 1) := by kernel_rfl
@[go_sem] theorem fo_28_2 : fOff Try.prog 28 2 = some 2 := by kernel_rfl
@[go_sem] theorem ft_28_2 : fTy Try.prog 28 2 = some (3, 2) := by kernel_rfl
@[go_sem] theorem pl_28 : places Try.prog 28 = some [(0, 1), (1, 1), (2, 1)] := by kernel_rfl
@[go_sem] theorem eqk_28 : eqKinds Try.prog 28 = some [.int .u8, .int .i64, .int .i64] := by kernel_rfl
@[go_sem] theorem isl_28 : isSliceT Try.prog 28 = false := by kernel_rfl
@[go_sem] theorem ist_28 : isStrT Try.prog 28 = false := by kernel_rfl
@[go_sem] theorem isp_28 : isPtrT Try.prog 28 = false := by kernel_rfl
@[go_sem] theorem isb_28 : isBoolT Try.prog 28 = false := by kernel_rfl
@[go_sem] theorem isi_28 : isIfaceT Try.prog 28 = false := by kernel_rfl
@[go_sem] theorem isn_28 : isIntT Try.prog 28 = none := by kernel_rfl
@[go_sem] theorem by_28 : bytesT Try.prog 28 = 24 := by kernel_rfl
@[go_sem] theorem sz_29 : szOf Try.prog 29 = some 3 := by kernel_rfl
@[go_sem] theorem ag_29 : isAggT Try.prog 29 = some true := by kernel_rfl
@[go_sem] theorem ze_29 : zeroL Try.prog 29 = some [.int .u8 0, .int .i64 0, .int .i64 0] := by kernel_rfl
@[go_sem] theorem fo_29_0 : fOff Try.prog 29 0 = some 0 := by kernel_rfl
@[go_sem] theorem ft_29_0 : fTy Try.prog 29 0 = some (5, 0) := by kernel_rfl
@[go_sem] theorem fo_29_1 : fOff Try.prog 29 1 = some 1 := by kernel_rfl
@[go_sem] theorem ft_29_1 : fTy Try.prog 29 1 = some (3, 1) := by kernel_rfl
@[go_sem] theorem fo_29_2 : fOff Try.prog 29 2 = some 2 := by kernel_rfl
@[go_sem] theorem ft_29_2 : fTy Try.prog 29 2 = some (3, 2) := by kernel_rfl
@[go_sem] theorem pl_29 : places Try.prog 29 = some [(0, 1), (1, 1), (2, 1)] := by kernel_rfl
@[go_sem] theorem eqk_29 : eqKinds Try.prog 29 = some [.int .u8, .int .i64, .int .i64] := by kernel_rfl
@[go_sem] theorem isl_29 : isSliceT Try.prog 29 = false := by kernel_rfl
@[go_sem] theorem ist_29 : isStrT Try.prog 29 = false := by kernel_rfl
@[go_sem] theorem isp_29 : isPtrT Try.prog 29 = false := by kernel_rfl
@[go_sem] theorem isb_29 : isBoolT Try.prog 29 = false := by kernel_rfl
@[go_sem] theorem isi_29 : isIfaceT Try.prog 29 = false := by kernel_rfl
@[go_sem] theorem isn_29 : isIntT Try.prog 29 = none := by kernel_rfl
@[go_sem] theorem by_29 : bytesT Try.prog 29 = 24 := by kernel_rfl
@[go_sem] theorem sz_30 : szOf Try.prog 30 = some 1 := by kernel_rfl
@[go_sem] theorem ag_30 : isAggT Try.prog 30 = some false := by kernel_rfl
@[go_sem] theorem ze_30 : zeroL Try.prog 30 = some [.nilFunc] := by kernel_rfl
@[go_sem] theorem isl_30 : isSliceT Try.prog 30 = false := by kernel_rfl
@[go_sem] theorem ist_30 : isStrT Try.prog 30 = false := by kernel_rfl
@[go_sem] theorem isp_30 : isPtrT Try.prog 30 = false := by kernel_rfl
@[go_sem] theorem isb_30 : isBoolT Try.prog 30 = false := by kernel_rfl
@[go_sem] theorem isi_30 : isIfaceT Try.prog 30 = false := by kernel_rfl
@[go_sem] theorem isn_30 : isIntT Try.prog 30 = none := by kernel_rfl
@[go_sem] theorem by_30 : bytesT Try.prog 30 = 8 := by kernel_rfl
@[go_sem] theorem sz_32 : szOf Try.prog 32 = some 1 := by kernel_rfl
@[go_sem] theorem ag_32 : isAggT Try.prog 32 = some false := by kernel_rfl
@[go_sem] theorem ze_32 : zeroL Try.prog 32 = some [.nilFunc] := by kernel_rfl
@[go_sem] theorem isl_32 : isSliceT Try.prog 32 = false := by kernel_rfl
@[go_sem] theorem ist_32 : isStrT Try.prog 32 = false := by kernel_rfl
@[go_sem] theorem isp_32 : isPtrT Try.prog 32 = false := by kernel_rfl
@[go_sem] theorem isb_32 : isBoolT Try.prog 32 = false := by kernel_rfl
@[go_sem] theorem isi_32 : isIfaceT Try.prog 32 = false := by kernel_rfl
@[go_sem] theorem isn_32 : isIntT Try.prog 32 = none := by kernel_rfl
@[go_sem] theorem by_32 : bytesT Try.prog 32 = 8 := by kernel_rfl
@[go_sem] theorem sz_33 : szOf Try.prog 33 = some 1 := by kernel_rfl
@[go_sem] theorem ag_33 : isAggT Try.prog 33 = some false := by kernel_rfl
@[go_sem] theorem ze_33 : zeroL Try.prog 33 = some [.nilFunc] := by kernel_rfl
@[go_sem] theorem isl_33 : isSliceT Try.prog 33 = false := by kernel_rfl
@[go_sem] theorem ist_33 : isStrT Try.prog 33 = false := by kernel_rfl
@[go_sem] theorem isp_33 : isPtrT Try.prog 33 = false := by kernel_rfl
@[go_sem] theorem isb_33 : isBoolT Try.prog 33 = false := by kernel_rfl
@[go_sem] theorem isi_33 : isIfaceT Try.prog 33 = false := by kernel_rfl
@[go_sem] theorem isn_33 : isIntT Try.prog 33 = none := by kernel_rfl
@[go_sem] theorem by_33 : bytesT Try.prog 33 = 8 := by kernel_rfl
@[go_sem] theorem sz_34 : szOf Try.prog 34 = some 1 := by kernel_rfl
@[go_sem] theorem ag_34 : isAggT Try.prog 34 = some false := by kernel_rfl
@[go_sem] theorem ze_34 : zeroL Try.prog 34 = some [.nilFunc] := by kernel_rfl
@[go_sem] theorem isl_34 : isSliceT Try.prog 34 = false := by kernel_rfl
@[go_sem] theorem ist_34 : isStrT Try.prog 34 = false := by kernel_rfl
@[go_sem] theorem isp_34 : isPtrT Try.prog 34 = false := by kernel_rfl
@[go_sem] theorem isb_34 : isBoolT Try.prog 34 = false := by kernel_rfl
@[go_sem] theorem isi_34 : isIfaceT Try.prog 34 = false := by kernel_rfl
@[go_sem] theorem isn_34 : isIntT Try.prog 34 = none := by kernel_rfl
@[go_sem] theorem by_34 : bytesT Try.prog 34 = 8 := by kernel_rfl
@[go_sem] theorem sz_35 : szOf Try.prog 35 = some 1 := by kernel_rfl
@[go_sem] theorem ag_35 : isAggT Try.prog 35 = some false := by kernel_rfl
@[go_sem] theorem ze_35 : zeroL Try.prog 35 = some [.slice none 0 0] := by kernel_rfl
@[go_sem] theorem un_35 : Try.prog.underlying 35 = some (.slice 3) := by kernel_rfl
@[go_sem] theorem el_35 : elT Try.prog 35 = some 3 := by kernel_rfl
@[go_sem] theorem es_35 : elSz Try.prog 35 = some 1 := by kernel_rfl
@[go_sem] theorem isl_35 : isSliceT Try.prog 35 = true := by kernel_rfl
@[go_sem] theorem ist_35 : isStrT Try.prog 35 = false := by kernel_rfl
@[go_sem] theorem isp_35 : isPtrT Try.prog 35 = false := by kernel_rfl
@[go_sem] theorem isb_35 : isBoolT Try.prog 35 = false := by kernel_rfl
@[go_sem] theorem isi_35 : isIfaceT Try.prog 35 = false := by kernel_rfl
@[go_sem] theorem isn_35 : isIntT Try.prog 35 = none := by kernel_rfl
@[go_sem] theorem by_35 : bytesT Try.prog 35 = 24 := by kernel_rfl
@[go_sem] theorem sz_36 : szOf Try.prog 36 = some 1 := by kernel_rfl
@[go_sem] theorem ag_36 : isAggT Try.prog 36 = some false := by kernel_rfl
@[go_sem] theorem ze_36 : zeroL Try.prog 36 = some [.nilFunc] := by kernel_rfl
@[go_sem] theorem isl_36 : isSliceT Try.prog 36 = false := by kernel_rfl
@[go_sem] theorem ist_36 : isStrT Try.prog 36 = false := by kernel_rfl
@[go_sem] theorem isp_36 : isPtrT Try.prog 36 = false := by kernel_rfl
@[go_sem] theorem isb_36 : isBoolT Try.prog 36 = false := by kernel_rfl
@[go_sem] theorem isi_36 : isIfaceT Try.prog 36 = false := by kernel_rfl
@[go_sem] theorem isn_36 : isIntT Try.prog 36 = none := by kernel_rfl
@[go_sem] theorem by_36 : bytesT Try.prog 36 = 8 := by kernel_rfl
@[go_sem] theorem sz_37 : szOf Try.prog 37 = some 3 := by kernel_rfl
@[go_sem] theorem ag_37 : isAggT Try.prog 37 = some true := by kernel_rfl
@[go_sem] theorem ze_37 : zeroL Try.prog 37 = some [.int .i64 0, .slice none 0 0, .slice none 0 0] := by kernel_rfl
@[go_sem] theorem fo_37_0 : fOff Try.prog 37 0 = some 0 := by kernel_rfl
@[go_sem] theorem ft_37_0 : fTy Try.prog 37 0 = some (3, 0) := by kernel_rfl
@[go_sem] theorem fo_37_1 : fOff Try.prog 37 1 = some 1 := by kernel_rfl
@[go_sem] theorem ft_37_1 : fTy Try.prog 37 1 = some (35, 1) := by kernel_rfl
@[go_sem] theorem fo_37_2 : fOff Try.prog 37 2 = some 2 := by kernel_rfl
@[go_sem] theorem ft_37_2 : fTy Try.prog 37 2 = some (35, 2) := by kernel_rfl
@[go_sem] theorem pl_37 : places Try.prog 37 = some [(0, 1), (1, 1), (2, 1)] := by kernel_rfl
@[go_sem] theorem isl_37 : isSliceT Try.prog 37 = false := by kernel_rfl
@[go_sem] theorem ist_37 : isStrT Try.prog 37 = false := by kernel_rfl
@[go_sem] theorem isp_37 : isPtrT Try.prog 37 = false := by kernel_rfl
@[go_sem] theorem isb_37 : isBoolT Try.prog 37 = false := by kernel_rfl
@[go_sem] theorem isi_37 : isIfaceT Try.prog 37 = false := by kernel_rfl
@[go_sem] theorem isn_37 : isIntT Try.prog 37 = none := by kernel_rfl
@[go_sem] theorem by_37 : bytesT Try.prog 37 = 56 := by kernel_rfl
@[go_sem] theorem sz_38 : szOf Try.prog 38 = some 3 := by kernel_rfl
@[go_sem] theorem ag_38 : isAggT Try.prog 38 = some true := by kernel_rfl
@[go_sem] theorem ze_38 : zeroL Try.prog 38 = some [.int .i64 0, .slice none 0 0, .slice none 0 0] := by kernel_rfl
@[go_sem] theorem fo_38_0 : fOff Try.prog 38 0 = some 0 := by kernel_rfl
@[go_sem] theorem ft_38_0 : fTy Try.prog 38 0 = some (3, 0) := by kernel_rfl
@[go_sem] theorem fo_38_1 : fOff Try.prog 38 1 = some 1 := by kernel_rfl
@[go_sem] theorem ft_38_1 : fTy Try.prog 38 1 = some (35, 1) := by kernel_rfl
@[go_sem] theorem fo_38_2 : fOff Try.prog 38 2 = some 2 := by kernel_rfl
@[go_sem] theorem ft_38_2 : fTy Try.prog 38 2 = some (35, 2) := by kernel_rfl
@[go_sem] theorem pl_38 : places Try.prog 38 = some [(0, 1), (1, 1), (2, 1)] := by kernel_rfl
@[go_sem] theorem isl_38 : isSliceT Try.prog 38 = false := by kernel_rfl
@[go_sem] theorem ist_38 : isStrT Try.prog 38 = false := by kernel_rfl
@[go_sem] theorem isp_38 : isPtrT Try.prog 38 = false := by kernel_rfl
@[go_sem] theorem isb_38 : isBoolT Try.prog 38 = false := by kernel_rfl
@[go_sem] theorem isi_38 : isIfaceT Try.prog 38 = false := by kernel_rfl
@[go_sem] theorem isn_38 : isIntT Try.prog 38 = none := by kernel_rfl
@[go_sem] theorem by_38 : bytesT Try.prog 38 = 56 := by kernel_rfl
@[go_sem] theorem sz_39 : szOf Try.prog 39 = some 1 := by kernel_rfl
@[go_sem] theorem ag_39 : isAggT Try.prog 39 = some false := by kernel_rfl
@[go_sem] theorem ze_39 : zeroL Try.prog 39 = some [.nilFunc] := by kernel_rfl
@[go_sem] theorem isl_39 : isSliceT Try.prog 39 = false := by kernel_rfl
@[go_sem] theorem ist_39 : isStrT Try.prog 39 = false := by kernel_rfl
@[go_sem] theorem isp_39 : isPtrT Try.prog 39 = false := by kernel_rfl
@[go_sem] theorem isb_39 : isBoolT Try.prog 39 = false := by kernel_rfl
@[go_sem] theorem isi_39 : isIfaceT Try.prog 39 = false := by kernel_rfl
@[go_sem] theorem isn_39 : isIntT Try.prog 39 = none := by kernel_rfl
@[go_sem] theorem by_39 : bytesT Try.prog 39 = 8 := by kernel_rfl
@[go_sem] theorem sz_40 : szOf Try.prog 40 = some 1 := by kernel_rfl
@[go_sem] theorem ag_40 : isAggT Try.prog 40 = some false := by kernel_rfl
@[go_sem] theorem ze_40 : zeroL Try.prog 40 = some [.pointer none] := by kernel_rfl
@[go_sem] theorem isl_40 : isSliceT Try.prog 40 = false := by kernel_rfl
@[go_sem] theorem ist_40 : isStrT Try.prog 40 = false := by kernel_rfl
@[go_sem] theorem isp_40 : isPtrT Try.prog 40 = true := by kernel_rfl
@[go_sem] theorem isb_40 : isBoolT Try.prog 40 = false := by kernel_rfl
@[go_sem] theorem isi_40 : isIfaceT Try.prog 40 = false := by kernel_rfl
@[go_sem] theorem isn_40 : isIntT Try.prog 40 = none := by kernel_rfl
@[go_sem] theorem by_40 : bytesT Try.prog 40 = 8 := by kernel_rfl
@[go_sem] theorem sz_41 : szOf Try.prog 41 = some 1 := by kernel_rfl
@[go_sem] theorem ag_41 : isAggT Try.prog 41 = some false := by kernel_rfl
@[go_sem] theorem ze_41 : zeroL Try.prog 41 = some [.nilFunc] := by kernel_rfl
@[go_sem] theorem isl_41 : isSliceT Try.prog 41 = false := by kernel_rfl
@[go_sem] theorem ist_41 : isStrT Try.prog 41 = false := by kernel_rfl
@[go_sem] theorem isp_41 : isPtrT Try.prog 41 = false := by kernel_rfl
@[go_sem] theorem isb_41 : isBoolT Try.prog 41 = false := by kernel_rfl
@[go_sem] theorem isi_41 : isIfaceT Try.prog 41 = false := by kernel_rfl
@[go_sem] theorem isn_41 : isIntT Try.prog 41 = none := by kernel_rfl
@[go_sem] theorem by_41 : bytesT Try.prog 41 = 8 := by kernel_rfl
@[go_sem] theorem sz_42 : szOf Try.prog 42 = some 1 := by kernel_rfl
@[go_sem] theorem ag_42 : isAggT Try.prog 42 = some false := by kernel_rfl
@[go_sem] theorem ze_42 : zeroL Try.prog 42 = some [.nilFunc] := by kernel_rfl
@[go_sem] theorem isl_42 : isSliceT Try.prog 42 = false := by kernel_rfl
@[go_sem] theorem ist_42 : isStrT Try.prog 42 = false := by kernel_rfl
@[go_sem] theorem isp_42 : isPtrT Try.prog 42 = false := by kernel_rfl
@[go_sem] theorem isb_42 : isBoolT Try.prog 42 = false := by kernel_rfl
@[go_sem] theorem isi_42 : isIfaceT Try.prog 42 = false := by kernel_rfl
@[go_sem] theorem isn_42 : isIntT Try.prog 42 = none := by kernel_rfl
@[go_sem] theorem by_42 : bytesT Try.prog 42 = 8 := by kernel_rfl
@[go_sem] theorem sz_44 : szOf Try.prog 44 = some 1 := by kernel_rfl
@[go_sem] theorem ag_44 : isAggT Try.prog 44 = some false := by kernel_rfl
@[go_sem] theorem ze_44 : zeroL Try.prog 44 = some [.nilFunc] := by kernel_rfl
@[go_sem] theorem isl_44 : isSliceT Try.prog 44 = false := by kernel_rfl
@[go_sem] theorem ist_44 : isStrT Try.prog 44 = false := by kernel_rfl
@[go_sem] theorem isp_44 : isPtrT Try.prog 44 = false := by kernel_rfl
@[go_sem] theorem isb_44 : isBoolT Try.prog 44 = false := by kernel_rfl
@[go_sem] theorem isi_44 : isIfaceT Try.prog 44 = false := by kernel_rfl
@[go_sem] theorem isn_44 : isIntT Try.prog 44 = none := by kernel_rfl
@[go_sem] theorem by_44 : bytesT Try.prog 44 = 8 := by kernel_rfl
@[go_sem] theorem sz_45 : szOf Try.prog 45 = some 1 := by kernel_rfl
@[go_sem] theorem ag_45 : isAggT Try.prog 45 = some false := by kernel_rfl
@[go_sem] theorem ze_45 : zeroL Try.prog 45 = some [.slice none 0 0] := by kernel_rfl
@[go_sem] theorem un_45 : Try.prog.underlying 45 = some (.slice 51) := by kernel_rfl
@[go_sem] theorem el_45 : elT Try.prog 45 = some 51 := by kernel_rfl
@[go_sem] theorem es_45 : elSz Try.prog 45 = some 2 := by kernel_rfl
@[go_sem] theorem isl_45 : isSliceT Try.prog 45 = true := by kernel_rfl
@[go_sem] theorem ist_45 : isStrT Try.prog 45 = false := by kernel_rfl
@[go_sem] theorem isp_45 : isPtrT Try.prog 45 = false := by kernel_rfl
@[go_sem] theorem isb_45 : isBoolT Try.prog 45 = false := by kernel_rfl
@[go_sem] theorem isi_45 : isIfaceT Try.prog 45 = false := by kernel_rfl
@[go_sem] theorem isn_45 : isIntT Try.prog 45 = none := by kernel_rfl
@[go_sem] theorem by_45 : bytesT Try.prog 45 = 24 := by kernel_rfl
@[go_sem] theorem sz_46 : szOf Try.prog 46 = some 2 := by kernel_rfl
@[go_sem] theorem ag_46 : isAggT Try.prog 46 = some true := by kernel_rfl
@[go_sem] theorem ze_46 : zeroL Try.prog 46 = some [.int .i64 0, .slice none 0 0] := by kernel_rfl
@[go_sem] theorem fo_46_0 : fOff Try.prog 46 0 = some 0 := by kernel_rfl
@[go_sem] theorem ft_46_0 : fTy Try.prog 46 0 = some (3, 0) := by kernel_rfl
@[go_sem] theorem fo_46_1 : fOff Try.prog 46 1 = some 1 := by kernel_rfl
@[go_sem] theorem ft_46_1 : fTy Try.prog 46 1 = some (45, 1) := by kernel_rfl
@[go_sem] theorem pl_46 : places Try.prog 46 = some [(0, 1), (1, 1)] := by kernel_rfl
@[go_sem] theorem isl_46 : isSliceT Try.prog 46 = false := by kernel_rfl
@[go_sem] theorem ist_46 : isStrT Try.prog 46 = false := by kernel_rfl
@[go_sem] theorem isp_46 : isPtrT Try.prog 46 = false := by kernel_rfl
@[go_sem] theorem isb_46 : isBoolT Try.prog 46 = false := by kernel_rfl
@[go_sem] theorem isi_46 : isIfaceT Try.prog 46 = false := by kernel_rfl
@[go_sem] theorem isn_46 : isIntT Try.prog 46 = none := by kernel_rfl
@[go_sem] theorem by_46 : bytesT Try.prog 46 = 32 := by kernel_rfl
@[go_sem] theorem sz_47 : szOf Try.prog 47 = some 2 := by kernel_rfl
@[go_sem] theorem ag_47 : isAggT Try.prog 47 = some true := by kernel_rfl
@[go_sem] theorem ze_47 : zeroL Try.prog 47 = some [.int .i64 0, .slice none 0 0] := by kernel_rfl
@[go_sem] theorem fo_47_0 : fOff Try.prog 47 0 = some 0 := by kernel_rfl
@[go_sem] theorem ft_47_0 : fTy Try.prog 47 0 = some (3, 0) := by kernel_rfl
@[go_sem] theorem fo_47_1 : fOff Try.prog 47 1 = some 1 := by kernel_rfl
@[go_sem] theorem ft_47_1 : fTy Try.prog 47 1 = some (45, 1) := by kernel_rfl
@[go_sem] theorem pl_47 : places Try.prog 47 = some [(0, 1), (1, 1)] := by kernel_rfl
@[go_sem] theorem isl_47 : isSliceT Try.prog 47 = false := by kernel_rfl
@[go_sem] theorem ist_47 : isStrT Try.prog 47 = false := by kernel_rfl
@[go_sem] theorem isp_47 : isPtrT Try.prog 47 = false := by kernel_rfl
@[go_sem] theorem isb_47 : isBoolT Try.prog 47 = false := by kernel_rfl
@[go_sem] theorem isi_47 : isIfaceT Try.prog 47 = false := by kernel_rfl
@[go_sem] theorem isn_47 : isIntT Try.prog 47 = none := by kernel_rfl
@[go_sem] theorem by_47 : bytesT Try.prog 47 = 32 := by kernel_rfl
@[go_sem] theorem sz_49 : szOf Try.prog 49 = some 1 := by kernel_rfl
@[go_sem] theorem ag_49 : isAggT Try.prog 49 = some false := by kernel_rfl
@[go_sem] theorem ze_49 : zeroL Try.prog 49 = some [.nilFunc] := by kernel_rfl
@[go_sem] theorem isl_49 : isSliceT Try.prog 49 = false := by kernel_rfl
@[go_sem] theorem ist_49 : isStrT Try.prog 49 = false := by kernel_rfl
@[go_sem] theorem isp_49 : isPtrT Try.prog 49 = false := by kernel_rfl
@[go_sem] theorem isb_49 : isBoolT Try.prog 49 = false := by kernel_rfl
@[go_sem] theorem isi_49 : isIfaceT Try.prog 49 = false := by kernel_rfl
@[go_sem] theorem isn_49 : isIntT Try.prog 49 = none := by kernel_rfl
@[go_sem] theorem by_49 : bytesT Try.prog 49 = 8 := by kernel_rfl
@[go_sem] theorem sz_50 : szOf Try.prog 50 = some 2 := by kernel_rfl
@[go_sem] theorem ag_50 : isAggT Try.prog 50 = some true := by kernel_rfl
@[go_sem] theorem ze_50 : zeroL Try.prog 50 = some [.int .i64 0, .int .i64 0] := by kernel_rfl
@[go_sem] theorem fo_50_0 : fOff Try.prog 50 0 = some 0 := by kernel_rfl
@[go_sem] theorem ft_50_0 : fTy Try.prog 50 0 = some (3, 0) := by kernel_rfl
@[go_sem] theorem fo_50_1 : fOff Try.prog 50 1 = some 1 := by kernel_rfl
@[go_sem] theorem ft_50_1 : fTy Try.prog 50 1 = some (3, 1) := by kernel_rfl
@[go_sem] theorem pl_50 : places Try.prog 50 = some [(0, 1), (1, 1)] := by kernel_rfl
@[go_sem] theorem eqk_50 : eqKinds Try.prog 50 = some [.int .i64, .int .i64] := by kernel_rfl
@[go_sem] theorem isl_50 : isSliceT Try.prog 50 = false := by kernel_rfl
@[go_sem] theorem ist_50 : isStrT Try.prog 50 = false := by kernel_rfl
@[go_sem] theorem isp_50 : isPtrT Try.prog 50 = false := by kernel_rfl
@[go_sem] theorem isb_50 : isBoolT Try.prog 50 = false := by kernel_rfl
@[go_sem] theorem isi_50 : isIfaceT Try.prog 50 = false := by kernel_rfl
@[go_sem] theorem isn_50 : isIntT Try.prog 50 = none := by kernel_rfl
@[go_sem] theorem by_50 : bytesT Try.prog 50 = 16 := by kernel_rfl
@[go_sem] theorem sz_51 : szOf Try.prog 51 = some 2 := by kernel_rfl
@[go_sem] theorem ag_51 : isAggT Try.prog 51 = some true := by kernel_rfl
@[go_sem] theorem ze_51 : zeroL Try.prog 51 = some [.int .i64 0, .int .i64 0] := by kernel_rfl
@[go_sem] theorem fo_51_0 : fOff Try.prog 51 0 = some 0 := by kernel_rfl
@[go_sem] theorem ft_51_0 : fTy Try.prog 51 0 = some (3, 0) := by kernel_rfl
@[go_sem] theorem fo_51_1 : fOff Try.prog 51 1 = some 1 := by kernel_rfl
@[go_sem] theorem ft_51_1 : fTy Try.prog 51 1 = some (3, 1) := by kernel_rfl
@[go_sem] theorem pl_51 : places Try.prog 51 = some [(0, 1), (1, 1)] := by kernel_rfl
@[go_sem] theorem eqk_51 : eqKinds Try.prog 51 = some [.int .i64, .int .i64] := by kernel_rfl
@[go_sem] theorem isl_51 : isSliceT Try.prog 51 = false := by kernel_rfl
@[go_sem] theorem ist_51 : isStrT Try.prog 51 = false := by kernel_rfl
@[go_sem] theorem isp_51 : isPtrT Try.prog 51 = false := by kernel_rfl
@[go_sem] theorem isb_51 : isBoolT Try.prog 51 = false := by kernel_rfl
@[go_sem] theorem isi_51 : isIfaceT Try.prog 51 = false := by kernel_rfl
@[go_sem] theorem isn_51 : isIntT Try.prog 51 = none := by kernel_rfl
@[go_sem] theorem by_51 : bytesT Try.prog 51 = 16 := by kernel_rfl
@[go_sem] theorem sz_52 : szOf Try.prog 52 = some 1 := by kernel_rfl
@[go_sem] theorem ag_52 : isAggT Try.prog 52 = some false := by kernel_rfl
@[go_sem] theorem ze_52 : zeroL Try.prog 52 = some [.nilFunc] := by kernel_rfl
@[go_sem] theorem isl_52 : isSliceT Try.prog 52 = false := by kernel_rfl
@[go_sem] theorem ist_52 : isStrT Try.prog 52 = false := by kernel_rfl
@[go_sem] theorem isp_52 : isPtrT Try.prog 52 = false := by kernel_rfl
@[go_sem] theorem isb_52 : isBoolT Try.prog 52 = false := by kernel_rfl
@[go_sem] theorem isi_52 : isIfaceT Try.prog 52 = false := by kernel_rfl
@[go_sem] theorem isn_52 : isIntT Try.prog 52 = none := by kernel_rfl
@[go_sem] theorem by_52 : bytesT Try.prog 52 = 8 := by kernel_rfl
@[go_sem] theorem sz_53 : szOf Try.prog 53 = some 1 := by kernel_rfl
@[go_sem] theorem ag_53 : isAggT Try.prog 53 = some false := by kernel_rfl
@[go_sem] theorem ze_53 : zeroL Try.prog 53 = some [.nilFunc] := by kernel_rfl
@[go_sem] theorem isl_53 : isSliceT Try.prog 53 = false := by kernel_rfl
@[go_sem] theorem ist_53 : isStrT Try.prog 53 = false := by kernel_rfl
@[go_sem] theorem isp_53 : isPtrT Try.prog 53 = false := by kernel_rfl
@[go_sem] theorem isb_53 : isBoolT Try.prog 53 = false := by kernel_rfl
@[go_sem] theorem isi_53 : isIfaceT Try.prog 53 = false := by kernel_rfl
@[go_sem] theorem isn_53 : isIntT Try.prog 53 = none := by kernel_rfl
@[go_sem] theorem by_53 : bytesT Try.prog 53 = 8 := by kernel_rfl
@[go_sem] theorem sz_54 : szOf Try.prog 54 = some 1 := by kernel_rfl
@[go_sem] theorem ag_54 : isAggT Try.prog 54 = some false := by kernel_rfl
@[go_sem] theorem ze_54 : zeroL Try.prog 54 = some [.nilFunc] := by kernel_rfl
@[go_sem] theorem isl_54 : isSliceT Try.prog 54 = false := by kernel_rfl
@[go_sem] theorem ist_54 : isStrT Try.prog 54 = false := by kernel_rfl
@[go_sem] theorem isp_54 : isPtrT Try.prog 54 = false := by kernel_rfl
@[go_sem] theorem isb_54 : isBoolT Try.prog 54 = false := by kernel_rfl
@[go_sem] theorem isi_54 : isIfaceT Try.prog 54 = false := by kernel_rfl
@[go_sem] theorem isn_54 : isIntT Try.prog 54 = none := by kernel_rfl
@[go_sem] theorem by_54 : bytesT Try.prog 54 = 8 := by kernel_rfl
@[go_sem] theorem sz_55 : szOf Try.prog 55 = some 1 := by kernel_rfl
@[go_sem] theorem ag_55 : isAggT Try.prog 55 = some false := by kernel_rfl
@[go_sem] theorem ze_55 : zeroL Try.prog 55 = some [.int .u64 0] := by kernel_rfl
@[go_sem] theorem isl_55 : isSliceT Try.prog 55 = false := by kernel_rfl
@[go_sem] theorem ist_55 : isStrT Try.prog 55 = false := by kernel_rfl
@[go_sem] theorem isp_55 : isPtrT Try.prog 55 = false := by kernel_rfl
@[go_sem] theorem isb_55 : isBoolT Try.prog 55 = false := by kernel_rfl
@[go_sem] theorem isi_55 : isIfaceT Try.prog 55 = false := by kernel_rfl
@[go_sem] theorem isn_55 : isIntT Try.prog 55 = some .u64 := by kernel_rfl
@[go_sem] theorem by_55 : bytesT Try.prog 55 = 8 := by kernel_rfl
@[go_sem] theorem sz_56 : szOf Try.prog 56 = some 1 := by kernel_rfl
@[go_sem] theorem ag_56 : isAggT Try.prog 56 = some false := by kernel_rfl
@[go_sem] theorem ze_56 : zeroL Try.prog 56 = some [.slice none 0 0] := by kernel_rfl
@[go_sem] theorem un_56 : Try.prog.underlying 56 = some (.slice 60) := by kernel_rfl
@[go_sem] theorem el_56 : elT Try.prog 56 = some 60 := by kernel_rfl
@[go_sem] theorem es_56 : elSz Try.prog 56 = some 2 := by kernel_rfl
@[go_sem] theorem isl_56 : isSliceT Try.prog 56 = true := by kernel_rfl
@[go_sem] theorem ist_56 : isStrT Try.prog 56 = false := by kernel_rfl
@[go_sem] theorem isp_56 : isPtrT Try.prog 56 = false := by kernel_rfl
@[go_sem] theorem isb_56 : isBoolT Try.prog 56 = false := by kernel_rfl
@[go_sem] theorem isi_56 : isIfaceT Try.prog 56 = false := by kernel_rfl
@[go_sem] theorem isn_56 : isIntT Try.prog 56 = none := by kernel_rfl
@[go_sem] theorem by_56 : bytesT Try.prog 56 = 24 := by kernel_rfl
@[go_sem] theorem sz_57 : szOf Try.prog 57 = some 2 := by kernel_rfl
@[go_sem] theorem ag_57 : isAggT Try.prog 57 = some true := by kernel_rfl
@[go_sem] theorem ze_57 : zeroL Try.prog 57 = some [.int .i64 0, .slice none 0 0] := by kernel_rfl
@[go_sem] theorem fo_57_0 : fOff Try.prog 57 0 = some 0 := by kernel_rfl
@[go_sem] theorem ft_57_0 : fTy Try.prog 57 0 = some (3, 0) := by kernel_rfl
@[go_sem] theorem fo_57_1 : fOff Try.prog 57 1 = some 1 := by kernel_rfl
@[go_sem] theorem ft_57_1 : fTy Try.prog 57 1 = some (56, 1) := by kernel_rfl
@[go_sem] theorem pl_57 : places Try.prog 57 = some [(0, 1), (1, 1)] := by kernel_rfl
@[go_sem] theorem isl_57 : isSliceT Try.prog 57 = false := by kernel_rfl
@[go_sem] theorem ist_57 : isStrT Try.prog 57 = false := by kernel_rfl
@[go_sem] theorem isp_57 : isPtrT Try.prog 57 = false := by kernel_rfl
@[go_sem] theorem isb_57 : isBoolT Try.prog 57 = false := by kernel_rfl
@[go_sem] theorem isi_57 : isIfaceT Try.prog 57 = false := by kernel_rfl
@[go_sem] theorem isn_57 : isIntT Try.prog 57 = none := by kernel_rfl
@[go_sem] theorem by_57 : bytesT Try.prog 57 = 32 := by kernel_rfl
@[go_sem] theorem sz_58 : szOf Try.prog 58 = some 2 := by kernel_rfl
@[go_sem] theorem ag_58 : isAggT Try.prog 58 = some true := by kernel_rfl
@[go_sem] theorem ze_58 : zeroL Try.prog 58 = some [.int .i64 0, .slice none 0 0] := by kernel_rfl
@[go_sem] theorem fo_58_0 : fOff Try.prog 58 0 = some 0 := by kernel_rfl
@[go_sem] theorem ft_58_0 : fTy Try.prog 58 0 = some (3, 0) := by kernel_rfl
@[go_sem] theorem fo_58_1 : fOff Try.prog 58 1 = some 1 := by kernel_rfl
@[go_sem] theorem ft_58_1 : fTy Try.prog 58 1 = some (56, 1) := by kernel_rfl
@[go_sem] theorem pl_58 : places Try.prog 58 = some [(0, 1), (1, 1)] := by kernel_rfl
@[go_sem] theorem isl_58 : isSliceT Try.prog 58 = false := by kernel_rfl
@[go_sem] theorem ist_58 : isStrT Try.prog 58 = false := by kernel_rfl
@[go_sem] theorem isp_58 : isPtrT Try.prog 58 = false := by kernel_rfl
@[go_sem] theorem isb_58 : isBoolT Try.prog 58 = false := by kernel_rfl
@[go_sem] theorem isi_58 : isIfaceT Try.prog 58 = false := by kernel_rfl
@[go_sem] theorem isn_58 : isIntT Try.prog 58 = none := by kernel_rfl
@[go_sem] theorem by_58 : bytesT Try.prog 58 = 32 := by kernel_rfl
@[go_sem] theorem sz_59 : szOf Try.prog 59 = some 2 := by kernel_rfl
@[go_sem] theorem ag_59 : isAggT Try.prog 59 = some true := by kernel_rfl
@[go_sem] theorem ze_59 : zeroL Try.prog 59 = some [.int .i64 0, .string ⟨#[]⟩] := by kernel_rfl
@[go_sem] theorem fo_59_0 : fOff Try.prog 59 0 = some 0 := by kernel_rfl
@[go_sem] theorem ft_59_0 : fTy Try.prog 59 0 = some (3, 0) := by kernel_rfl
@[go_sem] theorem fo_59_1 : fOff Try.prog 59 1 = some 1 := by kernel_rfl
@[go_sem] theorem ft_59_1 : fTy Try.prog 59 1 = some (9, 1) := by kernel_rfl
@[go_sem] theorem pl_59 : places Try.prog 59 = some [(0, 1), (1, 1)] := by kernel_rfl
@[go_sem] theorem eqk_59 : eqKinds Try.prog 59 = some [.int .i64, .str] := by kernel_rfl
@[go_sem] theorem isl_59 : isSliceT Try.prog 59 = false := by kernel_rfl
@[go_sem] theorem ist_59 : isStrT Try.prog 59 = false := by kernel_rfl
@[go_sem] theorem isp_59 : isPtrT Try.prog 59 = false := by kernel_rfl
@[go_sem] theorem isb_59 : isBoolT Try.prog 59 = false := by kernel_rfl
@[go_sem] theorem isi_59 : isIfaceT Try.prog 59 = false := by kernel_rfl
@[go_sem] theorem isn_59 : isIntT Try.prog 59 = none := by kernel_rfl
@[go_sem] theorem by_59 : bytesT Try.prog 59 = 24 := by kernel_rfl
@[go_sem] theorem sz_60 : szOf Try.prog 60 = some 2 := by kernel_rfl
@[go_sem] theorem ag_60 : isAggT Try.prog 60 = some true := by kernel_rfl
@[go_sem] theorem ze_60 : zeroL Try.prog 60 = some [.int .i64 0, .string ⟨#[]⟩] := by kernel_rfl
@[go_sem] theorem fo_60_0 : fOff Try.prog 60 0 = some 0 := by kernel_rfl
@[go_sem] theorem ft_60_0 : fTy Try.prog 60 0 = some (3, 0) := by kernel_rfl
@[go_sem] theorem fo_60_1 : fOff Try.prog 60 1 = some 1 := by kernel_rfl
@[go_sem] theorem ft_60_1 : fTy Try.prog 60 1 = some (9, 1) := by kernel_rfl
@[go_sem] theorem pl_60 : places Try.prog 60 = some [(0, 1), (1, 1)] := by kernel_rfl
@[go_sem] theorem eqk_60 : eqKinds Try.prog 60 = some [.int .i64, .str] := by kernel_rfl
@[go_sem] theorem isl_60 : isSliceT Try.prog 60 = false := by kernel_rfl
@[go_sem] theorem ist_60 : isStrT Try.prog 60 = false := by kernel_rfl
@[go_sem] theorem isp_60 : isPtrT Try.prog 60 = false := by kernel_rfl
@[go_sem] theorem isb_60 : isBoolT Try.prog 60 = false := by kernel_rfl
@[go_sem] theorem isi_60 : isIfaceT Try.prog 60 = false := by kernel_rfl
@[go_sem] theorem isn_60 : isIntT Try.prog 60 = none := by kernel_rfl
@[go_sem] theorem by_60 : bytesT Try.prog 60 = 24 := by kernel_rfl
@[go_sem] theorem sz_61 : szOf Try.prog 61 = some 1 := by kernel_rfl
@[go_sem] theorem ag_61 : isAggT Try.prog 61 = some false := by kernel_rfl
@[go_sem] theorem ze_61 : zeroL Try.prog 61 = some [.nilFunc] := by kernel_rfl
@[go_sem] theorem isl_61 : isSliceT Try.prog 61 = false := by kernel_rfl
@[go_sem] theorem ist_61 : isStrT Try.prog 61 = false := by kernel_rfl
@[go_sem] theorem isp_61 : isPtrT Try.prog 61 = false := by kernel_rfl
@[go_sem] theorem isb_61 : isBoolT Try.prog 61 = false := by kernel_rfl
@[go_sem] theorem isi_61 : isIfaceT Try.prog 61 = false := by kernel_rfl
@[go_sem] theorem isn_61 : isIntT Try.prog 61 = none := by kernel_rfl
@[go_sem] theorem by_61 : bytesT Try.prog 61 = 8 := by kernel_rfl
@[go_sem] theorem sz_62 : szOf Try.prog 62 = some 1 := by kernel_rfl
@[go_sem] theorem ag_62 : isAggT Try.prog 62 = some false := by kernel_rfl
@[go_sem] theorem ze_62 : zeroL Try.prog 62 = some [.nilFunc] := by kernel_rfl
@[go_sem] theorem isl_62 : isSliceT Try.prog 62 = false := by kernel_rfl
@[go_sem] theorem ist_62 : isStrT Try.prog 62 = false := by kernel_rfl
@[go_sem] theorem isp_62 : isPtrT Try.prog 62 = false := by kernel_rfl
@[go_sem] theorem isb_62 : isBoolT Try.prog 62 = false := by kernel_rfl
@[go_sem] theorem isi_62 : isIfaceT Try.prog 62 = false := by kernel_rfl
@[go_sem] theorem isn_62 : isIntT Try.prog 62 = none := by kernel_rfl
@[go_sem] theorem by_62 : bytesT Try.prog 62 = 8 := by kernel_rfl
@[go_sem] theorem sz_63 : szOf Try.prog 63 = some 1 := by kernel_rfl
@[go_sem] theorem ag_63 : isAggT Try.prog 63 = some false := by kernel_rfl
@[go_sem] theorem ze_63 : zeroL Try.prog 63 = some [.nilFunc] := by kernel_rfl
@[go_sem] theorem isl_63 : isSliceT Try.prog 63 = false := by kernel_rfl
@[go_sem] theorem ist_63 : isStrT Try.prog 63 = false := by kernel_rfl
@[go_sem] theorem isp_63 : isPtrT Try.prog 63 = false := by kernel_rfl
@[go_sem] theorem isb_63 : isBoolT Try.prog 63 = false := by kernel_rfl
@[go_sem] theorem isi_63 : isIfaceT Try.prog 63 = false := by kernel_rfl
@[go_sem] theorem isn_63 : isIntT Try.prog 63 = none := by kernel_rfl
@[go_sem] theorem by_63 : bytesT Try.prog 63 = 8 := by kernel_rfl
@[go_sem] theorem sz_64 : szOf Try.prog 64 = some 1 := by kernel_rfl
@[go_sem] theorem ag_64 : isAggT Try.prog 64 = some false := by kernel_rfl
@[go_sem] theorem ze_64 : zeroL Try.prog 64 = some [.nilFunc] := by kernel_rfl
@[go_sem] theorem isl_64 : isSliceT Try.prog 64 = false := by kernel_rfl
@[go_sem] theorem ist_64 : isStrT Try.prog 64 = false := by kernel_rfl
@[go_sem] theorem isp_64 : isPtrT Try.prog 64 = false := by kernel_rfl
@[go_sem] theorem isb_64 : isBoolT Try.prog 64 = false := by kernel_rfl
@[go_sem] theorem isi_64 : isIfaceT Try.prog 64 = false := by kernel_rfl
@[go_sem] theorem isn_64 : isIntT Try.prog 64 = none := by kernel_rfl
@[go_sem] theorem by_64 : bytesT Try.prog 64 = 8 := by kernel_rfl
@[go_sem] theorem sz_65 : szOf Try.prog 65 = some 1 := by kernel_rfl
@[go_sem] theorem ag_65 : isAggT Try.prog 65 = some false := by kernel_rfl
@[go_sem] theorem ze_65 : zeroL Try.prog 65 = some [.nilFunc] := by kernel_rfl
@[go_sem] theorem isl_65 : isSliceT Try.prog 65 = false := by kernel_rfl
@[go_sem] theorem ist_65 : isStrT Try.prog 65 = false := by kernel_rfl
@[go_sem] theorem isp_65 : isPtrT Try.prog 65 = false := by kernel_rfl
@[go_sem] theorem isb_65 : isBoolT Try.prog 65 = false := by kernel_rfl
@[go_sem] theorem isi_65 : isIfaceT Try.prog 65 = false := by kernel_rfl
@[go_sem] theorem isn_65 : isIntT Try.prog 65 = none := by kernel_rfl
@[go_sem] theorem by_65 : bytesT Try.prog 65 = 8 := by kernel_rfl
@[go_sem] theorem sz_66 : szOf Try.prog 66 = some 1 := by kernel_rfl
@[go_sem] theorem ag_66 : isAggT Try.prog 66 = some false := by kernel_rfl
@[go_sem] theorem ze_66 : zeroL Try.prog 66 = some [.nilFunc] := by kernel_rfl
@[go_sem] theorem isl_66 : isSliceT Try.prog 66 = false := by kernel_rfl
@[go_sem] theorem ist_66 : isStrT Try.prog 66 = false := by kernel_rfl
@[go_sem] theorem isp_66 : isPtrT Try.prog 66 = false := by kernel_rfl
@[go_sem] theorem isb_66 : isBoolT Try.prog 66 = false := by kernel_rfl
@[go_sem] theorem isi_66 : isIfaceT Try.prog 66 = false := by kernel_rfl
@[go_sem] theorem isn_66 : isIntT Try.prog 66 = none := by kernel_rfl
@[go_sem] theorem by_66 : bytesT Try.prog 66 = 8 := by kernel_rfl
@[go_sem] theorem sz_67 : szOf Try.prog 67 = some 1 := by kernel_rfl
@[go_sem] theorem ag_67 : isAggT Try.prog 67 = some false := by kernel_rfl
@[go_sem] theorem ze_67 : zeroL Try.prog 67 = some [.nilFunc] := by kernel_rfl
@[go_sem] theorem isl_67 : isSliceT Try.prog 67 = false := by kernel_rfl
@[go_sem] theorem ist_67 : isStrT Try.prog 67 = false := by kernel_rfl
@[go_sem] theorem isp_67 : isPtrT Try.prog 67 = false := by kernel_rfl
@[go_sem] theorem isb_67 : isBoolT Try.prog 67 = false := by kernel_rfl
@[go_sem] theorem isi_67 : isIfaceT Try.prog 67 = false := by kernel_rfl
@[go_sem] theorem isn_67 : isIntT Try.prog 67 = none := by kernel_rfl
@[go_sem] theorem by_67 : bytesT Try.prog 67 = 8 := by kernel_rfl
@[go_sem] theorem sz_68 : szOf Try.prog 68 = some 1 := by kernel_rfl
@[go_sem] theorem ag_68 : isAggT Try.prog 68 = some false := by kernel_rfl
@[go_sem] theorem ze_68 : zeroL Try.prog 68 = some [.nilFunc] := by kernel_rfl
@[go_sem] theorem isl_68 : isSliceT Try.prog 68 = false := by kernel_rfl
@[go_sem] theorem ist_68 : isStrT Try.prog 68 = false := by kernel_rfl
@[go_sem] theorem isp_68 : isPtrT Try.prog 68 = false := by kernel_rfl
@[go_sem] theorem isb_68 : isBoolT Try.prog 68 = false := by kernel_rfl
@[go_sem] theorem isi_68 : isIfaceT Try.prog 68 = false := by kernel_rfl
@[go_sem] theorem isn_68 : isIntT Try.prog 68 = none := by kernel_rfl
@[go_sem] theorem by_68 : bytesT Try.prog 68 = 8 := by kernel_rfl
@[go_sem] theorem sz_69 : szOf Try.prog 69 = some 1 := by kernel_rfl
@[go_sem] theorem ag_69 : isAggT Try.prog 69 = some false := by kernel_rfl
@[go_sem] theorem ze_69 : zeroL Try.prog 69 = some [.nilFunc] := by kernel_rfl
@[go_sem] theorem isl_69 : isSliceT Try.prog 69 = false := by kernel_rfl
@[go_sem] theorem ist_69 : isStrT Try.prog 69 = false := by kernel_rfl
@[go_sem] theorem isp_69 : isPtrT Try.prog 69 = false := by kernel_rfl
@[go_sem] theorem isb_69 : isBoolT Try.prog 69 = false := by kernel_rfl
@[go_sem] theorem isi_69 : isIfaceT Try.prog 69 = false := by kernel_rfl
@[go_sem] theorem isn_69 : isIntT Try.prog 69 = none := by kernel_rfl
@[go_sem] theorem by_69 : bytesT Try.prog 69 = 8 := by kernel_rfl
@[go_sem] theorem sz_70 : szOf Try.prog 70 = some 1 := by kernel_rfl
@[go_sem] theorem ag_70 : isAggT Try.prog 70 = some false := by kernel_rfl
@[go_sem] theorem ze_70 : zeroL Try.prog 70 = some [.nilFunc] := by kernel_rfl
@[go_sem] theorem isl_70 : isSliceT Try.prog 70 = false := by kernel_rfl
@[go_sem] theorem ist_70 : isStrT Try.prog 70 = false := by kernel_rfl
@[go_sem] theorem isp_70 : isPtrT Try.prog 70 = false := by kernel_rfl
@[go_sem] theorem isb_70 : isBoolT Try.prog 70 = false := by kernel_rfl
@[go_sem] theorem isi_70 : isIfaceT Try.prog 70 = false := by kernel_rfl
@[go_sem] theorem isn_70 : isIntT Try.prog 70 = none := by kernel_rfl
@[go_sem] theorem by_70 : bytesT Try.prog 70 = 8 := by kernel_rfl
@[go_sem] theorem sz_71 : szOf Try.prog 71 = some 1 := by kernel_rfl
@[go_sem] theorem ag_71 : isAggT Try.prog 71 = some false := by kernel_rfl
@[go_sem] theorem ze_71 : zeroL Try.prog 71 = some [.nilFunc] := by kernel_rfl
@[go_sem] theorem isl_71 : isSliceT Try.prog 71 = false := by kernel_rfl
@[go_sem] theorem ist_71 : isStrT Try.prog 71 = false := by kernel_rfl
@[go_sem] theorem isp_71 : isPtrT Try.prog 71 = false := by kernel_rfl
@[go_sem] theorem isb_71 : isBoolT Try.prog 71 = false := by kernel_rfl
@[go_sem] theorem isi_71 : isIfaceT Try.prog 71 = false := by kernel_rfl
@[go_sem] theorem isn_71 : isIntT Try.prog 71 = none := by kernel_rfl
@[go_sem] theorem by_71 : bytesT Try.prog 71 = 8 := by kernel_rfl
@[go_sem] theorem sz_72 : szOf Try.prog 72 = some 1 := by kernel_rfl
@[go_sem] theorem ag_72 : isAggT Try.prog 72 = some false := by kernel_rfl
@[go_sem] theorem ze_72 : zeroL Try.prog 72 = some [.nilFunc] := by kernel_rfl
@[go_sem] theorem isl_72 : isSliceT Try.prog 72 = false := by kernel_rfl
@[go_sem] theorem ist_72 : isStrT Try.prog 72 = false := by kernel_rfl
@[go_sem] theorem isp_72 : isPtrT Try.prog 72 = false := by kernel_rfl
@[go_sem] theorem isb_72 : isBoolT Try.prog 72 = false := by kernel_rfl
@[go_sem] theorem isi_72 : isIfaceT Try.prog 72 = false := by kernel_rfl
@[go_sem] theorem isn_72 : isIntT Try.prog 72 = none := by kernel_rfl
@[go_sem] theorem by_72 : bytesT Try.prog 72 = 8 := by kernel_rfl
@[go_sem] theorem sz_73 : szOf Try.prog 73 = some 1 := by kernel_rfl
@[go_sem] theorem ag_73 : isAggT Try.prog 73 = some false := by kernel_rfl
@[go_sem] theorem ze_73 : zeroL Try.prog 73 = some [.int .u64 0] := by kernel_rfl
@[go_sem] theorem isl_73 : isSliceT Try.prog 73 = false := by kernel_rfl
@[go_sem] theorem ist_73 : isStrT Try.prog 73 = false := by kernel_rfl
@[go_sem] theorem isp_73 : isPtrT Try.prog 73 = false := by kernel_rfl
@[go_sem] theorem isb_73 : isBoolT Try.prog 73 = false := by kernel_rfl
@[go_sem] theorem isi_73 : isIfaceT Try.prog 73 = false := by kernel_rfl
@[go_sem] theorem isn_73 : isIntT Try.prog 73 = some .u64 := by kernel_rfl
@[go_sem] theorem by_73 : bytesT Try.prog 73 = 8 := by kernel_rfl
@[go_sem] theorem sz_74 : szOf Try.prog 74 = some 1 := by kernel_rfl
@[go_sem] theorem ag_74 : isAggT Try.prog 74 = some false := by kernel_rfl
@[go_sem] theorem ze_74 : zeroL Try.prog 74 = some [.nilFunc] := by kernel_rfl
@[go_sem] theorem isl_74 : isSliceT Try.prog 74 = false := by kernel_rfl
@[go_sem] theorem ist_74 : isStrT Try.prog 74 = false := by kernel_rfl
@[go_sem] theorem isp_74 : isPtrT Try.prog 74 = false := by kernel_rfl
@[go_sem] theorem isb_74 : isBoolT Try.prog 74 = false := by kernel_rfl
@[go_sem] theorem isi_74 : isIfaceT Try.prog 74 = false := by kernel_rfl
@[go_sem] theorem isn_74 : isIntT Try.prog 74 = none := by kernel_rfl
@[go_sem] theorem by_74 : bytesT Try.prog 74 = 8 := by kernel_rfl
@[go_sem] theorem sz_75 : szOf Try.prog 75 = some 1 := by kernel_rfl
@[go_sem] theorem ag_75 : isAggT Try.prog 75 = some false := by kernel_rfl
@[go_sem] theorem ze_75 : zeroL Try.prog 75 = some [.nilFunc] := by kernel_rfl
@[go_sem] theorem isl_75 : isSliceT Try.prog 75 = false := by kernel_rfl
@[go_sem] theorem ist_75 : isStrT Try.prog 75 = false := by kernel_rfl
@[go_sem] theorem isp_75 : isPtrT Try.prog 75 = false := by kernel_rfl
@[go_sem] theorem isb_75 : isBoolT Try.prog 75 = false := by kernel_rfl
@[go_sem] theorem isi_75 : isIfaceT Try.prog 75 = false := by kernel_rfl
@[go_sem] theorem isn_75 : isIntT Try.prog 75 = none := by kernel_rfl
@[go_sem] theorem by_75 : bytesT Try.prog 75 = 8 := by kernel_rfl
@[go_sem] theorem sz_76 : szOf Try.prog 76 = some 1 := by kernel_rfl
@[go_sem] theorem ag_76 : isAggT Try.prog 76 = some false := by kernel_rfl
@[go_sem] theorem ze_76 : zeroL Try.prog 76 = some [.nilFunc] := by kernel_rfl
@[go_sem] theorem isl_76 : isSliceT Try.prog 76 = false := by kernel_rfl
@[go_sem] theorem ist_76 : isStrT Try.prog 76 = false := by kernel_rfl
@[go_sem] theorem isp_76 : isPtrT Try.prog 76 = false := by kernel_rfl
@[go_sem] theorem isb_76 : isBoolT Try.prog 76 = false := by kernel_rfl
@[go_sem] theorem isi_76 : isIfaceT Try.prog 76 = false := by kernel_rfl
@[go_sem] theorem isn_76 : isIntT Try.prog 76 = none := by kernel_rfl
@[go_sem] theorem by_76 : bytesT Try.prog 76 = 8 := by kernel_rfl
@[go_sem] theorem sz_77 : szOf Try.prog 77 = some 1 := by kernel_rfl
@[go_sem] theorem ag_77 : isAggT Try.prog 77 = some false := by kernel_rfl
@[go_sem] theorem ze_77 : zeroL Try.prog 77 = some [.nilFunc] := by kernel_rfl
@[go_sem] theorem isl_77 : isSliceT Try.prog 77 = false := by kernel_rfl
@[go_sem] theorem ist_77 : isStrT Try.prog 77 = false := by kernel_rfl
@[go_sem] theorem isp_77 : isPtrT Try.prog 77 = false := by kernel_rfl
@[go_sem] theorem isb_77 : isBoolT Try.prog 77 = false := by kernel_rfl
@[go_sem] theorem isi_77 : isIfaceT Try.prog 77 = false := by kernel_rfl
@[go_sem] theorem isn_77 : isIntT Try.prog 77 = none := by kernel_rfl
@[go_sem] theorem by_77 : bytesT Try.prog 77 = 8 := by kernel_rfl
@[go_sem] theorem sz_78 : szOf Try.prog 78 = some 4 := by kernel_rfl
@[go_sem] theorem ag_78 : isAggT Try.prog 78 = some true := by kernel_rfl
@[go_sem] theorem ze_78 : zeroL Try.prog 78 = some [.pointer none, .pointer none, .pointer none, .string ⟨#[]⟩] := by kernel_rfl
@[go_sem] theorem fo_78_0 : fOff Try.prog 78 0 = some 0 := by kernel_rfl
@[go_sem] theorem ft_78_0 : fTy Try.prog 78 0 = some (17, 0) := by kernel_rfl
@[go_sem] theorem fo_78_1 : fOff Try.prog 78 1 = some 1 := by kernel_rfl
@[go_sem] theorem ft_78_1 : fTy Try.prog 78 1 = some (17, 1) := by kernel_rfl
@[go_sem] theorem fo_78_2 : fOff Try.prog 78 2 = some 2 := by kernel_rfl
@[go_sem] theorem ft_78_2 : fTy Try.prog 78 2 = some (17, 2) := by kernel_rfl
@[go_sem] theorem fo_78_3 : fOff Try.prog 78 3 = some 3 := by kernel_rfl
@[go_sem] theorem ft_78_3 : fTy Try.prog 78 3 = some (9, 3) := by kernel_rfl
@[go_sem] theorem pl_78 : places Try.prog 78 = some [(0, 1), (1, 1), (2, 1), (3, 1)] := by kernel_rfl
@[go_sem] theorem isl_78 : isSliceT Try.prog 78 = false := by kernel_rfl
@[go_sem] theorem ist_78 : isStrT Try.prog 78 = false := by kernel_rfl
@[go_sem] theorem isp_78 : isPtrT Try.prog 78 = false := by kernel_rfl
@[go_sem] theorem isb_78 : isBoolT Try.prog 78 = false := by kernel_rfl
@[go_sem] theorem isi_78 : isIfaceT Try.prog 78 = false := by kernel_rfl
@[go_sem] theorem isn_78 : isIntT Try.prog 78 = none := by kernel_rfl
@[go_sem] theorem by_78 : bytesT Try.prog 78 = 40 := by kernel_rfl
@[go_sem] theorem sz_79 : szOf Try.prog 79 = some 4 := by kernel_rfl
@[go_sem] theorem ag_79 : isAggT Try.prog 79 = some true := by kernel_rfl
@[go_sem] theorem ze_79 : zeroL Try.prog 79 = some [.pointer none, .pointer none, .pointer none, .string ⟨#[]⟩] := by kernel_rfl
@[go_sem] theorem fo_79_0 : fOff Try.prog 79 0 = some 0 := by kernel_rfl
@[go_sem] theorem ft_79_0 : fTy Try.prog 79 0 = some (17, 0) := by kernel_rfl
@[go_sem] theorem fo_79_1 : fOff Try.prog 79 1 = some 1 := by kernel_rfl
@[go_sem] theorem ft_79_1 : fTy Try.prog 79 1 = some (17, 1) := by kernel_rfl
@[go_sem] theorem fo_79_2 : fOff Try.prog 79 2 = some 2 := by kernel_rfl
@[go_sem] theorem ft_79_2 : fTy Try.prog 79 2 = some (17, 2) := by kernel_rfl
@[go_sem] theorem fo_79_3 : fOff Try.prog 79 3 = some 3 := by kernel_rfl
@[go_sem] theorem ft_79_3 : fTy Try.prog 79 3 = some (9, 3) := by kernel_rfl
@[go_sem] theorem pl_79 : places Try.prog 79 = some [(0, 1), (1, 1), (2, 1), (3, 1)] := by kernel_rfl
@[go_sem] theorem isl_79 : isSliceT Try.prog 79 = false := by kernel_rfl
@[go_sem] theorem ist_79 : isStrT Try.prog 79 = false := by kernel_rfl
@[go_sem] theorem isp_79 : isPtrT Try.prog 79 = false := by kernel_rfl
@[go_sem] theorem isb_79 : isBoolT Try.prog 79 = false := by kernel_rfl
@[go_sem] theorem isi_79 : isIfaceT Try.prog 79 = false := by kernel_rfl
@[go_sem] theorem isn_79 : isIntT Try.prog 79 = none := by kernel_rfl
@[go_sem] theorem by_79 : bytesT Try.prog 79 = 40 := by kernel_rfl
@[go_sem] theorem sz_80 : szOf Try.prog 80 = some 0 := by kernel_rfl
@[go_sem] theorem ag_80 : isAggT Try.prog 80 = some true := by kernel_rfl
@[go_sem] theorem ze_80 : zeroL Try.prog 80 = some [] := by kernel_rfl
@[go_sem] theorem isl_80 : isSliceT Try.prog 80 = false := by kernel_rfl
@[go_sem] theorem ist_80 : isStrT Try.prog 80 = false := by kernel_rfl
@[go_sem] theorem isp_80 : isPtrT Try.prog 80 = false := by kernel_rfl
@[go_sem] theorem isb_80 : isBoolT Try.prog 80 = false := by kernel_rfl
@[go_sem] theorem isi_80 : isIfaceT Try.prog 80 = false := by kernel_rfl
@[go_sem] theorem isn_80 : isIntT Try.prog 80 = none := by kernel_rfl
@[go_sem] theorem by_80 : bytesT Try.prog 80 = 0 := by kernel_rfl
@[go_sem] theorem sz_81 : szOf Try.prog 81 = some 0 := by kernel_rfl
@[go_sem] theorem ag_81 : isAggT Try.prog 81 = some true := by kernel_rfl
@[go_sem] theorem ze_81 : zeroL Try.prog 81 = some [] := by kernel_rfl
@[go_sem] theorem ft_81_0 : fTy Try.prog 81 0 = some (80, 0) := by kernel_rfl
@[go_sem] theorem pl_81 : places Try.prog 81 = some [(0, 0)] := by kernel_rfl
@[go_sem] theorem isl_81 : isSliceT Try.prog 81 = false := by kernel_rfl
@[go_sem] theorem ist_81 : isStrT Try.prog 81 = false := by kernel_rfl
@[go_sem] theorem isp_81 : isPtrT Try.prog 81 = false := by kernel_rfl
@[go_sem] theorem isb_81 : isBoolT Try.prog 81 = false := by kernel_rfl
@[go_sem] theorem isi_81 : isIfaceT Try.prog 81 = false := by kernel_rfl
@[go_sem] theorem isn_81 : isIntT Try.prog 81 = none := by kernel_rfl
@[go_sem] theorem by_81 : bytesT Try.prog 81 = 0 := by kernel_rfl
@[go_sem] theorem sz_82 : szOf Try.prog 82 = some 0 := by kernel_rfl
@[go_sem] theorem ag_82 : isAggT Try.prog 82 = some true := by kernel_rfl
@[go_sem] theorem ze_82 : zeroL Try.prog 82 = some [] := by kernel_rfl
@[go_sem] theorem ft_82_0 : fTy Try.prog 82 0 = some (80, 0) := by kernel_rfl
@[go_sem] theorem pl_82 : places Try.prog 82 = some [(0, 0)] := by kernel_rfl
@[go_sem] theorem isl_82 : isSliceT Try.prog 82 = false := by kernel_rfl
@[go_sem] theorem ist_82 : isStrT Try.prog 82 = false := by kernel_rfl
@[go_sem] theorem isp_82 : isPtrT Try.prog 82 = false := by kernel_rfl
@[go_sem] theorem isb_82 : isBoolT Try.prog 82 = false := by kernel_rfl
@[go_sem] theorem isi_82 : isIfaceT Try.prog 82 = false := by kernel_rfl
@[go_sem] theorem isn_82 : isIntT Try.prog 82 = none := by kernel_rfl
@[go_sem] theorem by_82 : bytesT Try.prog 82 = 0 := by kernel_rfl
@[go_sem] theorem sz_83 : szOf Try.prog 83 = some 1 := by kernel_rfl
@[go_sem] theorem ag_83 : isAggT Try.prog 83 = some false := by kernel_rfl
@[go_sem] theorem ze_83 : zeroL Try.prog 83 = some [.int .u32 0] := by kernel_rfl
@[go_sem] theorem isl_83 : isSliceT Try.prog 83 = false := by kernel_rfl
@[go_sem] theorem ist_83 : isStrT Try.prog 83 = false := by kernel_rfl
@[go_sem] theorem isp_83 : isPtrT Try.prog 83 = false := by kernel_rfl
@[go_sem] theorem isb_83 : isBoolT Try.prog 83 = false := by kernel_rfl
@[go_sem] theorem isi_83 : isIfaceT Try.prog 83 = false := by kernel_rfl
@[go_sem] theorem isn_83 : isIntT Try.prog 83 = some .u32 := by kernel_rfl
@[go_sem] theorem by_83 : bytesT Try.prog 83 = 4 := by kernel_rfl
@[go_sem] theorem sz_84 : szOf Try.prog 84 = some 1 := by kernel_rfl
@[go_sem] theorem ag_84 : isAggT Try.prog 84 = some false := by kernel_rfl
@[go_sem] theorem ze_84 : zeroL Try.prog 84 = some [.int .u8 0] := by kernel_rfl
@[go_sem] theorem isl_84 : isSliceT Try.prog 84 = false := by kernel_rfl
@[go_sem] theorem ist_84 : isStrT Try.prog 84 = false := by kernel_rfl
@[go_sem] theorem isp_84 : isPtrT Try.prog 84 = false := by kernel_rfl
@[go_sem] theorem isb_84 : isBoolT Try.prog 84 = false := by kernel_rfl
@[go_sem] theorem isi_84 : isIfaceT Try.prog 84 = false := by kernel_rfl
@[go_sem] theorem isn_84 : isIntT Try.prog 84 = some .u8 := by kernel_rfl
@[go_sem] theorem by_84 : bytesT Try.prog 84 = 1 := by kernel_rfl
@[go_sem] theorem sz_85 : szOf Try.prog 85 = some 1 := by kernel_rfl
@[go_sem] theorem ag_85 : isAggT Try.prog 85 = some false := by kernel_rfl
@[go_sem] theorem ze_85 : zeroL Try.prog 85 = some [.int .u8 0] := by kernel_rfl
@[go_sem] theorem isl_85 : isSliceT Try.prog 85 = false := by kernel_rfl
@[go_sem] theorem ist_85 : isStrT Try.prog 85 = false := by kernel_rfl
@[go_sem] theorem isp_85 : isPtrT Try.prog 85 = false := by kernel_rfl
@[go_sem] theorem isb_85 : isBoolT Try.prog 85 = false := by kernel_rfl
@[go_sem] theorem isi_85 : isIfaceT Try.prog 85 = false := by kernel_rfl
@[go_sem] theorem isn_85 : isIntT Try.prog 85 = some .u8 := by kernel_rfl
@[go_sem] theorem by_85 : bytesT Try.prog 85 = 1 := by kernel_rfl
@[go_sem] theorem sz_86 : szOf Try.prog 86 = some 1 := by kernel_rfl
@[go_sem] theorem ag_86 : isAggT Try.prog 86 = some false := by kernel_rfl
@[go_sem] theorem ze_86 : zeroL Try.prog 86 = some [.nilFunc] := by kernel_rfl
@[go_sem] theorem isl_86 : isSliceT Try.prog 86 = false := by kernel_rfl
@[go_sem] theorem ist_86 : isStrT Try.prog 86 = false := by kernel_rfl
@[go_sem] theorem isp_86 : isPtrT Try.prog 86 = false := by kernel_rfl
@[go_sem] theorem isb_86 : isBoolT Try.prog 86 = false := by kernel_rfl
@[go_sem] theorem isi_86 : isIfaceT Try.prog 86 = false := by kernel_rfl
@[go_sem] theorem isn_86 : isIntT Try.prog 86 = none := by kernel_rfl
@[go_sem] theorem by_86 : bytesT Try.prog 86 = 8 := by kernel_rfl
@[go_sem] theorem sz_87 : szOf Try.prog 87 = some 1 := by kernel_rfl
@[go_sem] theorem ag_87 : isAggT Try.prog 87 = some false := by kernel_rfl
@[go_sem] theorem ze_87 : zeroL Try.prog 87 = some [.pointer none] := by kernel_rfl
@[go_sem] theorem isl_87 : isSliceT Try.prog 87 = false := by kernel_rfl
@[go_sem] theorem ist_87 : isStrT Try.prog 87 = false := by kernel_rfl
@[go_sem] theorem isp_87 : isPtrT Try.prog 87 = true := by kernel_rfl
@[go_sem] theorem isb_87 : isBoolT Try.prog 87 = false := by kernel_rfl
@[go_sem] theorem isi_87 : isIfaceT Try.prog 87 = false := by kernel_rfl
@[go_sem] theorem isn_87 : isIntT Try.prog 87 = none := by kernel_rfl
@[go_sem] theorem by_87 : bytesT Try.prog 87 = 8 := by kernel_rfl
@[go_sem] theorem sz_88 : szOf Try.prog 88 = some 1 := by kernel_rfl
@[go_sem] theorem ag_88 : isAggT Try.prog 88 = some false := by kernel_rfl
@[go_sem] theorem ze_88 : zeroL Try.prog 88 = some [.int .i32 0] := by kernel_rfl
@[go_sem] theorem isl_88 : isSliceT Try.prog 88 = false := by kernel_rfl
@[go_sem] theorem ist_88 : isStrT Try.prog 88 = false := by kernel_rfl
@[go_sem] theorem isp_88 : isPtrT Try.prog 88 = false := by kernel_rfl
@[go_sem] theorem isb_88 : isBoolT Try.prog 88 = false := by kernel_rfl
@[go_sem] theorem isi_88 : isIfaceT Try.prog 88 = false := by kernel_rfl
@[go_sem] theorem isn_88 : isIntT Try.prog 88 = some .i32 := by kernel_rfl
@[go_sem] theorem by_88 : bytesT Try.prog 88 = 4 := by kernel_rfl
@[go_sem] theorem sz_89 : szOf Try.prog 89 = some 1 := by kernel_rfl
@[go_sem] theorem ag_89 : isAggT Try.prog 89 = some false := by kernel_rfl
@[go_sem] theorem ze_89 : zeroL Try.prog 89 = some [.int .i32 0] := by kernel_rfl
@[go_sem] theorem isl_89 : isSliceT Try.prog 89 = false := by kernel_rfl
@[go_sem] theorem ist_89 : isStrT Try.prog 89 = false := by kernel_rfl
@[go_sem] theorem isp_89 : isPtrT Try.prog 89 = false := by kernel_rfl
@[go_sem] theorem isb_89 : isBoolT Try.prog 89 = false := by kernel_rfl
@[go_sem] theorem isi_89 : isIfaceT Try.prog 89 = false := by kernel_rfl
@[go_sem] theorem isn_89 : isIntT Try.prog 89 = some .i32 := by kernel_rfl
@[go_sem] theorem by_89 : bytesT Try.prog 89 = 4 := by kernel_rfl
@[go_sem] theorem sz_90 : szOf Try.prog 90 = some 11 := by kernel_rfl
@[go_sem] theorem ag_90 : isAggT Try.prog 90 = some true := by kernel_rfl
@[go_sem] theorem ze_90 : zeroL Try.prog 90 = some [.int .u64 0, .int .u64 0, .int .u32 0, .int .u8 0, .int .u8 0, .int .u8 0, .int .u8 0, .nilFunc, .pointer none, .int .i32 0, .int .i32 0] := by kernel_rfl
@[go_sem] theorem fo_90_0 : fOff Try.prog 90 0 = some 0 := by kernel_rfl
@[go_sem] theorem ft_90_0 : fTy Try.prog 90 0 = some (12, 0) := by kernel_rfl
@[go_sem] theorem fo_90_1 : fOff Try.prog 90 1 = some 1 := by kernel_rfl
@[go_sem] theorem ft_90_1 : fTy Try.prog 90 1 = some (12, 1) := by kernel_rfl
@[go_sem] theorem fo_90_2 : fOff Try.prog 90 2 = some 2 := by kernel_rfl
@[go_sem] theorem ft_90_2 : fTy Try.prog 90 2 = some (83, 2) := by kernel_rfl
@[go_sem] theorem fo_90_3 : fOff Try.prog 90 3 = some 3 := by kernel_rfl
@[go_sem] theorem ft_90_3 : fTy Try.prog 90 3 = some (84, 3) := by kernel_rfl
@[go_sem] theorem fo_90_4 : fOff Try.prog 90 4 = some 4 := by kernel_rfl
@[go_sem] theorem ft_90_4 : fTy Try.prog 90 4 = some (5, 4) := by kernel_rfl
@[go_sem] theorem fo_90_5 : fOff Try.prog 90 5 = some 5 := by kernel_rfl
@[go_sem] theorem ft_90_5 : fTy Try.prog 90 5 = some (5, 5) := by kernel_rfl
@[go_sem] theorem fo_90_6 : fOff Try.prog 90 6 = some 6 := by kernel_rfl
@[go_sem] theorem ft_90_6 : fTy Try.prog 90 6 = some (85, 6) := by kernel_rfl
@[go_sem] theorem fo_90_7 : fOff Try.prog 90 7 = some 7 := by kernel_rfl
@[go_sem] theorem ft_90_7 : fTy Try.prog 90 7 = some (86, 7) := by kernel_rfl
@[go_sem] theorem fo_90_8 : fOff Try.prog 90 8 = some 8 := by kernel_rfl
@[go_sem] theorem ft_90_8 : fTy Try.prog 90 8 = some (87, 8) := by kernel_rfl
@[go_sem] theorem fo_90_9 : fOff Try.prog 90 9 = some 9 := by kernel_rfl
@[go_sem] theorem ft_90_9 : fTy Try.prog 90 9 = some (88, 9) := by kernel_rfl
@[go_sem] theorem fo_90_10 : fOff Try.prog 90 10 = some 10 := by kernel_rfl
@[go_sem] theorem ft_90_10 : fTy Try.prog 90 10 = some (89, 10) := by kernel_rfl
@[go_sem] theorem pl_90 : places Try.prog 90 = some [(0, 1), (1, 1), (2, 1), (3, 1), (4, 1), (5, 1), (6, 1), (7, 1), (8, 1), (9, 1), (10, 1)] := by kernel_rfl
@[go_sem] theorem isl_90 : isSliceT Try.prog 90 = false := by kernel_rfl
@[go_sem] theorem ist_90 : isStrT Try.prog 90 = false := by kernel_rfl
@[go_sem] theorem isp_90 : isPtrT Try.prog 90 = false := by kernel_rfl
@[go_sem] theorem isb_90 : isBoolT Try.prog 90 = false := by kernel_rfl
@[go_sem] theorem isi_90 : isIfaceT Try.prog 90 = false := by kernel_rfl
@[go_sem] theorem isn_90 : isIntT Try.prog 90 = none := by kernel_rfl
@[go_sem] theorem by_90 : bytesT Try.prog 90 = 48 := by kernel_rfl
@[go_sem] theorem sz_91 : szOf Try.prog 91 = some 11 := by kernel_rfl
@[go_sem] theorem ag_91 : isAggT Try.prog 91 = some true := by kernel_rfl
@[go_sem] theorem ze_91 : zeroL Try.prog 91 = some [.int .u64 0, .int .u64 0, .int .u32 0, .int .u8 0, .int .u8 0, .int .u8 0, .int .u8 0, .nilFunc, .pointer none, .int .i32 0, .int .i32 0] := by kernel_rfl
@[go_sem] theorem fo_91_0 : fOff Try.prog 91 0 = some 0 := by kernel_rfl
@[go_sem] theorem ft_91_0 : fTy Try.prog 91 0 = some (12, 0) := by kernel_rfl
@[go_sem] theorem fo_91_1 : fOff Try.prog 91 1 = some 1 := by kernel_rfl
@[go_sem] theorem ft_91_1 : fTy Try.prog 91 1 = some (12, 1) := by kernel_rfl
@[go_sem] theorem fo_91_2 : fOff Try.prog 91 2 = some 2 := by kernel_rfl
@[go_sem] theorem ft_91_2 : fTy Try.prog 91 2 = some (83, 2) := by kernel_rfl
@[go_sem] theorem fo_91_3 : fOff Try.prog 91 3 = some 3 := by kernel_rfl
@[go_sem] theorem ft_91_3 : fTy Try.prog 91 3 = some (84, 3) := by kernel_rfl
@[go_sem] theorem fo_91_4 : fOff Try.prog 91 4 = some 4 := by kernel_rfl
@[go_sem] theorem ft_91_4 : fTy Try.prog 91 4 = some (5, 4) := by kernel_rfl
@[go_sem] theorem fo_91_5 : fOff Try.prog 91 5 = some 5 := by kernel_rfl
@[go_sem] theorem ft_91_5 : fTy Try.prog 91 5 = some (5, 5) := by kernel_rfl
@[go_sem] theorem fo_91_6 : fOff Try.prog 91 6 = some 6 := by kernel_rfl
@[go_sem] theorem ft_91_6 : fTy Try.prog 91 6 = some (85, 6) := by kernel_rfl
@[go_sem] theorem fo_91_7 : fOff Try.prog 91 7 = some 7 := by kernel_rfl
@[go_sem] theorem ft_91_7 : fTy Try.prog 91 7 = some (86, 7) := by kernel_rfl
@[go_sem] theorem fo_91_8 : fOff Try.prog 91 8 = some 8 := by kernel_rfl
@[go_sem] theorem ft_91_8 : fTy Try.prog 91 8 = some (87, 8) := by kernel_rfl
@[go_sem] theorem fo_91_9 : fOff Try.prog 91 9 = some 9 := by kernel_rfl
@[go_sem] theorem ft_91_9 : fTy Try.prog 91 9 = some (88, 9) := by kernel_rfl
@[go_sem] theorem fo_91_10 : fOff Try.prog 91 10 = some 10 := by kernel_rfl
@[go_sem] theorem ft_91_10 : fTy Try.prog 91 10 = some (89, 10) := by kernel_rfl
@[go_sem] theorem pl_91 : places Try.prog 91 = some [(0, 1), (1, 1), (2, 1), (3, 1), (4, 1), (5, 1), (6, 1), (7, 1), (8, 1), (9, 1), (10, 1)] := by kernel_rfl
@[go_sem] theorem isl_91 : isSliceT Try.prog 91 = false := by kernel_rfl
@[go_sem] theorem ist_91 : isStrT Try.prog 91 = false := by kernel_rfl
@[go_sem] theorem isp_91 : isPtrT Try.prog 91 = false := by kernel_rfl
@[go_sem] theorem isb_91 : isBoolT Try.prog 91 = false := by kernel_rfl
@[go_sem] theorem isi_91 : isIfaceT Try.prog 91 = false := by kernel_rfl
@[go_sem] theorem isn_91 : isIntT Try.prog 91 = none := by kernel_rfl
@[go_sem] theorem by_91 : bytesT Try.prog 91 = 48 := by kernel_rfl
@[go_sem] theorem sz_92 : szOf Try.prog 92 = some 1 := by kernel_rfl
@[go_sem] theorem ag_92 : isAggT Try.prog 92 = some false := by kernel_rfl
@[go_sem] theorem isl_92 : isSliceT Try.prog 92 = false := by kernel_rfl
@[go_sem] theorem ist_92 : isStrT Try.prog 92 = false := by kernel_rfl
@[go_sem] theorem isp_92 : isPtrT Try.prog 92 = false := by kernel_rfl
@[go_sem] theorem isb_92 : isBoolT Try.prog 92 = false := by kernel_rfl
@[go_sem] theorem isi_92 : isIfaceT Try.prog 92 = false := by kernel_rfl
@[go_sem] theorem isn_92 : isIntT Try.prog 92 = none := by kernel_rfl
@[go_sem] theorem by_92 : bytesT Try.prog 92 = 8 := by kernel_rfl
@[go_sem] theorem cb_2 : callable Try.prog 2 = true := by kernel_rfl
@[go_sem] theorem cb_3 : callable Try.prog 3 = true := by kernel_rfl
@[go_sem] theorem cb_4 : callable Try.prog 4 = true := by kernel_rfl
@[go_sem] theorem cb_5 : callable Try.prog 5 = true := by kernel_rfl
@[go_sem] theorem cb_6 : callable Try.prog 6 = true := by kernel_rfl
@[go_sem] theorem cb_7 : callable Try.prog 7 = true := by kernel_rfl
@[go_sem] theorem cb_8 : callable Try.prog 8 = true := by kernel_rfl
@[go_sem] theorem cb_9 : callable Try.prog 9 = true := by kernel_rfl
@[go_sem] theorem cb_10 : callable Try.prog 10 = true := by kernel_rfl
@[go_sem] theorem cb_11 : callable Try.prog 11 = true := by kernel_rfl
@[go_sem] theorem cb_12 : callable Try.prog 12 = true := by kernel_rfl
@[go_sem] theorem cb_13 : callable Try.prog 13 = true := by kernel_rfl
@[go_sem] theorem cb_14 : callable Try.prog 14 = true := by kernel_rfl
@[go_sem] theorem cb_15 : callable Try.prog 15 = true := by kernel_rfl
@[go_sem] theorem cb_16 : callable Try.prog 16 = true := by kernel_rfl
@[go_sem] theorem cb_17 : callable Try.prog 17 = true := by kernel_rfl
@[go_sem] theorem cb_18 : callable Try.prog 18 = true := by kernel_rfl
@[go_sem] theorem cb_19 : callable Try.prog 19 = true := by kernel_rfl
@[go_sem] theorem cb_20 : callable Try.prog 20 = true := by kernel_rfl
@[go_sem] theorem cb_21 : callable Try.prog 21 = true := by kernel_rfl
@[go_sem] theorem cb_22 : callable Try.prog 22 = true := by kernel_rfl
@[go_sem] theorem cb_23 : callable Try.prog 23 = true := by kernel_rfl
@[go_sem] theorem cb_24 : callable Try.prog 24 = true := by kernel_rfl
@[go_sem] theorem cb_25 : callable Try.prog 25 = true := by kernel_rfl
@[go_sem] theorem cb_26 : callable Try.prog 26 = true := by kernel_rfl
@[go_sem] theorem cb_27 : callable Try.prog 27 = true := by kernel_rfl
@[go_sem] theorem cb_28 : callable Try.prog 28 = true := by kernel_rfl
@[go_sem] theorem cb_29 : callable Try.prog 29 = true := by kernel_rfl
@[go_sem] theorem cb_31 : callable Try.prog 31 = true := by kernel_rfl
@[go_sem] theorem cb_32 : callable Try.prog 32 = true := by kernel_rfl
@[go_sem] theorem cb_33 : callable Try.prog 33 = true := by kernel_rfl
@[go_sem] theorem cb_34 : callable Try.prog 34 = true := by kernel_rfl
@[go_sem] theorem cb_36 : callable Try.prog 36 = true := by kernel_rfl
@[go_sem] theorem cb_37 : callable Try.prog 37 = true := by kernel_rfl
@[go_sem] theorem cb_38 : callable Try.prog 38 = true := by kernel_rfl
@[go_sem] theorem cb_39 : callable Try.prog 39 = true := by kernel_rfl
@[go_sem] theorem cb_40 : callable Try.prog 40 = true := by kernel_rfl
@[go_sem] theorem cb_41 : callable Try.prog 41 = true := by kernel_rfl
@[go_sem] theorem cb_42 : callable Try.prog 42 = true := by kernel_rfl
theorem mixed : Try.prog.follows .mixedOrders = true := by kernel_rfl
end Go.Proofs.Ytemapkbfpkdddaa
