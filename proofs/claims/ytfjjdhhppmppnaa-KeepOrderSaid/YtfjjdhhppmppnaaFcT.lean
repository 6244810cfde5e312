/- The facts on the types and functions of the translation, as the kernel reckons them. No conditions. -/
import Derived.Test.YtfjjdhhppmppnaaFcJ
import Derived.Test.YtfjjdhhppmppnaaProg
import Derived.KernelRfl
set_option linter.all false
namespace Go.Proofs.Ytfjjdhhppmppnaa
open Go Go.Fc
@[go_sem] theorem sz_1 : szOf Try.prog 1 = some 1 := by kernel_rfl
@[go_sem] theorem ag_1 : isAggT Try.prog 1 = some false := by kernel_rfl
@[go_sem] theorem ze_1 : zeroL Try.prog 1 = some [.nilFunc] := by kernel_rfl
@[go_sem] theorem isl_1 : isSliceT Try.prog 1 = false := by kernel_rfl
@[go_sem] theorem ist_1 : isStrT Try.prog 1 = false := by kernel_rfl
@[go_sem] theorem isp_1 : isPtrT Try.prog 1 = false := by kernel_rfl
@[go_sem] theorem isb_1 : isBoolT Try.prog 1 = false := by kernel_rfl
@[go_sem] theorem isi_1 : isIfaceT Try.prog 1 = false := by kernel_rfl
@[go_sem] theorem isn_1 : isIntT Try.prog 1 = none := by kernel_rfl
@[go_sem] theorem by_1 : bytesT Try.prog 1 = 8 := by kernel_rfl
@[go_sem] theorem sz_2 : szOf Try.prog 2 = some 1 := by kernel_rfl
@[go_sem] theorem ag_2 : isAggT Try.prog 2 = some false := by kernel_rfl
@[go_sem] theorem ze_2 : zeroL Try.prog 2 = some [.int .i64 0] := by kernel_rfl
@[go_sem] theorem isl_2 : isSliceT Try.prog 2 = false := by kernel_rfl
@[go_sem] theorem ist_2 : isStrT Try.prog 2 = false := by kernel_rfl
@[go_sem] theorem isp_2 : isPtrT Try.prog 2 = false := by kernel_rfl
@[go_sem] theorem isb_2 : isBoolT Try.prog 2 = false := by kernel_rfl
@[go_sem] theorem isi_2 : isIfaceT Try.prog 2 = false := by kernel_rfl
@[go_sem] theorem isn_2 : isIntT Try.prog 2 = some .i64 := by kernel_rfl
@[go_sem] theorem by_2 : bytesT Try.prog 2 = 8 := by kernel_rfl
@[go_sem] theorem sz_3 : szOf Try.prog 3 = some 1 := by kernel_rfl
@[go_sem] theorem ag_3 : isAggT Try.prog 3 = some false := by kernel_rfl
@[go_sem] theorem ze_3 : zeroL Try.prog 3 = some [.int .i64 0] := by kernel_rfl
@[go_sem] theorem isl_3 : isSliceT Try.prog 3 = false := by kernel_rfl
@[go_sem] theorem ist_3 : isStrT Try.prog 3 = false := by kernel_rfl
@[go_sem] theorem isp_3 : isPtrT Try.prog 3 = false := by kernel_rfl
@[go_sem] theorem isb_3 : isBoolT Try.prog 3 = false := by kernel_rfl
@[go_sem] theorem isi_3 : isIfaceT Try.prog 3 = false := by kernel_rfl
@[go_sem] theorem isn_3 : isIntT Try.prog 3 = some .i64 := by kernel_rfl
@[go_sem] theorem by_3 : bytesT Try.prog 3 = 8 := by kernel_rfl
@[go_sem] theorem sz_4 : szOf Try.prog 4 = some 1 := by kernel_rfl
@[go_sem] theorem ag_4 : isAggT Try.prog 4 = some false := by kernel_rfl
@[go_sem] theorem ze_4 : zeroL Try.prog 4 = some [.bool false] := by kernel_rfl
@[go_sem] theorem isl_4 : isSliceT Try.prog 4 = false := by kernel_rfl
@[go_sem] theorem ist_4 : isStrT Try.prog 4 = false := by kernel_rfl
@[go_sem] theorem isp_4 : isPtrT Try.prog 4 = false := by kernel_rfl
@[go_sem] theorem isb_4 : isBoolT Try.prog 4 = true := by kernel_rfl
@[go_sem] theorem isi_4 : isIfaceT Try.prog 4 = false := by kernel_rfl
@[go_sem] theorem isn_4 : isIntT Try.prog 4 = none := by kernel_rfl
@[go_sem] theorem by_4 : bytesT Try.prog 4 = 1 := by kernel_rfl
@[go_sem] theorem sz_5 : szOf Try.prog 5 = some 1 := by kernel_rfl
@[go_sem] theorem ag_5 : isAggT Try.prog 5 = some false := by kernel_rfl
@[go_sem] theorem ze_5 : zeroL Try.prog 5 = some [.int .u8 0] := by kernel_rfl
@[go_sem] theorem isl_5 : isSliceT Try.prog 5 = false := by kernel_rfl
@[go_sem] theorem ist_5 : isStrT Try.prog 5 = false := by kernel_rfl
@[go_sem] theorem isp_5 : isPtrT Try.prog 5 = false := by kernel_rfl
@[go_sem] theorem isb_5 : isBoolT Try.prog 5 = false := by kernel_rfl
@[go_sem] theorem isi_5 : isIfaceT Try.prog 5 = false := by kernel_rfl
@[go_sem] theorem isn_5 : isIntT Try.prog 5 = some .u8 := by kernel_rfl
@[go_sem] theorem by_5 : bytesT Try.prog 5 = 1 := by kernel_rfl
@[go_sem] theorem sz_6 : szOf Try.prog 6 = some 1 := by kernel_rfl
@[go_sem] theorem ag_6 : isAggT Try.prog 6 = some false := by kernel_rfl
@[go_sem] theorem ze_6 : zeroL Try.prog 6 = some [.int .u8 0] := by kernel_rfl
@[go_sem] theorem isl_6 : isSliceT Try.prog 6 = false := by kernel_rfl
@[go_sem] theorem ist_6 : isStrT Try.prog 6 = false := by kernel_rfl
@[go_sem] theorem isp_6 : isPtrT Try.prog 6 = false := by kernel_rfl
@[go_sem] theorem isb_6 : isBoolT Try.prog 6 = false := by kernel_rfl
@[go_sem] theorem isi_6 : isIfaceT Try.prog 6 = false := by kernel_rfl
@[go_sem] theorem isn_6 : isIntT Try.prog 6 = some .u8 := by kernel_rfl
@[go_sem] theorem by_6 : bytesT Try.prog 6 = 1 := by kernel_rfl
@[go_sem] theorem sz_7 : szOf Try.prog 7 = some 4 := by kernel_rfl
@[go_sem] theorem ag_7 : isAggT Try.prog 7 = some true := by kernel_rfl
@[go_sem] theorem ze_7 : zeroL Try.prog 7 = some [.int .i64 0, .int .i64 0, .bool false, .int .u8 0] := by kernel_rfl
@[go_sem] theorem fo_7_0 : fOff Try.prog 7 0 = some 0 := by kernel_rfl
@[go_sem] theorem ft_7_0 : fTy Try.prog 7 0 = some (2, 0) := by kernel_rfl
@[go_sem] theorem fo_7_1 : fOff Try.prog 7 1 = some 1 := by kernel_rfl
@[go_sem] theorem ft_7_1 : fTy Try.prog 7 1 = some (3, 1) := by kernel_rfl
@[go_sem] theorem fo_7_2 : fOff Try.prog 7 2 = some 2 := by kernel_rfl
@[go_sem] theorem ft_7_2 : fTy Try.prog 7 2 = some (4, 2) := by kernel_rfl
@[go_sem] theorem fo_7_3 : fOff Try.prog 7 3 = some 3 := by kernel_rfl
@[go_sem] theorem ft_7_3 : fTy Try.prog 7 3 = some (6, 3) := by kernel_rfl
@[go_sem] theorem pl_7 : places Try.prog 7 = some [(0, 1), (1, 1), (2, 1), (3, 1)] := by kernel_rfl
@[go_sem] theorem eqk_7 : eqKinds Try.prog 7 = some [.int .i64, .int .i64, .bool, .int .u8] := by kernel_rfl
@[go_sem] theorem isl_7 : isSliceT Try.prog 7 = false := by kernel_rfl
@[go_sem] theorem ist_7 : isStrT Try.prog 7 = false := by kernel_rfl
@[go_sem] theorem isp_7 : isPtrT Try.prog 7 = false := by kernel_rfl
@[go_sem] theorem isb_7 : isBoolT Try.prog 7 = false := by kernel_rfl
@[go_sem] theorem isi_7 : isIfaceT Try.prog 7 = false := by kernel_rfl
@[go_sem] theorem isn_7 : isIntT Try.prog 7 = none := by kernel_rfl
@[go_sem] theorem by_7 : bytesT Try.prog 7 = 24 := by kernel_rfl
@[go_sem] theorem sz_8 : szOf Try.prog 8 = some 4 := by kernel_rfl
@[go_sem] theorem ag_8 : isAggT Try.prog 8 = some true := by kernel_rfl
@[go_sem] theorem ze_8 : zeroL Try.prog 8 = some [.int .i64 0, .int .i64 0, .bool false, .int .u8 0] := by kernel_rfl
@[go_sem] theorem fo_8_0 : fOff Try.prog 8 0 = some 0 := by kernel_rfl
@[go_sem] theorem ft_8_0 : fTy Try.prog 8 0 = some (2, 0) := by kernel_rfl
@[go_sem] theorem fo_8_1 : fOff Try.prog 8 1 = some 1 := by kernel_rfl
@[go_sem] theorem ft_8_1 : fTy Try.prog 8 1 = some (3, 1) := by kernel_rfl
@[go_sem] theorem fo_8_2 : fOff Try.prog 8 2 = some 2 := by kernel_rfl
@[go_sem] theorem ft_8_2 : fTy Try.prog 8 2 = some (4, 2) := by kernel_rfl
@[go_sem] theorem fo_8_3 : fOff Try.prog 8 3 = some 3 := by kernel_rfl
@[go_sem] theorem ft_8_3 : fTy Try.prog 8 3 = some (6, 3) := by kernel_rfl
@[go_sem] theorem pl_8 : places Try.prog 8 = some [(0, 1), (1, 1), (2, 1), (3, 1)] := by kernel_rfl
@[go_sem] theorem isl_8 : isSliceT Try.prog 8 = false := by kernel_rfl
@[go_sem] theorem ist_8 : isStrT Try.prog 8 = false := by kernel_rfl
@[go_sem] theorem isp_8 : isPtrT Try.prog 8 = false := by kernel_rfl
@[go_sem] theorem isb_8 : isBoolT Try.prog 8 = false := by kernel_rfl
@[go_sem] theorem isi_8 : isIfaceT Try.prog 8 = false := by kernel_rfl
@[go_sem] theorem isn_8 : isIntT Try.prog 8 = none := by kernel_rfl
@[go_sem] theorem by_8 : bytesT Try.prog 8 = 24 := by kernel_rfl
@[go_sem] theorem sz_9 : szOf Try.prog 9 = some 1 := by kernel_rfl
@[go_sem] theorem ag_9 : isAggT Try.prog 9 = some false := by kernel_rfl
@[go_sem] theorem ze_9 : zeroL Try.prog 9 = some [.string ⟨#[]⟩] := by kernel_rfl
@[go_sem] theorem isl_9 : isSliceT Try.prog 9 = false := by kernel_rfl
@[go_sem] theorem ist_9 : isStrT Try.prog 9 = true := by kernel_rfl
@[go_sem] theorem isp_9 : isPtrT Try.prog 9 = false := by kernel_rfl
@[go_sem] theorem isb_9 : isBoolT Try.prog 9 = false := by kernel_rfl
@[go_sem] theorem isi_9 : isIfaceT Try.prog 9 = false := by kernel_rfl
@[go_sem] theorem isn_9 : isIntT Try.prog 9 = none := by kernel_rfl
@[go_sem] theorem by_9 : bytesT Try.prog 9 = 16 := by kernel_rfl
@[go_sem] theorem sz_10 : szOf Try.prog 10 = some 1 := by kernel_rfl
@[go_sem] theorem ag_10 : isAggT Try.prog 10 = some false := by kernel_rfl
@[go_sem] theorem ze_10 : zeroL Try.prog 10 = some [.string ⟨#[]⟩] := by kernel_rfl
@[go_sem] theorem isl_10 : isSliceT Try.prog 10 = false := by kernel_rfl
@[go_sem] theorem ist_10 : isStrT Try.prog 10 = true := by kernel_rfl
@[go_sem] theorem isp_10 : isPtrT Try.prog 10 = false := by kernel_rfl
@[go_sem] theorem isb_10 : isBoolT Try.prog 10 = false := by kernel_rfl
@[go_sem] theorem isi_10 : isIfaceT Try.prog 10 = false := by kernel_rfl
@[go_sem] theorem isn_10 : isIntT Try.prog 10 = none := by kernel_rfl
@[go_sem] theorem by_10 : bytesT Try.prog 10 = 16 := by kernel_rfl
@[go_sem] theorem sz_11 : szOf Try.prog 11 = some 1 := by kernel_rfl
@[go_sem] theorem ag_11 : isAggT Try.prog 11 = some false := by kernel_rfl
@[go_sem] theorem ze_11 : zeroL Try.prog 11 = some [.string ⟨#[]⟩] := by kernel_rfl
@[go_sem] theorem isl_11 : isSliceT Try.prog 11 = false := by kernel_rfl
@[go_sem] theorem ist_11 : isStrT Try.prog 11 = true := by kernel_rfl
@[go_sem] theorem isp_11 : isPtrT Try.prog 11 = false := by kernel_rfl
@[go_sem] theorem isb_11 : isBoolT Try.prog 11 = false := by kernel_rfl
@[go_sem] theorem isi_11 : isIfaceT Try.prog 11 = false := by kernel_rfl
@[go_sem] theorem isn_11 : isIntT Try.prog 11 = none := by kernel_rfl
@[go_sem] theorem by_11 : bytesT Try.prog 11 = 16 := by kernel_rfl
@[go_sem] theorem sz_12 : szOf Try.prog 12 = some 1 := by kernel_rfl
@[go_sem] theorem ag_12 : isAggT Try.prog 12 = some false := by kernel_rfl
@[go_sem] theorem ze_12 : zeroL Try.prog 12 = some [.int .u64 0] := by kernel_rfl
@[go_sem] theorem isl_12 : isSliceT Try.prog 12 = false := by kernel_rfl
@[go_sem] theorem ist_12 : isStrT Try.prog 12 = false := by kernel_rfl
@[go_sem] theorem isp_12 : isPtrT Try.prog 12 = false := by kernel_rfl
@[go_sem] theorem isb_12 : isBoolT Try.prog 12 = false := by kernel_rfl
@[go_sem] theorem isi_12 : isIfaceT Try.prog 12 = false := by kernel_rfl
@[go_sem] theorem isn_12 : isIntT Try.prog 12 = some .u64 := by kernel_rfl
@[go_sem] theorem by_12 : bytesT Try.prog 12 = 8 := by kernel_rfl
@[go_sem] theorem sz_13 : szOf Try.prog 13 = some 2 := by kernel_rfl
@[go_sem] theorem ag_13 : isAggT Try.prog 13 = some true := by kernel_rfl
@[go_sem] theorem ze_13 : zeroL Try.prog 13 = some [.string ⟨#[]⟩, .int .u64 0] := by kernel_rfl
@[go_sem] theorem fo_13_0 : fOff Try.prog 13 0 = some 0 := by kernel_rfl
@[go_sem] theorem ft_13_0 : fTy Try.prog 13 0 = some (9, 0) := by kernel_rfl
@[go_sem] theorem fo_13_1 : fOff Try.prog 13 1 = some 1 := by kernel_rfl
@[go_sem] theorem ft_13_1 : fTy Try.prog 13 1 = some (12, 1) := by kernel_rfl
@[go_sem] theorem pl_13 : places Try.prog 13 = some [(0, 1), (1, 1)] := by kernel_rfl
@[go_sem] theorem isl_13 : isSliceT Try.prog 13 = false := by kernel_rfl
@[go_sem] theorem ist_13 : isStrT Try.prog 13 = false := by kernel_rfl
@[go_sem] theorem isp_13 : isPtrT Try.prog 13 = false := by kernel_rfl
@[go_sem] theorem isb_13 : isBoolT Try.prog 13 = false := by kernel_rfl
@[go_sem] theorem isi_13 : isIfaceT Try.prog 13 = false := by kernel_rfl
@[go_sem] theorem isn_13 : isIntT Try.prog 13 = none := by kernel_rfl
@[go_sem] theorem by_13 : bytesT Try.prog 13 = 24 := by kernel_rfl
@[go_sem] theorem sz_14 : szOf Try.prog 14 = some 2 := by kernel_rfl
@[go_sem] theorem ag_14 : isAggT Try.prog 14 = some true := by kernel_rfl
@[go_sem] theorem ze_14 : zeroL Try.prog 14 = some [.string ⟨#[]⟩, .int .u64 0] := by kernel_rfl
@[go_sem] theorem fo_14_0 : fOff Try.prog 14 0 = some 0 := by kernel_rfl
@[go_sem] theorem ft_14_0 : fTy Try.prog 14 0 = some (9, 0) := by kernel_rfl
@[go_sem] theorem fo_14_1 : fOff Try.prog 14 1 = some 1 := by kernel_rfl
@[go_sem] theorem ft_14_1 : fTy Try.prog 14 1 = some (12, 1) := by kernel_rfl
@[go_sem] theorem pl_14 : places Try.prog 14 = some [(0, 1), (1, 1)] := by kernel_rfl
@[go_sem] theorem isl_14 : isSliceT Try.prog 14 = false := by kernel_rfl
@[go_sem] theorem ist_14 : isStrT Try.prog 14 = false := by kernel_rfl
@[go_sem] theorem isp_14 : isPtrT Try.prog 14 = false := by kernel_rfl
@[go_sem] theorem isb_14 : isBoolT Try.prog 14 = false := by kernel_rfl
@[go_sem] theorem isi_14 : isIfaceT Try.prog 14 = false := by kernel_rfl
@[go_sem] theorem isn_14 : isIntT Try.prog 14 = none := by kernel_rfl
@[go_sem] theorem by_14 : bytesT Try.prog 14 = 24 := by kernel_rfl
@[go_sem] theorem sz_15 : szOf Try.prog 15 = some 1 := by kernel_rfl
@[go_sem] theorem ag_15 : isAggT Try.prog 15 = some false := by kernel_rfl
@[go_sem] theorem ze_15 : zeroL Try.prog 15 = some [.pointer none] := by kernel_rfl
@[go_sem] theorem isl_15 : isSliceT Try.prog 15 = false := by kernel_rfl
@[go_sem] theorem ist_15 : isStrT Try.prog 15 = false := by kernel_rfl
@[go_sem] theorem isp_15 : isPtrT Try.prog 15 = true := by kernel_rfl
@[go_sem] theorem isb_15 : isBoolT Try.prog 15 = false := by kernel_rfl
@[go_sem] theorem isi_15 : isIfaceT Try.prog 15 = false := by kernel_rfl
@[go_sem] theorem isn_15 : isIntT Try.prog 15 = none := by kernel_rfl
@[go_sem] theorem by_15 : bytesT Try.prog 15 = 8 := by kernel_rfl
@[go_sem] theorem sz_16 : szOf Try.prog 16 = some 1 := by kernel_rfl
@[go_sem] theorem ag_16 : isAggT Try.prog 16 = some false := by kernel_rfl
@[go_sem] theorem ze_16 : zeroL Try.prog 16 = some [.pointer none] := by kernel_rfl
@[go_sem] theorem isl_16 : isSliceT Try.prog 16 = false := by kernel_rfl
@[go_sem] theorem ist_16 : isStrT Try.prog 16 = false := by kernel_rfl
@[go_sem] theorem isp_16 : isPtrT Try.prog 16 = true := by kernel_rfl
@[go_sem] theorem isb_16 : isBoolT Try.prog 16 = false := by kernel_rfl
@[go_sem] theorem isi_16 : isIfaceT Try.prog 16 = false := by kernel_rfl
@[go_sem] theorem isn_16 : isIntT Try.prog 16 = none := by kernel_rfl
@[go_sem] theorem by_16 : bytesT Try.prog 16 = 8 := by kernel_rfl
@[go_sem] theorem sz_17 : szOf Try.prog 17 = some 1 := by kernel_rfl
@[go_sem] theorem ag_17 : isAggT Try.prog 17 = some false := by kernel_rfl
@[go_sem] theorem ze_17 : zeroL Try.prog 17 = some [.pointer none] := by kernel_rfl
@[go_sem] theorem isl_17 : isSliceT Try.prog 17 = false := by kernel_rfl
@[go_sem] theorem ist_17 : isStrT Try.prog 17 = false := by kernel_rfl
@[go_sem] theorem isp_17 : isPtrT Try.prog 17 = true := by kernel_rfl
@[go_sem] theorem isb_17 : isBoolT Try.prog 17 = false := by kernel_rfl
@[go_sem] theorem isi_17 : isIfaceT Try.prog 17 = false := by kernel_rfl
@[go_sem] theorem isn_17 : isIntT Try.prog 17 = none := by kernel_rfl
@[go_sem] theorem by_17 : bytesT Try.prog 17 = 8 := by kernel_rfl
@[go_sem] theorem sz_18 : szOf Try.prog 18 = some 1 := by kernel_rfl
@[go_sem] theorem ag_18 : isAggT Try.prog 18 = some true := by kernel_rfl
@[go_sem] theorem ze_18 : zeroL Try.prog 18 = some [.pointer none] := by kernel_rfl
@[go_sem] theorem fo_18_0 : fOff Try.prog 18 0 = some 0 := by kernel_rfl
@[go_sem] theorem ft_18_0 : fTy Try.prog 18 0 = some (17, 0) := by kernel_rfl
@[go_sem] theorem pl_18 : places Try.prog 18 = some [(0, 1)] := by kernel_rfl
@[go_sem] theorem isl_18 : isSliceT Try.prog 18 = false := by kernel_rfl
@[go_sem] theorem ist_18 : isStrT Try.prog 18 = false := by kernel_rfl
@[go_sem] theorem isp_18 : isPtrT Try.prog 18 = false := by kernel_rfl
@[go_sem] theorem isb_18 : isBoolT Try.prog 18 = false := by kernel_rfl
@[go_sem] theorem isi_18 : isIfaceT Try.prog 18 = false := by kernel_rfl
@[go_sem] theorem isn_18 : isIntT Try.prog 18 = none := by kernel_rfl
@[go_sem] theorem by_18 : bytesT Try.prog 18 = 8 := by kernel_rfl
@[go_sem] theorem sz_19 : szOf Try.prog 19 = some 1 := by kernel_rfl
@[go_sem] theorem ag_19 : isAggT Try.prog 19 = some true := by kernel_rfl
@[go_sem] theorem ze_19 : zeroL Try.prog 19 = some [.pointer none] := by kernel_rfl
@[go_sem] theorem fo_19_0 : fOff Try.prog 19 0 = some 0 := by kernel_rfl
@[go_sem] theorem ft_19_0 : fTy Try.prog 19 0 = some (17, 0) := by kernel_rfl
@[go_sem] theorem pl_19 : places Try.prog 19 = some [(0, 1)] := by kernel_rfl
@[go_sem] theorem isl_19 : isSliceT Try.prog 19 = false := by kernel_rfl
@[go_sem] theorem ist_19 : isStrT Try.prog 19 = false := by kernel_rfl
@[go_sem] theorem isp_19 : isPtrT Try.prog 19 = false := by kernel_rfl
@[go_sem] theorem isb_19 : isBoolT Try.prog 19 = false := by kernel_rfl
@[go_sem] theorem isi_19 : isIfaceT Try.prog 19 = false := by kernel_rfl
@[go_sem] theorem isn_19 : isIntT Try.prog 19 = none := by kernel_rfl
@[go_sem] theorem by_19 : bytesT Try.prog 19 = 8 := by kernel_rfl
@[go_sem] theorem sz_20 : szOf Try.prog 20 = some 1 := by kernel_rfl
@[go_sem] theorem ag_20 : isAggT Try.prog 20 = some false := by kernel_rfl
@[go_sem] theorem ze_20 : zeroL Try.prog 20 = some [.nilIface] := by kernel_rfl
@[go_sem] theorem isl_20 : isSliceT Try.prog 20 = false := by kernel_rfl
@[go_sem] theorem ist_20 : isStrT Try.prog 20 = false := by kernel_rfl
@[go_sem] theorem isp_20 : isPtrT Try.prog 20 = false := by kernel_rfl
@[go_sem] theorem isb_20 : isBoolT Try.prog 20 = false := by kernel_rfl
@[go_sem] theorem isi_20 : isIfaceT Try.prog 20 = true := by kernel_rfl
@[go_sem] theorem isn_20 : isIntT Try.prog 20 = none := by kernel_rfl
@[go_sem] theorem by_20 : bytesT Try.prog 20 = 16 := by kernel_rfl
@[go_sem] theorem sz_21 : szOf Try.prog 21 = some 1 := by kernel_rfl
@[go_sem] theorem ag_21 : isAggT Try.prog 21 = some false := by kernel_rfl
@[go_sem] theorem ze_21 : zeroL Try.prog 21 = some [.int .i32 0] := by kernel_rfl
@[go_sem] theorem isl_21 : isSliceT Try.prog 21 = false := by kernel_rfl
@[go_sem] theorem ist_21 : isStrT Try.prog 21 = false := by kernel_rfl
@[go_sem] theorem isp_21 : isPtrT Try.prog 21 = false := by kernel_rfl
@[go_sem] theorem isb_21 : isBoolT Try.prog 21 = false := by kernel_rfl
@[go_sem] theorem isi_21 : isIfaceT Try.prog 21 = false := by kernel_rfl
@[go_sem] theorem isn_21 : isIntT Try.prog 21 = some .i32 := by kernel_rfl
@[go_sem] theorem by_21 : bytesT Try.prog 21 = 4 := by kernel_rfl
@[go_sem] theorem sz_22 : szOf Try.prog 22 = some 1 := by kernel_rfl
@[go_sem] theorem ag_22 : isAggT Try.prog 22 = some false := by kernel_rfl
@[go_sem] theorem ze_22 : zeroL Try.prog 22 = some [.slice none 0 0] := by kernel_rfl
@[go_sem] theorem un_22 : Try.prog.underlying 22 = some (.slice 33) := by kernel_rfl
@[go_sem] theorem el_22 : elT Try.prog 22 = some 33 := by kernel_rfl
@[go_sem] theorem es_22 : elSz Try.prog 22 = some 5 := by kernel_rfl
@[go_sem] theorem isl_22 : isSliceT Try.prog 22 = true := by kernel_rfl
@[go_sem] theorem ist_22 : isStrT Try.prog 22 = false := by kernel_rfl
@[go_sem] theorem isp_22 : isPtrT Try.prog 22 = false := by kernel_rfl
@[go_sem] theorem isb_22 : isBoolT Try.prog 22 = false := by kernel_rfl
@[go_sem] theorem isi_22 : isIfaceT Try.prog 22 = false := by kernel_rfl
@[go_sem] theorem isn_22 : isIntT Try.prog 22 = none := by kernel_rfl
@[go_sem] theorem by_22 : bytesT Try.prog 22 = 24 := by kernel_rfl
@[go_sem] theorem sz_23 : szOf Try.prog 23 = some 2 := by kernel_rfl
@[go_sem] theorem ag_23 : isAggT Try.prog 23 = some true := by kernel_rfl
@[go_sem] theorem ze_23 : zeroL Try.prog 23 = some [.slice none 0 0, .int .i64 0] := by kernel_rfl
@[go_sem] theorem fo_23_0 : fOff Try.prog 23 0 = some 0 := by kernel_rfl
@[go_sem] theorem ft_23_0 : fTy Try.prog 23 0 = some (22, 0) := by kernel_rfl
@[go_sem] theorem fo_23_1 : fOff Try.prog 23 1 = some 1 := by kernel_rfl
@[go_sem] theorem ft_23_1 : fTy Try.prog 23 1 = some (3, 1) := by kernel_rfl
@[go_sem] theorem pl_23 : places Try.prog 23 = some [(0, 1), (1, 1)] := by kernel_rfl
@[go_sem] theorem isl_23 : isSliceT Try.prog 23 = false := by kernel_rfl
@[go_sem] theorem ist_23 : isStrT Try.prog 23 = false := by kernel_rfl
@[go_sem] theorem isp_23 : isPtrT Try.prog 23 = false := by kernel_rfl
@[go_sem] theorem isb_23 : isBoolT Try.prog 23 = false := by kernel_rfl
@[go_sem] theorem isi_23 : isIfaceT Try.prog 23 = false := by kernel_rfl
@[go_sem] theorem isn_23 : isIntT Try.prog 23 = none := by kernel_rfl
@[go_sem] theorem by_23 : bytesT Try.prog 23 = 32 := by kernel_rfl
@[go_sem] theorem sz_24 : szOf Try.prog 24 = some 2 := by kernel_rfl
@[go_sem] theorem ag_24 : isAggT Try.prog 24 = some true := by kernel_rfl
@[go_sem] theorem ze_24 : zeroL Try.prog 24 = some [.slice none 0 0, .int .i64 0] := by kernel_rfl
@[go_sem] theorem fo_24_0 : fOff Try.prog 24 0 = some 0 := by kernel_rfl
@[go_sem] theorem ft_24_0 : fTy Try.prog 24 0 = some (22, 0) := by kernel_rfl
@[go_sem] theorem fo_24_1 : fOff Try.prog 24 1 = some 1 := by kernel_rfl
@[go_sem] theorem ft_24_1 : fTy Try.prog 24 1 = some (3, 1) := by kernel_rfl
@[go_sem] theorem pl_24 : places Try.prog 24 = some [(0, 1), (1, 1)] := by kernel_rfl
@[go_sem] theorem isl_24 : isSliceT Try.prog 24 = false := by kernel_rfl
@[go_sem] theorem ist_24 : isStrT Try.prog 24 = false := by kernel_rfl
@[go_sem] theorem isp_24 : isPtrT Try.prog 24 = false := by kernel_rfl
@[go_sem] theorem isb_24 : isBoolT Try.prog 24 = false := by kernel_rfl
@[go_sem] theorem isi_24 : isIfaceT Try.prog 24 = false := by kernel_rfl
@[go_sem] theorem isn_24 : isIntT Try.prog 24 = none := by kernel_rfl
@[go_sem] theorem by_24 : bytesT Try.prog 24 = 32 := by kernel_rfl
@[go_sem] theorem sz_25 : szOf Try.prog 25 = some 1 := by kernel_rfl
@[go_sem] theorem ag_25 : isAggT Try.prog 25 = some false := by kernel_rfl
@[go_sem] theorem ze_25 : zeroL Try.prog 25 = some [.nilFunc] := by kernel_rfl
@[go_sem] theorem isl_25 : isSliceT Try.prog 25 = false := by kernel_rfl
@[go_sem] theorem ist_25 : isStrT Try.prog 25 = false := by kernel_rfl
@[go_sem] theorem isp_25 : isPtrT Try.prog 25 = false := by kernel_rfl
@[go_sem] theorem isb_25 : isBoolT Try.prog 25 = false := by kernel_rfl
@[go_sem] theorem isi_25 : isIfaceT Try.prog 25 = false := by kernel_rfl
@[go_sem] theorem isn_25 : isIntT Try.prog 25 = none := by kernel_rfl
@[go_sem] theorem by_25 : bytesT Try.prog 25 = 8 := by kernel_rfl
@[go_sem] theorem sz_26 : szOf Try.prog 26 = some 1 := by kernel_rfl
@[go_sem] theorem ag_26 : isAggT Try.prog 26 = some false := by kernel_rfl
@[go_sem] theorem ze_26 : zeroL Try.prog 26 = some [.nilFunc] := by kernel_rfl
@[go_sem] theorem isl_26 : isSliceT Try.prog 26 = false := by kernel_rfl
@[go_sem] theorem ist_26 : isStrT Try.prog 26 = false := by kernel_rfl
@[go_sem] theorem isp_26 : isPtrT Try.prog 26 = false := by kernel_rfl
@[go_sem] theorem isb_26 : isBoolT Try.prog 26 = false := by kernel_rfl
@[go_sem] theorem isi_26 : isIfaceT Try.prog 26 = false := by kernel_rfl
@[go_sem] theorem isn_26 : isIntT Try.prog 26 = none := by kernel_rfl
@[go_sem] theorem by_26 : bytesT Try.prog 26 = 8 := by kernel_rfl
@[go_sem] theorem sz_27 : szOf Try.prog 27 = some 1 := by kernel_rfl
@[go_sem] theorem ag_27 : isAggT Try.prog 27 = some false := by kernel_rfl
@[go_sem] theorem ze_27 : zeroL Try.prog 27 = some [.nilFunc] := by kernel_rfl
@[go_sem] theorem isl_27 : isSliceT Try.prog 27 = false := by kernel_rfl
@[go_sem] theorem ist_27 : isStrT Try.prog 27 = false := by kernel_rfl
@[go_sem] theorem isp_27 : isPtrT Try.prog 27 = false := by kernel_rfl
@[go_sem] theorem isb_27 : isBoolT Try.prog 27 = false := by kernel_rfl
@[go_sem] theorem isi_27 : isIfaceT Try.prog 27 = false := by kernel_rfl
@[go_sem] theorem isn_27 : isIntT Try.prog 27 = none := by kernel_rfl
@[go_sem] theorem by_27 : bytesT Try.prog 27 = 8 := by kernel_rfl
@[go_sem] theorem sz_28 : szOf Try.prog 28 = some 1 := by kernel_rfl
@[go_sem] theorem ag_28 : isAggT Try.prog 28 = some false := by kernel_rfl
@[go_sem] theorem ze_28 : zeroL Try.prog 28 = some [.nilFunc] := by kernel_rfl
@[go_sem] theorem isl_28 : isSliceT Try.prog 28 = false := by kernel_rfl
@[go_sem] theorem ist_28 : isStrT Try.prog 28 = false := by kernel_rfl
@[go_sem] theorem isp_28 : isPtrT Try.prog 28 = false := by kernel_rfl
@[go_sem] theorem isb_28 : isBoolT Try.prog 28 = false := by kernel_rfl
@[go_sem] theorem isi_28 : isIfaceT Try.prog 28 = false := by kernel_rfl
@[go_sem] theorem isn_28 : isIntT Try.prog 28 = none := by kernel_rfl
@[go_sem] theorem by_28 : bytesT Try.prog 28 = 8 := by kernel_rfl
@[go_sem] theorem sz_29 : szOf Try.prog 29 = some 1 := by kernel_rfl
@[go_sem] theorem ag_29 : isAggT Try.prog 29 = some false := by kernel_rfl
@[go_sem] theorem ze_29 : zeroL Try.prog 29 = some [.nilFunc] := by kernel_rfl
@[go_sem] theorem isl_29 : isSliceT Try.prog 29 = false := by kernel_rfl
@[go_sem] theorem ist_29 : isStrT Try.prog 29 = false := by kernel_rfl
@[go_sem] theorem isp_29 : isPtrT Try.prog 29 = false := by kernel_rfl
@[go_sem] theorem isb_29 : isBoolT Try.prog 29 = false := by kernel_rfl
@[go_sem] theorem isi_29 : isIfaceT Try.prog 29 = false := by kernel_rfl
@[go_sem] theorem isn_29 : isIntT Try.prog 29 = none := by kernel_rfl
@[go_sem] theorem by_29 : bytesT Try.prog 29 = 8 := by kernel_rfl
@[go_sem] theorem sz_30 : szOf Try.prog 30 = some 3 := by kernel_rfl
@[go_sem] theorem ag_30 : isAggT Try.prog 30 = some true := by kernel_rfl
@[go_sem] theorem ze_30 : zeroL Try.prog 30 = some [.int .i64 0, .int .i64 0, .string ⟨#[]⟩] := by kernel_rfl
@[go_sem] theorem fo_30_0 : fOff Try.prog 30 0 = some 0 := by kernel_rfl
@[go_sem] theorem ft_30_0 : fTy Try.prog 30 0 = some (3, 0) := by kernel_rfl
@[go_sem] theorem fo_30_1 : fOff Try.prog 30 1 = some 1 := by kernel_rfl
@[go_sem] theorem ft_30_1 : fTy Try.prog 30 1 = some (3, 1) := by kernel_rfl
@[go_sem] theorem fo_30_2 : fOff Try.prog 30 2 = some 2 := by kernel_rfl
@[go_sem] theorem ft_30_2 : fTy Try.prog 30 2 = some (9, 2) := by kernel_rfl
@[go_sem] theorem pl_30 : places Try.prog 30 = some [(0, 1), (1, 1), (2, 1)] := by kernel_rfl
@[go_sem] theorem eqk_30 : eqKinds Try.prog 30 = some [.int .i64, .int .i64, .str] := by kernel_rfl
@[go_sem] theorem isl_30 : isSliceT Try.prog 30 = false := by kernel_rfl
@[go_sem] theorem ist_30 : isStrT Try.prog 30 = false := by kernel_rfl
@[go_sem] theorem isp_30 : isPtrT Try.prog 30 = false := by kernel_rfl
@[go_sem] theorem isb_30 : isBoolT Try.prog 30 = false := by kernel_rfl
@[go_sem] theorem isi_30 : isIfaceT Try.prog 30 = false := by kernel_rfl
@[go_sem] theorem isn_30 : isIntT Try.prog 30 = none := by kernel_rfl
@[go_sem] theorem by_30 : bytesT Try.prog 30 = 32 := by kernel_rfl
@[go_sem] theorem sz_31 : szOf Try.prog 31 = some 3 := by kernel_rfl
@[go_sem] theorem ag_31 : isAggT Try.prog 31 = some true := by kernel_rfl
@[go_sem] theorem ze_31 : zeroL Try.prog 31 = some [.int .i64 0, .int .i64 0, .string ⟨#[]⟩] := by kernel_rfl
@[go_sem] theorem fo_31_0 : fOff Try.prog 31 0 = some 0 := by kernel_rfl
@[go_sem] theorem ft_31_0 : fTy Try.prog 31 0 = some (3, 0) := by kernel_rfl
@[go_sem] theorem fo_31_1 : fOff Try.prog 31 1 = some 1 := by kernel_rfl
@[go_sem] theorem ft_31_1 : fTy Try.prog 31 1 = some (3, 1) := by kernel_rfl
@[go_sem] theorem fo_31_2 : fOff Try.prog 31 2 = some 2 := by kernel_rfl
@[go_sem] theorem ft_31_2 : fTy Try.prog 31 2 = some (9, 2) := by kernel_rfl
@[go_sem] theorem pl_31 : places Try.prog 31 = some [(0, 1), (1, 1), (2, 1)] := by kernel_rfl
@[go_sem] theorem eqk_31 : eqKinds Try.prog 31 = some [.int .i64, .int .i64, .str] := by kernel_rfl
@[go_sem] theorem isl_31 : isSliceT Try.prog 31 = false := by kernel_rfl
@[go_sem] theorem ist_31 : isStrT Try.prog 31 = false := by kernel_rfl
@[go_sem] theorem isp_31 : isPtrT Try.prog 31 = false := by kernel_rfl
@[go_sem] theorem isb_31 : isBoolT Try.prog 31 = false := by kernel_rfl
@[go_sem] theorem isi_31 : isIfaceT Try.prog 31 = false := by kernel_rfl
@[go_sem] theorem isn_31 : isIntT Try.prog 31 = none := by kernel_rfl
@[go_sem] theorem by_31 : bytesT Try.prog 31 = 32 := by kernel_rfl
@[go_sem] theorem sz_32 : szOf Try.prog 32 = some 5 := by kernel_rfl
@[go_sem] theorem ag_32 : isAggT Try.prog 32 = some true := by kernel_rfl
@[go_sem] theorem ze_32 : zeroL Try.prog 32 = some [.int .i64 0, .string ⟨#[]⟩, .int .i64 0, .int .i64 0, .string ⟨#[]⟩] := by kernel_rfl
@[go_sem] theorem fo_32_0 : fOff Try.prog 32 0 = some 0 := by kernel_rfl
@[go_sem] theorem ft_32_0 : fTy Try.prog 32 0 = some (3, 0) := by kernel_rfl
@[go_sem] theorem fo_32_1 : fOff Try.prog 32 1 = some 1 := by kernel_rfl
@[go_sem] theorem ft_32_1 : fTy Try.prog 32 1 = some (9, 1) := by kernel_rfl
@[go_sem] theorem fo_32_2 : fOff Try.prog 32 2 = some 2 := by kernel_rfl
@[go_sem] theorem ft_32_2 : fTy Try.prog 32 2 = some (31, 2) := by kernel_rfl
@[go_sem] theorem pl_32 : places Try.prog 32 = some [(0, 1), (1, 1), (2, 3)] := by kernel_rfl
@[go_sem] theorem eqk_32 : eqKinds Try.prog 32 = some [.int .i64, .str, .int .i64, .int .i64, .str] := by kernel_rfl
@[go_sem] theorem isl_32 : isSliceT Try.prog 32 = false := by kernel_rfl
@[go_sem] theorem ist_32 : isStrT Try.prog 32 = false := by kernel_rfl
@[go_sem] theorem isp_32 : isPtrT Try.prog 32 = false := by kernel_rfl
@[go_sem] theorem isb_32 : isBoolT Try.prog 32 = false := by kernel_rfl
@[go_sem] theorem isi_32 : isIfaceT Try.prog 32 = false := by kernel_rfl
@[go_sem] theorem isn_32 : isIntT Try.prog 32 = none := by kernel_rfl
@[go_sem] theorem by_32 : bytesT Try.prog 32 = 56 := by kernel_rfl
@[go_sem] theorem sz_33 : szOf Try.prog 33 = some 5 := by kernel_rfl
@[go_sem] theorem ag_33 : isAggT Try.prog 33 = some true := by kernel_rfl
@[go_sem] theorem ze_33 : zeroL Try.prog 33 = some [.int .i64 0, .string ⟨#[]⟩, .int .i64 0, .int .i64 0, .string ⟨#[]⟩] := by kernel_rfl
@[go_sem] theorem fo_33_0 : fOff Try.prog 33 0 = some 0 := by kernel_rfl
@[go_sem] theorem ft_33_0 : fTy Try.prog 33 0 = some (3, 0) := by kernel_rfl
@[go_sem] theorem fo_33_1 : fOff Try.prog 33 1 = some 1 := by kernel_rfl
@[go_sem] theorem ft_33_1 : fTy Try.prog 33 1 = some (9, 1) := by kernel_rfl
@[go_sem] theorem fo_33_2 : fOff Try.prog 33 2 = some 2 := by kernel_rfl
@[go_sem] theorem ft_33_2 : fTy Try.prog 33 2 = some (31, 2) := by kernel_rfl
@[go_sem] theorem pl_33 : places Try.prog 33 = some [(0, 1), (1, 1), (2, 3)] := by kernel_rfl
@[go_sem] theorem eqk_33 : eqKinds Try.prog 33 = some [.int .i64, .str, .int .i64, .int .i64, .str] := by kernel_rfl
@[go_sem] theorem isl_33 : isSliceT Try.prog 33 = false := by kernel_rfl
@[go_sem] theorem ist_33 : isStrT Try.prog 33 = false := by kernel_rfl
@[go_sem] theorem isp_33 : isPtrT Try.prog 33 = false := by kernel_rfl
@[go_sem] theorem isb_33 : isBoolT Try.prog 33 = false := by kernel_rfl
@[go_sem] theorem isi_33 : isIfaceT Try.prog 33 = false := by kernel_rfl
@[go_sem] theorem isn_33 : isIntT Try.prog 33 = none := by kernel_rfl
@[go_sem] theorem by_33 : bytesT Try.prog 33 = 56 := by kernel_rfl
@[go_sem] theorem sz_34 : szOf Try.prog 34 = some 1 := by kernel_rfl
@[go_sem] theorem ag_34 : isAggT Try.prog 34 = some false := by kernel_rfl
@[go_sem] theorem ze_34 : zeroL Try.prog 34 = some [.nilFunc] := by kernel_rfl
@[go_sem] theorem isl_34 : isSliceT Try.prog 34 = false := by kernel_rfl
@[go_sem] theorem ist_34 : isStrT Try.prog 34 = false := by kernel_rfl
@[go_sem] theorem isp_34 : isPtrT Try.prog 34 = false := by kernel_rfl
@[go_sem] theorem isb_34 : isBoolT Try.prog 34 = false := by kernel_rfl
@[go_sem] theorem isi_34 : isIfaceT Try.prog 34 = false := by kernel_rfl
@[go_sem] theorem isn_34 : isIntT Try.prog 34 = none := by kernel_rfl
@[go_sem] theorem by_34 : bytesT Try.prog 34 = 8 := by kernel_rfl
@[go_sem] theorem sz_35 : szOf Try.prog 35 = some 1 := by kernel_rfl
@[go_sem] theorem ag_35 : isAggT Try.prog 35 = some false := by kernel_rfl
@[go_sem] theorem ze_35 : zeroL Try.prog 35 = some [.nilFunc] := by kernel_rfl
@[go_sem] theorem isl_35 : isSliceT Try.prog 35 = false := by kernel_rfl
@[go_sem] theorem ist_35 : isStrT Try.prog 35 = false := by kernel_rfl
@[go_sem] theorem isp_35 : isPtrT Try.prog 35 = false := by kernel_rfl
@[go_sem] theorem isb_35 : isBoolT Try.prog 35 = false := by kernel_rfl
@[go_sem] theorem isi_35 : isIfaceT Try.prog 35 = false := by kernel_rfl
@[go_sem] theorem isn_35 : isIntT Try.prog 35 = none := by kernel_rfl
@[go_sem] theorem by_35 : bytesT Try.prog 35 = 8 := by kernel_rfl
@[go_sem] theorem sz_36 : szOf Try.prog 36 = some 1 := by kernel_rfl
@[go_sem] theorem ag_36 : isAggT Try.prog 36 = some false := by kernel_rfl
@[go_sem] theorem ze_36 : zeroL Try.prog 36 = some [.nilFunc] := by kernel_rfl
@[go_sem] theorem isl_36 : isSliceT Try.prog 36 = false := by kernel_rfl
@[go_sem] theorem ist_36 : isStrT Try.prog 36 = false := by kernel_rfl
@[go_sem] theorem isp_36 : isPtrT Try.prog 36 = false := by kernel_rfl
@[go_sem] theorem isb_36 : isBoolT Try.prog 36 = false := by kernel_rfl
@[go_sem] theorem isi_36 : isIfaceT Try.prog 36 = false := by kernel_rfl
@[go_sem] theorem isn_36 : isIntT Try.prog 36 = none := by kernel_rfl
@[go_sem] theorem by_36 : bytesT Try.prog 36 = 8 := by kernel_rfl
@[go_sem] theorem sz_37 : szOf Try.prog 37 = some 7 := by kernel_rfl
@[go_sem] theorem ag_37 : isAggT Try.prog 37 = some true := by kernel_rfl
@[go_sem] theorem ze_37 : zeroL Try.prog 37 = some [.int .i64 0, .int .i64 0, .int .i64 0, .string ⟨#[]⟩, .int .i64 0, .int .i64 0, .string ⟨#[]⟩] := by kernel_rfl
@[go_sem] theorem fo_37_0 : fOff Try.prog 37 0 = some 0 := by kernel_rfl
@[go_sem] theorem ft_37_0 : fTy Try.prog 37 0 = some (3, 0) := by kernel_rfl
@[go_sem] theorem fo_37_1 : fOff Try.prog 37 1 = some 1 := by kernel_rfl
@[go_sem] theorem ft_37_1 : fTy Try.prog 37 1 = some (3, 1) := by kernel_rfl
@[go_sem] theorem fo_37_2 : fOff Try.prog 37 2 = some 2 := by kernel_rfl
@[go_sem] theorem ft_37_2 : fTy Try.prog 37 2 = some (33, 2) := by kernel_rfl
@[go_sem] theorem pl_37 : places Try.prog 37 = some [(0, 1), (1, 1), (2, 5)] := by kernel_rfl
@[go_sem] theorem eqk_37 : eqKinds Try.prog 37 = some [.int .i64, .int .i64, .int .i64, .str, .int .i64, .int .i64, .str] := by kernel_rfl
@[go_sem] theorem isl_37 : isSliceT Try.prog 37 = false := by kernel_rfl
@[go_sem] theorem ist_37 : isStrT Try.prog 37 = false := by kernel_rfl
@[go_sem] theorem isp_37 : isPtrT Try.prog 37 = false := by kernel_rfl
@[go_sem] theorem isb_37 : isBoolT Try.prog 37 = false := by kernel_rfl
@[go_sem] theorem isi_37 : isIfaceT Try.prog 37 = false := by kernel_rfl
@[go_sem] theorem isn_37 : isIntT Try.prog 37 = none := by kernel_rfl
@[go_sem] theorem by_37 : bytesT Try.prog 37 = 72 := by kernel_rfl
@[go_sem] theorem sz_38 : szOf Try.prog 38 = some 7 := by kernel_rfl
@[go_sem] theorem ag_38 : isAggT Try.prog 38 = some true := by kernel_rfl
@[go_sem] theorem ze_38 : zeroL Try.prog 38 = some [.int .i64 0, .int .i64 0, .int .i64 0, .string ⟨#[]⟩, .int .i64 0, .int .i64 0, .string ⟨#[]⟩] := by kernel_rfl
@[go_sem] theorem fo_38_0 : fOff Try.prog 38 0 = some 0 := by kernel_rfl
@[go_sem] theorem ft_38_0 : fTy Try.prog 38 0 = some (3, 0) := by kernel_rfl
@[go_sem] theorem fo_38_1 : fOff Try.prog 38 1 = some 1 := by kernel_rfl
@[go_sem] theorem ft_38_1 : fTy Try.prog 38 1 = some (3, 1) := by kernel_rfl
@[go_sem] theorem fo_38_2 : fOff Try.prog 38 2 = some 2 := by kernel_rfl
@[go_sem] theorem ft_38_2 : fTy Try.prog 38 2 = some (33, 2) := by kernel_rfl
@[go_sem] theorem pl_38 : places Try.prog 38 = some [(0, 1), (1, 1), (2, 5)] := by kernel_rfl
@[go_sem] theorem eqk_38 : eqKinds Try.prog 38 = some [.int .i64, .int .i64, .int .i64, .str, .int .i64, .int .i64, .str] := by kernel_rfl
@[go_sem] theorem isl_38 : isSliceT Try.prog 38 = false := by kernel_rfl
@[go_sem] theorem ist_38 : isStrT Try.prog 38 = false := by kernel_rfl
@[go_sem] theorem isp_38 : isPtrT Try.prog 38 = false := by kernel_rfl
@[go_sem] theorem isb_38 : isBoolT Try.prog 38 = false := by kernel_rfl
@[go_sem] theorem isi_38 : isIfaceT Try.prog 38 = false := by kernel_rfl
@[go_sem] theorem isn_38 : isIntT Try.prog 38 = none := by kernel_rfl
@[go_sem] theorem by_38 : bytesT Try.prog 38 = 72 := by kernel_rfl
@[go_sem] theorem sz_39 : szOf Try.prog 39 = some 1 := by kernel_rfl
@[go_sem] theorem ag_39 : isAggT Try.prog 39 = some false := by kernel_rfl
@[go_sem] theorem ze_39 : zeroL Try.prog 39 = some [.nilFunc] := by kernel_rfl
@[go_sem] theorem isl_39 : isSliceT Try.prog 39 = false := by kernel_rfl
@[go_sem] theorem ist_39 : isStrT Try.prog 39 = false := by kernel_rfl
@[go_sem] theorem isp_39 : isPtrT Try.prog 39 = false := by kernel_rfl
@[go_sem] theorem isb_39 : isBoolT Try.prog 39 = false := by kernel_rfl
@[go_sem] theorem isi_39 : isIfaceT Try.prog 39 = false := by kernel_rfl
@[go_sem] theorem isn_39 : isIntT Try.prog 39 = none := by kernel_rfl
@[go_sem] theorem by_39 : bytesT Try.prog 39 = 8 := by kernel_rfl
@[go_sem] theorem sz_40 : szOf Try.prog 40 = some 1 := by kernel_rfl
@[go_sem] theorem ag_40 : isAggT Try.prog 40 = some false := by kernel_rfl
@[go_sem] theorem ze_40 : zeroL Try.prog 40 = some [.nilFunc] := by kernel_rfl
@[go_sem] theorem isl_40 : isSliceT Try.prog 40 = false := by kernel_rfl
@[go_sem] theorem ist_40 : isStrT Try.prog 40 = false := by kernel_rfl
@[go_sem] theorem isp_40 : isPtrT Try.prog 40 = false := by kernel_rfl
@[go_sem] theorem isb_40 : isBoolT Try.prog 40 = false := by kernel_rfl
@[go_sem] theorem isi_40 : isIfaceT Try.prog 40 = false := by kernel_rfl
@[go_sem] theorem isn_40 : isIntT Try.prog 40 = none := by kernel_rfl
@[go_sem] theorem by_40 : bytesT Try.prog 40 = 8 := by kernel_rfl
@[go_sem] theorem sz_41 : szOf Try.prog 41 = some 1 := by kernel_rfl
@[go_sem] theorem ag_41 : isAggT Try.prog 41 = some false := by kernel_rfl
@[go_sem] theorem ze_41 : zeroL Try.prog 41 = some [.nilFunc] := by kernel_rfl
@[go_sem] theorem isl_41 : isSliceT Try.prog 41 = false := by kernel_rfl
@[go_sem] theorem ist_41 : isStrT Try.prog 41 = false := by kernel_rfl
@[go_sem] theorem isp_41 : isPtrT Try.prog 41 = false := by kernel_rfl
@[go_sem] theorem isb_41 : isBoolT Try.prog 41 = false := by kernel_rfl
@[go_sem] theorem isi_41 : isIfaceT Try.prog 41 = false := by kernel_rfl
@[go_sem] theorem isn_41 : isIntT Try.prog 41 = none := by kernel_rfl
@[go_sem] theorem by_41 : bytesT Try.prog 41 = 8 := by kernel_rfl
@[go_sem] theorem sz_42 : szOf Try.prog 42 = some 1 := by kernel_rfl
@[go_sem] theorem ag_42 : isAggT Try.prog 42 = some false := by kernel_rfl
@[go_sem] theorem ze_42 : zeroL Try.prog 42 = some [.slice none 0 0] := by kernel_rfl
@[go_sem] theorem un_42 : Try.prog.underlying 42 = some (.slice 47) := by kernel_rfl
@[go_sem] theorem el_42 : elT Try.prog 42 = some 47 := by kernel_rfl
@[go_sem] theorem es_42 : elSz Try.prog 42 = some 3 := by kernel_rfl
@[go_sem] theorem isl_42 : isSliceT Try.prog 42 = true := by kernel_rfl
@[go_sem] theorem ist_42 : isStrT Try.prog 42 = false := by kernel_rfl
@[go_sem] theorem isp_42 : isPtrT Try.prog 42 = false := by kernel_rfl
@[go_sem] theorem isb_42 : isBoolT Try.prog 42 = false := by kernel_rfl
@[go_sem] theorem isi_42 : isIfaceT Try.prog 42 = false := by kernel_rfl
@[go_sem] theorem isn_42 : isIntT Try.prog 42 = none := by kernel_rfl
@[go_sem] theorem by_42 : bytesT Try.prog 42 = 24 := by kernel_rfl
@[go_sem] theorem sz_43 : szOf Try.prog 43 = some 1 := by kernel_rfl
@[go_sem] theorem ag_43 : isAggT Try.prog 43 = some false := by kernel_rfl
@[go_sem] theorem ze_43 : zeroL Try.prog 43 = some [.pointer none] := by kernel_rfl
@[go_sem] theorem isl_43 : isSliceT Try.prog 43 = false := by kernel_rfl
@[go_sem] theorem ist_43 : isStrT Try.prog 43 = false := by kernel_rfl
@[go_sem] theorem isp_43 : isPtrT Try.prog 43 = true := by kernel_rfl
@[go_sem] theorem isb_43 : isBoolT Try.prog 43 = false := by kernel_rfl
@[go_sem] theorem isi_43 : isIfaceT Try.prog 43 = false := by kernel_rfl
@[go_sem] theorem isn_43 : isIntT Try.prog 43 = none := by kernel_rfl
@[go_sem] theorem by_43 : bytesT Try.prog 43 = 8 := by kernel_rfl
@[go_sem] theorem sz_44 : szOf Try.prog 44 = some 1 := by kernel_rfl
@[go_sem] theorem ag_44 : isAggT Try.prog 44 = some false := by kernel_rfl
@[go_sem] theorem ze_44 : zeroL Try.prog 44 = some [.nilFunc] := by kernel_rfl
@[go_sem] theorem isl_44 : isSliceT Try.prog 44 = false := by kernel_rfl
@[go_sem] theorem ist_44 : isStrT Try.prog 44 = false := by kernel_rfl
@[go_sem] theorem isp_44 : isPtrT Try.prog 44 = false := by kernel_rfl
@[go_sem] theorem isb_44 : isBoolT Try.prog 44 = false := by kernel_rfl
@[go_sem] theorem isi_44 : isIfaceT Try.prog 44 = false := by kernel_rfl
@[go_sem] theorem isn_44 : isIntT Try.prog 44 = none := by kernel_rfl
@[go_sem] theorem by_44 : bytesT Try.prog 44 = 8 := by kernel_rfl
@[go_sem] theorem sz_45 : szOf Try.prog 45 = some 1 := by kernel_rfl
@[go_sem] theorem ag_45 : isAggT Try.prog 45 = some false := by kernel_rfl
@[go_sem] theorem ze_45 : zeroL Try.prog 45 = some [.nilFunc] := by kernel_rfl
@[go_sem] theorem isl_45 : isSliceT Try.prog 45 = false := by kernel_rfl
@[go_sem] theorem ist_45 : isStrT Try.prog 45 = false := by kernel_rfl
@[go_sem] theorem isp_45 : isPtrT Try.prog 45 = false := by kernel_rfl
@[go_sem] theorem isb_45 : isBoolT Try.prog 45 = false := by kernel_rfl
@[go_sem] theorem isi_45 : isIfaceT Try.prog 45 = false := by kernel_rfl
@[go_sem] theorem isn_45 : isIntT Try.prog 45 = none := by kernel_rfl
@[go_sem] theorem by_45 : bytesT Try.prog 45 = 8 := by kernel_rfl
@[go_sem] theorem sz_46 : szOf Try.prog 46 = some 3 := by kernel_rfl
@[go_sem] theorem ag_46 : isAggT Try.prog 46 = some true := by kernel_rfl
@[go_sem] theorem ze_46 : zeroL Try.prog 46 = some [.int .u8 0, .int .i64 0, .int .i64 0] := by kernel_rfl
@[go_sem] theorem fo_46_0 : fOff Try.prog 46 0 = some 0 := by kernel_rfl
@[go_sem] theorem ft_46_0 : fTy Try.prog 46 0 = some (5, 0) := by kernel_rfl
@[go_sem] theorem fo_46_1 : fOff Try.prog 46 1 = some 1 := by kernel_rfl
@[go_sem] theorem ft_46_1 : fTy Try.prog 46 1 = some (3, 1) := by kernel_rfl
@[go_sem] theorem fo_46_2 : fOff Try.prog 46 2 = some 2 := by kernel_rfl
@[go_sem] theorem ft_46_2 : fTy Try.prog 46 2 = some (3, 2) := by kernel_rfl
@[go_sem] theorem pl_46 : places Try.prog 46 = some [(0, 1), (1, 1), (2, 1)] := by kernel_rfl
@[go_sem] theorem eqk_46 : eqKinds Try.prog 46 = some [.int .u8, .int .i64, .int .i64] := by kernel_rfl
@[go_sem] theorem isl_46 : isSliceT Try.prog 46 = false := by kernel_rfl
@[go_sem] theorem ist_46 : isStrT Try.prog 46 = false := by kernel_rfl
@[go_sem] theorem isp_46 : isPtrT Try.prog 46 = false := by kernel_rfl
@[go_sem] theorem isb_46 : isBoolT Try.prog 46 = false := by kernel_rfl
@[go_sem] theorem isi_46 : isIfaceT Try.prog 46 = false := by kernel_rfl
@[go_sem] theorem isn_46 : isIntT Try.prog 46 = none := by kernel_rfl
@[go_sem] theorem by_46 : bytesT Try.prog 46 = 24 := by kernel_rfl
@[go_sem] theorem sz_47 : szOf Try.prog 47 = some 3 := by kernel_rfl
@[go_sem] theorem ag_47 : isAggT Try.prog 47 = some true := by kernel_rfl
@[go_sem] theorem ze_47 : zeroL Try.prog 47 = some [.int .u8 0, .int .i64 0, .int .i64 0] := by kernel_rfl
@[go_sem] theorem fo_47_0 : fOff Try.prog 47 0 = some 0 := by kernel_rfl
@[go_sem] theorem ft_47_0 : fTy Try.prog 47 0 = some (5, 0) := by kernel_rfl
@[go_sem] theorem fo_47_1 : fOff Try.prog 47 1 = some 1 := by kernel_rfl
@[go_sem] theorem ft_47_1 : fTy Try.prog 47 1 = some (3, 1) := by kernel_rfl
@[go_sem] theorem fo_47_2 : fOff Try.prog 47 2 = some 2 := by kernel_rfl
@[go_sem] theorem ft_47_2 : fTy Try.prog 47 2 = some (3, 2) := by kernel_rfl
@[go_sem] theorem pl_47 : places Try.prog 47 = some [(0, 1), (1, 1), (2, 1)] := by kernel_rfl
@[go_sem] theorem eqk_47 : eqKinds Try.prog 47 = some [.int .u8, .int .i64, .int .i64] := by kernel_rfl
@[go_sem] theorem isl_47 : isSliceT Try.prog 47 = false := by kernel_rfl
@[go_sem] theorem ist_47 : isStrT Try.prog 47 = false := by kernel_rfl
@[go_sem] theorem isp_47 : isPtrT Try.prog 47 = false := by kernel_rfl
@[go_sem] theorem isb_47 : isBoolT Try.prog 47 = false := by kernel_rfl
@[go_sem] theorem isi_47 : isIfaceT Try.prog 47 = false := by kernel_rfl
@[go_sem] theorem isn_47 : isIntT Try.prog 47 = none := by kernel_rfl
@[go_sem] theorem by_47 : bytesT Try.prog 47 = 24 := by kernel_rfl
@[go_sem] theorem sz_48 : szOf Try.prog 48 = some 1 := by kernel_rfl
@[go_sem] theorem ag_48 : isAggT Try.prog 48 = some false := by kernel_rfl
@[go_sem] theorem ze_48 : zeroL Try.prog 48 = some [.slice none 0 0] := by kernel_rfl
@[go_sem] theorem un_48 : Try.prog.underlying 48 = some (.slice 3) := by kernel_rfl
@[go_sem] theorem el_48 : elT Try.prog 48 = some 3 := by kernel_rfl
@[go_sem] theorem es_48 : elSz Try.prog 48 = some 1 := by kernel_rfl
@[go_sem] theorem isl_48 : isSliceT Try.prog 48 = true := by kernel_rfl
@[go_sem] theorem ist_48 : isStrT Try.prog 48 = false := by kernel_rfl
@[go_sem] theorem isp_48 : isPtrT Try.prog 48 = false := by kernel_rfl
@[go_sem] theorem isb_48 : isBoolT Try.prog 48 = false := by kernel_rfl
@[go_sem] theorem isi_48 : isIfaceT Try.prog 48 = false := by kernel_rfl
@[go_sem] theorem isn_48 : isIntT Try.prog 48 = none := by kernel_rfl
@[go_sem] theorem by_48 : bytesT Try.prog 48 = 24 := by kernel_rfl
@[go_sem] theorem sz_49 : szOf Try.prog 49 = some 1 := by kernel_rfl
@[go_sem] theorem ag_49 : isAggT Try.prog 49 = some false := by kernel_rfl
@[go_sem] theorem ze_49 : zeroL Try.prog 49 = some [.nilFunc] := by kernel_rfl
@[go_sem] theorem isl_49 : isSliceT Try.prog 49 = false := by kernel_rfl
@[go_sem] theorem ist_49 : isStrT Try.prog 49 = false := by kernel_rfl
@[go_sem] theorem isp_49 : isPtrT Try.prog 49 = false := by kernel_rfl
@[go_sem] theorem isb_49 : isBoolT Try.prog 49 = false := by kernel_rfl
@[go_sem] theorem isi_49 : isIfaceT Try.prog 49 = false := by kernel_rfl
@[go_sem] theorem isn_49 : isIntT Try.prog 49 = none := by kernel_rfl
@[go_sem] theorem by_49 : bytesT Try.prog 49 = 8 := by kernel_rfl
@[go_sem] theorem sz_51 : szOf Try.prog 51 = some 1 := by kernel_rfl
@[go_sem] theorem ag_51 : isAggT Try.prog 51 = some false := by kernel_rfl
@[go_sem] theorem ze_51 : zeroL Try.prog 51 = some [.nilFunc] := by kernel_rfl
@[go_sem] theorem isl_51 : isSliceT Try.prog 51 = false := by kernel_rfl
@[go_sem] theorem ist_51 : isStrT Try.prog 51 = false := by kernel_rfl
@[go_sem] theorem isp_51 : isPtrT Try.prog 51 = false := by kernel_rfl
@[go_sem] theorem isb_51 : isBoolT Try.prog 51 = false := by kernel_rfl
@[go_sem] theorem isi_51 : isIfaceT Try.prog 51 = false := by kernel_rfl
@[go_sem] theorem isn_51 : isIntT Try.prog 51 = none := by kernel_rfl
@[go_sem] theorem by_51 : bytesT Try.prog 51 = 8 := by kernel_rfl
@[go_sem] theorem sz_52 : szOf Try.prog 52 = some 1 := by kernel_rfl
@[go_sem] theorem ag_52 : isAggT Try.prog 52 = some false := by kernel_rfl
@[go_sem] theorem ze_52 : zeroL Try.prog 52 = some [.nilFunc] := by kernel_rfl
@[go_sem] theorem isl_52 : isSliceT Try.prog 52 = false := by kernel_rfl
@[go_sem] theorem ist_52 : isStrT Try.prog 52 = false := by kernel_rfl
@[go_sem] theorem isp_52 : isPtrT Try.prog 52 = false := by kernel_rfl
@[go_sem] theorem isb_52 : isBoolT Try.prog 52 = false := by kernel_rfl
@[go_sem] theorem isi_52 : isIfaceT Try.prog 52 = false := by kernel_rfl
@[go_sem] theorem isn_52 : isIntT Try.prog 52 = none := by kernel_rfl
@[go_sem] theorem by_52 : bytesT Try.prog 52 = 8 := by kernel_rfl
@[go_sem] theorem sz_53 : szOf Try.prog 53 = some 1 := by kernel_rfl
@[go_sem] theorem ag_53 : isAggT Try.prog 53 = some false := by kernel_rfl
@[go_sem] theorem ze_53 : zeroL Try.prog 53 = some [.nilFunc] := by kernel_rfl
@[go_sem] theorem isl_53 : isSliceT Try.prog 53 = false := by kernel_rfl
@[go_sem] theorem ist_53 : isStrT Try.prog 53 = false := by kernel_rfl
@[go_sem] theorem isp_53 : isPtrT Try.prog 53 = false := by kernel_rfl
@[go_sem] theorem isb_53 : isBoolT Try.prog 53 = false := by kernel_rfl
@[go_sem] theorem isi_53 : isIfaceT Try.prog 53 = false := by kernel_rfl
@[go_sem] theorem isn_53 : isIntT Try.prog 53 = none := by kernel_rfl
@[go_sem] theorem by_53 : bytesT Try.prog 53 = 8 := by kernel_rfl
@[go_sem] theorem sz_54 : szOf Try.prog 54 = some 1 := by kernel_rfl
@[go_sem] theorem ag_54 : isAggT Try.prog 54 = some false := by kernel_rfl
@[go_sem] theorem ze_54 : zeroL Try.prog 54 = some [.pointer none] := by kernel_rfl
@[go_sem] theorem isl_54 : isSliceT Try.prog 54 = false := by kernel_rfl
@[go_sem] theorem ist_54 : isStrT Try.prog 54 = false := by kernel_rfl
@[go_sem] theorem isp_54 : isPtrT Try.prog 54 = true := by kernel_rfl
@[go_sem] theorem isb_54 : isBoolT Try.prog 54 = false := by kernel_rfl
@[go_sem] theorem isi_54 : isIfaceT Try.prog 54 = false := by kernel_rfl
@[go_sem] theorem isn_54 : isIntT Try.prog 54 = none := by kernel_rfl
@[go_sem] theorem by_54 : bytesT Try.prog 54 = 8 := by kernel_rfl
@[go_sem] theorem sz_55 : szOf Try.prog 55 = some 1 := by kernel_rfl
@[go_sem] theorem ag_55 : isAggT Try.prog 55 = some false := by kernel_rfl
@[go_sem] theorem ze_55 : zeroL Try.prog 55 = some [.nilFunc] := by kernel_rfl
@[go_sem] theorem isl_55 : isSliceT Try.prog 55 = false := by kernel_rfl
@[go_sem] theorem ist_55 : isStrT Try.prog 55 = false := by kernel_rfl
@[go_sem] theorem isp_55 : isPtrT Try.prog 55 = false := by kernel_rfl
@[go_sem] theorem isb_55 : isBoolT Try.prog 55 = false := by kernel_rfl
@[go_sem] theorem isi_55 : isIfaceT Try.prog 55 = false := by kernel_rfl
@[go_sem] theorem isn_55 : isIntT Try.prog 55 = none := by kernel_rfl
@[go_sem] theorem by_55 : bytesT Try.prog 55 = 8 := by kernel_rfl
@[go_sem] theorem sz_56 : szOf Try.prog 56 = some 1 := by kernel_rfl
@[go_sem] theorem ag_56 : isAggT Try.prog 56 = some false := by kernel_rfl
@[go_sem] theorem ze_56 : zeroL Try.prog 56 = some [.nilFunc] := by kernel_rfl
@[go_sem] theorem isl_56 : isSliceT Try.prog 56 = false := by kernel_rfl
@[go_sem] theorem ist_56 : isStrT Try.prog 56 = false := by kernel_rfl
@[go_sem] theorem isp_56 : isPtrT Try.prog 56 = false := by kernel_rfl
@[go_sem] theorem isb_56 : isBoolT Try.prog 56 = false := by kernel_rfl
@[go_sem] theorem isi_56 : isIfaceT Try.prog 56 = false := by kernel_rfl
@[go_sem] theorem isn_56 : isIntT Try.prog 56 = none := by kernel_rfl
@[go_sem] theorem by_56 : bytesT Try.prog 56 = 8 := by kernel_rfl
@[go_sem] theorem sz_57 : szOf Try.prog 57 = some 1 := by kernel_rfl
@[go_sem] theorem ag_57 : isAggT Try.prog 57 = some false := by kernel_rfl
@[go_sem] theorem ze_57 : zeroL Try.prog 57 = some [.nilFunc] := by kernel_rfl
@[go_sem] theorem isl_57 : isSliceT Try.prog 57 = false := by kernel_rfl
@[go_sem] theorem ist_57 : isStrT Try.prog 57 = false := by kernel_rfl
@[go_sem] theorem isp_57 : isPtrT Try.prog 57 = false := by kernel_rfl
@[go_sem] theorem isb_57 : isBoolT Try.prog 57 = false := by kernel_rfl
@[go_sem] theorem isi_57 : isIfaceT Try.prog 57 = false := by kernel_rfl
@[go_sem] theorem isn_57 : isIntT Try.prog 57 = none := by kernel_rfl
@[go_sem] theorem by_57 : bytesT Try.prog 57 = 8 := by kernel_rfl
@[go_sem] theorem sz_58 : szOf Try.prog 58 = some 3 := by kernel_rfl
@[go_sem] theorem ag_58 : isAggT Try.prog 58 = some true := by kernel_rfl
@[go_sem] theorem ze_58 : zeroL Try.prog 58 = some [.int .i64 0, .slice none 0 0, .slice none 0 0] := by kernel_rfl
@[go_sem] theorem fo_58_0 : fOff Try.prog 58 0 = some 0 := by kernel_rfl
@[go_sem] theorem ft_58_0 : fTy Try.prog 58 0 = some (3, 0) := by kernel_rfl
@[go_sem] theorem fo_58_1 : fOff Try.prog 58 1 = some 1 := by kernel_rfl
@[go_sem] theorem ft_58_1 : fTy Try.prog 58 1 = some (48, 1) := by kernel_rfl
@[go_sem] theorem fo_58_2 : fOff Try.prog 58 2 = some 2 := by kernel_rfl
@[go_sem] theorem ft_58_2 : fTy Try.prog 58 2 = some (48, 2) := by kernel_rfl
@[go_sem] theorem pl_58 : places Try.prog 58 = some [(0, 1), (1, 1), (2, 1)] := by kernel_rfl
@[go_sem] theorem isl_58 : isSliceT Try.prog 58 = false := by kernel_rfl
@[go_sem] theorem ist_58 : isStrT Try.prog 58 = false := by kernel_rfl
@[go_sem] theorem isp_58 : isPtrT Try.prog 58 = false := by kernel_rfl
@[go_sem] theorem isb_58 : isBoolT Try.prog 58 = false := by kernel_rfl
@[go_sem] theorem isi_58 : isIfaceT Try.prog 58 = false := by kernel_rfl
@[go_sem] theorem isn_58 : isIntT Try.prog 58 = none := by kernel_rfl
@[go_sem] theorem by_58 : bytesT Try.prog 58 = 56 := by kernel_rfl
@[go_sem] theorem sz_59 : szOf Try.prog 59 = some 3 := by kernel_rfl
@[go_sem] theorem ag_59 : isAggT Try.prog 59 = some true := by kernel_rfl
@[go_sem] theorem ze_59 : zeroL Try.prog 59 = some [.int .i64 0, .slice none 0 0, .slice none 0 0] := by kernel_rfl
@[go_sem] theorem fo_59_0 : fOff Try.prog 59 0 = some 0 := by kernel_rfl
@[go_sem] theorem ft_59_0 : fTy Try.prog 59 0 = some (3, 0) := by kernel_rfl
@[go_sem] theorem fo_59_1 : fOff Try.prog 59 1 = some 1 := by kernel_rfl
@[go_sem] theorem ft_59_1 : fTy Try.prog 59 1 = some (48, 1) := by kernel_rfl
@[go_sem] theorem fo_59_2 : fOff Try.prog 59 2 = some 2 := by kernel_rfl
@[go_sem] theorem ft_59_2 : fTy Try.prog 59 2 = some (48, 2) := by kernel_rfl
@[go_sem] theorem pl_59 : places Try.prog 59 = some [(0, 1), (1, 1), (2, 1)] := by kernel_rfl
@[go_sem] theorem isl_59 : isSliceT Try.prog 59 = false := by kernel_rfl
@[go_sem] theorem ist_59 : isStrT Try.prog 59 = false := by kernel_rfl
@[go_sem] theorem isp_59 : isPtrT Try.prog 59 = false := by kernel_rfl
@[go_sem] theorem isb_59 : isBoolT Try.prog 59 = false := by kernel_rfl
@[go_sem] theorem isi_59 : isIfaceT Try.prog 59 = false := by kernel_rfl
@[go_sem] theorem isn_59 : isIntT Try.prog 59 = none := by kernel_rfl
@[go_sem] theorem by_59 : bytesT Try.prog 59 = 56 := by kernel_rfl
@[go_sem] theorem sz_60 : szOf Try.prog 60 = some 1 := by kernel_rfl
@[go_sem] theorem ag_60 : isAggT Try.prog 60 = some false := by kernel_rfl
@[go_sem] theorem ze_60 : zeroL Try.prog 60 = some [.nilFunc] := by kernel_rfl
@[go_sem] theorem isl_60 : isSliceT Try.prog 60 = false := by kernel_rfl
@[go_sem] theorem ist_60 : isStrT Try.prog 60 = false := by kernel_rfl
@[go_sem] theorem isp_60 : isPtrT Try.prog 60 = false := by kernel_rfl
@[go_sem] theorem isb_60 : isBoolT Try.prog 60 = false := by kernel_rfl
@[go_sem] theorem isi_60 : isIfaceT Try.prog 60 = false := by kernel_rfl
@[go_sem] theorem isn_60 : isIntT Try.prog 60 = none := by kernel_rfl
@[go_sem] theorem by_60 : bytesT Try.prog 60 = 8 := by kernel_rfl
@[go_sem] theorem sz_61 : szOf Try.prog 61 = some 1 := by kernel_rfl
@[go_sem] theorem ag_61 : isAggT Try.prog 61 = some false := by kernel_rfl
@[go_sem] theorem ze_61 : zeroL Try.prog 61 = some [.nilFunc] := by kernel_rfl
@[go_sem] theorem isl_61 : isSliceT Try.prog 61 = false := by kernel_rfl
@[go_sem] theorem ist_61 : isStrT Try.prog 61 = false := by kernel_rfl
@[go_sem] theorem isp_61 : isPtrT Try.prog 61 = false := by kernel_rfl
@[go_sem] theorem isb_61 : isBoolT Try.prog 61 = false := by kernel_rfl
@[go_sem] theorem isi_61 : isIfaceT Try.prog 61 = false := by kernel_rfl
@[go_sem] theorem isn_61 : isIntT Try.prog 61 = none := by kernel_rfl
@[go_sem] theorem by_61 : bytesT Try.prog 61 = 8 := by kernel_rfl
@[go_sem] theorem sz_62 : szOf Try.prog 62 = some 1 := by kernel_rfl
@[go_sem] theorem ag_62 : isAggT Try.prog 62 = some false := by kernel_rfl
@[go_sem] theorem ze_62 : zeroL Try.prog 62 = some [.nilFunc] := by kernel_rfl
@[go_sem] theorem isl_62 : isSliceT Try.prog 62 = false := by kernel_rfl
@[go_sem] theorem ist_62 : isStrT Try.prog 62 = false := by kernel_rfl
@[go_sem] theorem isp_62 : isPtrT Try.prog 62 = false := by kernel_rfl
@[go_sem] theorem isb_62 : isBoolT Try.prog 62 = false := by kernel_rfl
@[go_sem] theorem isi_62 : isIfaceT Try.prog 62 = false := by kernel_rfl
@[go_sem] theorem isn_62 : isIntT Try.prog 62 = none := by kernel_rfl
@[go_sem] theorem by_62 : bytesT Try.prog 62 = 8 := by kernel_rfl
@[go_sem] theorem sz_63 : szOf Try.prog 63 = some 1 := by kernel_rfl
@[go_sem] theorem ag_63 : isAggT Try.prog 63 = some false := by kernel_rfl
@[go_sem] theorem ze_63 : zeroL Try.prog 63 = some [.nilFunc] := by kernel_rfl
@[go_sem] theorem isl_63 : isSliceT Try.prog 63 = false := by kernel_rfl
@[go_sem] theorem ist_63 : isStrT Try.prog 63 = false := by kernel_rfl
@[go_sem] theorem isp_63 : isPtrT Try.prog 63 = false := by kernel_rfl
@[go_sem] theorem isb_63 : isBoolT Try.prog 63 = false := by kernel_rfl
@[go_sem] theorem isi_63 : isIfaceT Try.prog 63 = false := by kernel_rfl
@[go_sem] theorem isn_63 : isIntT Try.prog 63 = none := by kernel_rfl
@[go_sem] theorem by_63 : bytesT Try.prog 63 = 8 := by kernel_rfl
@[go_sem] theorem sz_64 : szOf Try.prog 64 = some 1 := by kernel_rfl
@[go_sem] theorem ag_64 : isAggT Try.prog 64 = some false := by kernel_rfl
@[go_sem] theorem ze_64 : zeroL Try.prog 64 = some [.nilFunc] := by kernel_rfl
@[go_sem] theorem isl_64 : isSliceT Try.prog 64 = false := by kernel_rfl
@[go_sem] theorem ist_64 : isStrT Try.prog 64 = false := by kernel_rfl
@[go_sem] theorem isp_64 : isPtrT Try.prog 64 = false := by kernel_rfl
@[go_sem] theorem isb_64 : isBoolT Try.prog 64 = false := by kernel_rfl
@[go_sem] theorem isi_64 : isIfaceT Try.prog 64 = false := by kernel_rfl
@[go_sem] theorem isn_64 : isIntT Try.prog 64 = none := by kernel_rfl
@[go_sem] theorem by_64 : bytesT Try.prog 64 = 8 := by kernel_rfl
@[go_sem] theorem sz_65 : szOf Try.prog 65 = some 1 := by kernel_rfl
@[go_sem] theorem ag_65 : isAggT Try.prog 65 = some false := by kernel_rfl
@[go_sem] theorem ze_65 : zeroL Try.prog 65 = some [.nilFunc] := by kernel_rfl
@[go_sem] theorem isl_65 : isSliceT Try.prog 65 = false := by kernel_rfl
@[go_sem] theorem ist_65 : isStrT Try.prog 65 = false := by kernel_rfl
@[go_sem] theorem isp_65 : isPtrT Try.prog 65 = false := by kernel_rfl
@[go_sem] theorem isb_65 : isBoolT Try.prog 65 = false := by kernel_rfl
@[go_sem] theorem isi_65 : isIfaceT Try.prog 65 = false := by kernel_rfl
@[go_sem] theorem isn_65 : isIntT Try.prog 65 = none := by kernel_rfl
@[go_sem] theorem by_65 : bytesT Try.prog 65 = 8 := by kernel_rfl
@[go_sem] theorem sz_66 : szOf Try.prog 66 = some 1 := by kernel_rfl
@[go_sem] theorem ag_66 : isAggT Try.prog 66 = some false := by kernel_rfl
@[go_sem] theorem ze_66 : zeroL Try.prog 66 = some [.nilFunc] := by kernel_rfl
@[go_sem] theorem isl_66 : isSliceT Try.prog 66 = false := by kernel_rfl
@[go_sem] theorem ist_66 : isStrT Try.prog 66 = false := by kernel_rfl
@[go_sem] theorem isp_66 : isPtrT Try.prog 66 = false := by kernel_rfl
@[go_sem] theorem isb_66 : isBoolT Try.prog 66 = false := by kernel_rfl
@[go_sem] theorem isi_66 : isIfaceT Try.prog 66 = false := by kernel_rfl
@[go_sem] theorem isn_66 : isIntT Try.prog 66 = none := by kernel_rfl
@[go_sem] theorem by_66 : bytesT Try.prog 66 = 8 := by kernel_rfl
@[go_sem] theorem sz_67 : szOf Try.prog 67 = some 1 := by kernel_rfl
@[go_sem] theorem ag_67 : isAggT Try.prog 67 = some false := by kernel_rfl
@[go_sem] theorem ze_67 : zeroL Try.prog 67 = some [.nilFunc] := by kernel_rfl
@[go_sem] theorem isl_67 : isSliceT Try.prog 67 = false := by kernel_rfl
@[go_sem] theorem ist_67 : isStrT Try.prog 67 = false := by kernel_rfl
@[go_sem] theorem isp_67 : isPtrT Try.prog 67 = false := by kernel_rfl
@[go_sem] theorem isb_67 : isBoolT Try.prog 67 = false := by kernel_rfl
@[go_sem] theorem isi_67 : isIfaceT Try.prog 67 = false := by kernel_rfl
@[go_sem] theorem isn_67 : isIntT Try.prog 67 = none := by kernel_rfl
@[go_sem] theorem by_67 : bytesT Try.prog 67 = 8 := by kernel_rfl
@[go_sem] theorem sz_68 : szOf Try.prog 68 = some 1 := by kernel_rfl
@[go_sem] theorem ag_68 : isAggT Try.prog 68 = some false := by kernel_rfl
@[go_sem] theorem ze_68 : zeroL Try.prog 68 = some [.pointer none] := by kernel_rfl
@[go_sem] theorem isl_68 : isSliceT Try.prog 68 = false := by kernel_rfl
@[go_sem] theorem ist_68 : isStrT Try.prog 68 = false := by kernel_rfl
@[go_sem] theorem isp_68 : isPtrT Try.prog 68 = true := by kernel_rfl
@[go_sem] theorem isb_68 : isBoolT Try.prog 68 = false := by kernel_rfl
@[go_sem] theorem isi_68 : isIfaceT Try.prog 68 = false := by kernel_rfl
@[go_sem] theorem isn_68 : isIntT Try.prog 68 = none := by kernel_rfl
@[go_sem] theorem by_68 : bytesT Try.prog 68 = 8 := by kernel_rfl
@[go_sem] theorem sz_69 : szOf Try.prog 69 = some 1 := by kernel_rfl
@[go_sem] theorem ag_69 : isAggT Try.prog 69 = some false := by kernel_rfl
@[go_sem] theorem ze_69 : zeroL Try.prog 69 = some [.nilFunc] := by kernel_rfl
@[go_sem] theorem isl_69 : isSliceT Try.prog 69 = false := by kernel_rfl
@[go_sem] theorem ist_69 : isStrT Try.prog 69 = false := by kernel_rfl
@[go_sem] theorem isp_69 : isPtrT Try.prog 69 = false := by kernel_rfl
@[go_sem] theorem isb_69 : isBoolT Try.prog 69 = false := by kernel_rfl
@[go_sem] theorem isi_69 : isIfaceT Try.prog 69 = false := by kernel_rfl
@[go_sem] theorem isn_69 : isIntT Try.prog 69 = none := by kernel_rfl
@[go_sem] theorem by_69 : bytesT Try.prog 69 = 8 := by kernel_rfl
@[go_sem] theorem sz_70 : szOf Try.prog 70 = some 1 := by kernel_rfl
@[go_sem] theorem ag_70 : isAggT Try.prog 70 = some false := by kernel_rfl
@[go_sem] theorem ze_70 : zeroL Try.prog 70 = some [.nilFunc] := by kernel_rfl
@[go_sem] theorem isl_70 : isSliceT Try.prog 70 = false := by kernel_rfl
@[go_sem] theorem ist_70 : isStrT Try.prog 70 = false := by kernel_rfl
@[go_sem] theorem isp_70 : isPtrT Try.prog 70 = false := by kernel_rfl
@[go_sem] theorem isb_70 : isBoolT Try.prog 70 = false := by kernel_rfl
@[go_sem] theorem isi_70 : isIfaceT Try.prog 70 = false := by kernel_rfl
@[go_sem] theorem isn_70 : isIntT Try.prog 70 = none := by kernel_rfl
@[go_sem] theorem by_70 : bytesT Try.prog 70 = 8 := by kernel_rfl
@[go_sem] theorem sz_72 : szOf Try.prog 72 = some 1 := by kernel_rfl
@[go_sem] theorem ag_72 : isAggT Try.prog 72 = some false := by kernel_rfl
@[go_sem] theorem ze_72 : zeroL Try.prog 72 = some [.nilFunc] := by kernel_rfl
@[go_sem] theorem isl_72 : isSliceT Try.prog 72 = false := by kernel_rfl
@[go_sem] theorem ist_72 : isStrT Try.prog 72 = false := by kernel_rfl
@[go_sem] theorem isp_72 : isPtrT Try.prog 72 = false := by kernel_rfl
@[go_sem] theorem isb_72 : isBoolT Try.prog 72 = false := by kernel_rfl
@[go_sem] theorem isi_72 : isIfaceT Try.prog 72 = false := by kernel_rfl
@[go_sem] theorem isn_72 : isIntT Try.prog 72 = none := by kernel_rfl
@[go_sem] theorem by_72 : bytesT Try.prog 72 = 8 := by kernel_rfl
@[go_sem] theorem sz_73 : szOf Try.prog 73 = some 1 := by kernel_rfl
@[go_sem] theorem ag_73 : isAggT Try.prog 73 = some false := by kernel_rfl
@[go_sem] theorem ze_73 : zeroL Try.prog 73 = some [.slice none 0 0] := by kernel_rfl
@[go_sem] theorem un_73 : Try.prog.underlying 73 = some (.slice 79) := by kernel_rfl
@[go_sem] theorem el_73 : elT Try.prog 73 = some 79 := by kernel_rfl
@[go_sem] theorem es_73 : elSz Try.prog 73 = some 2 := by kernel_rfl
@[go_sem] theorem isl_73 : isSliceT Try.prog 73 = true := by kernel_rfl
@[go_sem] theorem ist_73 : isStrT Try.prog 73 = false := by kernel_rfl
@[go_sem] theorem isp_73 : isPtrT Try.prog 73 = false := by kernel_rfl
@[go_sem] theorem isb_73 : isBoolT Try.prog 73 = false := by kernel_rfl
@[go_sem] theorem isi_73 : isIfaceT Try.prog 73 = false := by kernel_rfl
@[go_sem] theorem isn_73 : isIntT Try.prog 73 = none := by kernel_rfl
@[go_sem] theorem by_73 : bytesT Try.prog 73 = 24 := by kernel_rfl
@[go_sem] theorem sz_74 : szOf Try.prog 74 = some 2 := by kernel_rfl
@[go_sem] theorem ag_74 : isAggT Try.prog 74 = some true := by kernel_rfl
@[go_sem] theorem ze_74 : zeroL Try.prog 74 = some [.int .i64 0, .slice none 0 0] := by kernel_rfl
@[go_sem] theorem fo_74_0 : fOff Try.prog 74 0 = some 0 := by kernel_rfl
@[go_sem] theorem ft_74_0 : fTy Try.prog 74 0 = some (3, 0) := by kernel_rfl
@[go_sem] theorem fo_74_1 : fOff Try.prog 74 1 = some 1 := by kernel_rfl
@[go_sem] theorem ft_74_1 : fTy Try.prog 74 1 = some (73, 1) := by kernel_rfl
@[go_sem] theorem pl_74 : places Try.prog 74 = some [(0, 1), (1, 1)] := by kernel_rfl
@[go_sem] theorem isl_74 : isSliceT Try.prog 74 = false := by kernel_rfl
@[go_sem] theorem ist_74 : isStrT Try.prog 74 = false := by kernel_rfl
@[go_sem] theorem isp_74 : isPtrT Try.prog 74 = false := by kernel_rfl
@[go_sem] theorem isb_74 : isBoolT Try.prog 74 = false := by kernel_rfl
@[go_sem] theorem isi_74 : isIfaceT Try.prog 74 = false := by kernel_rfl
@[go_sem] theorem isn_74 : isIntT Try.prog 74 = none := by kernel_rfl
@[go_sem] theorem by_74 : bytesT Try.prog 74 = 32 := by kernel_rfl
@[go_sem] theorem sz_75 : szOf Try.prog 75 = some 2 := by kernel_rfl
@[go_sem] theorem ag_75 : isAggT Try.prog 75 = some true := by kernel_rfl
@[go_sem] theorem ze_75 : zeroL Try.prog 75 = some [.int .i64 0, .slice none 0 0] := by kernel_rfl
@[go_sem] theorem fo_75_0 : fOff Try.prog 75 0 = some 0 := by kernel_rfl
@[go_sem] theorem ft_75_0 : fTy Try.prog 75 0 = some (3, 0) := by kernel_rfl
@[go_sem] theorem fo_75_1 : fOff Try.prog 75 1 = some 1 := by kernel_rfl
@[go_sem] theorem ft_75_1 : fTy Try.prog 75 1 = some (73, 1) := by kernel_rfl
@[go_sem] theorem pl_75 : places Try.prog 75 = some [(0, 1), (1, 1)] := by kernel_rfl
@[go_sem] theorem isl_75 : isSliceT Try.prog 75 = false := by kernel_rfl
@[go_sem] theorem ist_75 : isStrT Try.prog 75 = false := by kernel_rfl
@[go_sem] theorem isp_75 : isPtrT Try.prog 75 = false := by kernel_rfl
@[go_sem] theorem isb_75 : isBoolT Try.prog 75 = false := by kernel_rfl
@[go_sem] theorem isi_75 : isIfaceT Try.prog 75 = false := by kernel_rfl
@[go_sem] theorem isn_75 : isIntT Try.prog 75 = none := by kernel_rfl
@[go_sem] theorem by_75 : bytesT Try.prog 75 = 32 := by kernel_rfl
@[go_sem] theorem sz_77 : szOf Try.prog 77 = some 1 := by kernel_rfl
@[go_sem] theorem ag_77 : isAggT Try.prog 77 = some false := by kernel_rfl
@[go_sem] theorem ze_77 : zeroL Try.prog 77 = some [.nilFunc] := by kernel_rfl
@[go_sem] theorem isl_77 : isSliceT Try.prog 77 = false := by kernel_rfl
@[go_sem] theorem ist_77 : isStrT Try.prog 77 = false := by kernel_rfl
@[go_sem] theorem isp_77 : isPtrT Try.prog 77 = false := by kernel_rfl
@[go_sem] theorem isb_77 : isBoolT Try.prog 77 = false := by kernel_rfl
@[go_sem] theorem isi_77 : isIfaceT Try.prog 77 = false := by kernel_rfl
@[go_sem] theorem isn_77 : isIntT Try.prog 77 = none := by kernel_rfl
@[go_sem] theorem by_77 : bytesT Try.prog 77 = 8 := by kernel_rfl
@[go_sem] theorem sz_78 : szOf Try.prog 78 = some 2 := by kernel_rfl
@[go_sem] theorem ag_78 : isAggT Try.prog 78 = some true := by kernel_rfl
@[go_sem] theorem ze_78 : zeroL Try.prog 78 = some [.int .i64 0, .int .i64 0] := by kernel_rfl
@[go_sem] theorem fo_78_0 : fOff Try.prog 78 0 = some 0 := by kernel_rfl
@[go_sem] theorem ft_78_0 : fTy Try.prog 78 0 = some (3, 0) := by kernel_rfl
@[go_sem] theorem fo_78_1 : fOff Try.prog 78 1 = some 1 := by kernel_rfl
@[go_sem] theorem ft_78_1 : fTy Try.prog 78 1 = some (3, 1) := by kernel_rfl
@[go_sem] theorem pl_78 : places Try.prog 78 = some [(0, 1), (1, 1)] := by kernel_rfl
@[go_sem] theorem eqk_78 : eqKinds Try.prog 78 = some [.int .i64, .int .i64] := by kernel_rfl
@[go_sem] theorem isl_78 : isSliceT Try.prog 78 = false := by kernel_rfl
@[go_sem] theorem ist_78 : isStrT Try.prog 78 = false := by kernel_rfl
@[go_sem] theorem isp_78 : isPtrT Try.prog 78 = false := by kernel_rfl
@[go_sem] theorem isb_78 : isBoolT Try.prog 78 = false := by kernel_rfl
@[go_sem] theorem isi_78 : isIfaceT Try.prog 78 = false := by kernel_rfl
@[go_sem] theorem isn_78 : isIntT Try.prog 78 = none := by kernel_rfl
@[go_sem] theorem by_78 : bytesT Try.prog 78 = 16 := by kernel_rfl
@[go_sem] theorem sz_79 : szOf Try.prog 79 = some 2 := by kernel_rfl
@[go_sem] theorem ag_79 : isAggT Try.prog 79 = some true := by kernel_rfl
@[go_sem] theorem ze_79 : zeroL Try.prog 79 = some [.int .i64 0, .int .i64 0] := by kernel_rfl
@[go_sem] theorem fo_79_0 : fOff Try.prog 79 0 = some 0 := by kernel_rfl
@[go_sem] theorem ft_79_0 : fTy Try.prog 79 0 = some (3, 0) := by kernel_rfl
@[go_sem] theorem fo_79_1 : fOff Try.prog 79 1 = some 1 := by kernel_rfl
@[go_sem] theorem ft_79_1 : fTy Try.prog 79 1 = some (3, 1) := by kernel_rfl
@[go_sem] theorem pl_79 : places Try.prog 79 = some [(0, 1), (1, 1)] := by kernel_rfl
@[go_sem] theorem eqk_79 : eqKinds Try.prog 79 = some [.int .i64, .int .i64] := by kernel_rfl
@[go_sem] theorem isl_79 : isSliceT Try.prog 79 = false := by kernel_rfl
@[go_sem] theorem ist_79 : isStrT Try.prog 79 = false := by kernel_rfl
@[go_sem] theorem isp_79 : isPtrT Try.prog 79 = false := by kernel_rfl
@[go_sem] theorem isb_79 : isBoolT Try.prog 79 = false := by kernel_rfl
@[go_sem] theorem isi_79 : isIfaceT Try.prog 79 = false := by kernel_rfl
@[go_sem] theorem isn_79 : isIntT Try.prog 79 = none := by kernel_rfl
@[go_sem] theorem by_79 : bytesT Try.prog 79 = 16 := by kernel_rfl
@[go_sem] theorem sz_80 : szOf Try.prog 80 = some 1 := by kernel_rfl
@[go_sem] theorem ag_80 : isAggT Try.prog 80 = some false := by kernel_rfl
@[go_sem] theorem ze_80 : zeroL Try.prog 80 = some [.nilFunc] := by kernel_rfl
@[go_sem] theorem isl_80 : isSliceT Try.prog 80 = false := by kernel_rfl
@[go_sem] theorem ist_80 : isStrT Try.prog 80 = false := by kernel_rfl
@[go_sem] theorem isp_80 : isPtrT Try.prog 80 = false := by kernel_rfl
@[go_sem] theorem isb_80 : isBoolT Try.prog 80 = false := by kernel_rfl
@[go_sem] theorem isi_80 : isIfaceT Try.prog 80 = false := by kernel_rfl
@[go_sem] theorem isn_80 : isIntT Try.prog 80 = none := by kernel_rfl
@[go_sem] theorem by_80 : bytesT Try.prog 80 = 8 := by kernel_rfl
@[go_sem] theorem sz_81 : szOf Try.prog 81 = some 1 := by kernel_rfl
@[go_sem] theorem ag_81 : isAggT Try.prog 81 = some false := by kernel_rfl
@[go_sem] theorem ze_81 : zeroL Try.prog 81 = some [.nilFunc] := by kernel_rfl
@[go_sem] theorem isl_81 : isSliceT Try.prog 81 = false := by kernel_rfl
@[go_sem] theorem ist_81 : isStrT Try.prog 81 = false := by kernel_rfl
@[go_sem] theorem isp_81 : isPtrT Try.prog 81 = false := by kernel_rfl
@[go_sem] theorem isb_81 : isBoolT Try.prog 81 = false := by kernel_rfl
@[go_sem] theorem isi_81 : isIfaceT Try.prog 81 = false := by kernel_rfl
@[go_sem] theorem isn_81 : isIntT Try.prog 81 = none := by kernel_rfl
@[go_sem] theorem by_81 : bytesT Try.prog 81 = 8 := by kernel_rfl
@[go_sem] theorem sz_82 : szOf Try.prog 82 = some 1 := by kernel_rfl
@[go_sem] theorem ag_82 : isAggT Try.prog 82 = some false := by kernel_rfl
@[go_sem] theorem ze_82 : zeroL Try.prog 82 = some [.nilFunc] := by kernel_rfl
@[go_sem] theorem isl_82 : isSliceT Try.prog 82 = false := by kernel_rfl
@[go_sem] theorem ist_82 : isStrT Try.prog 82 = false := by kernel_rfl
@[go_sem] theorem isp_82 : isPtrT Try.prog 82 = false := by kernel_rfl
@[go_sem] theorem isb_82 : isBoolT Try.prog 82 = false := by kernel_rfl
@[go_sem] theorem isi_82 : isIfaceT Try.prog 82 = false := by kernel_rfl
@[go_sem] theorem isn_82 : isIntT Try.prog 82 = none := by kernel_rfl
@[go_sem] theorem by_82 : bytesT Try.prog 82 = 8 := by kernel_rfl
@[go_sem] theorem sz_83 : szOf Try.prog 83 = some 1 := by kernel_rfl
@[go_sem] theorem ag_83 : isAggT Try.prog 83 = some false := by kernel_rfl
@[go_sem] theorem ze_83 : zeroL Try.prog 83 = some [.int .u64 0] := by kernel_rfl
@[go_sem] theorem isl_83 : isSliceT Try.prog 83 = false := by kernel_rfl
@[go_sem] theorem ist_83 : isStrT Try.prog 83 = false := by kernel_rfl
@[go_sem] theorem isp_83 : isPtrT Try.prog 83 = false := by kernel_rfl
@[go_sem] theorem isb_83 : isBoolT Try.prog 83 = false := by kernel_rfl
@[go_sem] theorem isi_83 : isIfaceT Try.prog 83 = false := by kernel_rfl
@[go_sem] theorem isn_83 : isIntT Try.prog 83 = some .u64 := by kernel_rfl
@[go_sem] theorem by_83 : bytesT Try.prog 83 = 8 := by kernel_rfl
@[go_sem] theorem sz_84 : szOf Try.prog 84 = some 1 := by kernel_rfl
@[go_sem] theorem ag_84 : isAggT Try.prog 84 = some false := by kernel_rfl
@[go_sem] theorem ze_84 : zeroL Try.prog 84 = some [.nilFunc] := by kernel_rfl
@[go_sem] theorem isl_84 : isSliceT Try.prog 84 = false := by kernel_rfl
@[go_sem] theorem ist_84 : isStrT Try.prog 84 = false := by kernel_rfl
@[go_sem] theorem isp_84 : isPtrT Try.prog 84 = false := by kernel_rfl
@[go_sem] theorem isb_84 : isBoolT Try.prog 84 = false := by kernel_rfl
@[go_sem] theorem isi_84 : isIfaceT Try.prog 84 = false := by kernel_rfl
@[go_sem] theorem isn_84 : isIntT Try.prog 84 = none := by kernel_rfl
@[go_sem] theorem by_84 : bytesT Try.prog 84 = 8 := by kernel_rfl
@[go_sem] theorem sz_85 : szOf Try.prog 85 = some 1 := by kernel_rfl
@[go_sem] theorem ag_85 : isAggT Try.prog 85 = some false := by kernel_rfl
@[go_sem] theorem ze_85 : zeroL Try.prog 85 = some [.slice none 0 0] := by kernel_rfl
@[go_sem] theorem un_85 : Try.prog.underlying 85 = some (.slice 89) := by kernel_rfl
@[go_sem] theorem el_85 : elT Try.prog 85 = some 89 := by kernel_rfl
@[go_sem] theorem es_85 : elSz Try.prog 85 = some 2 := by kernel_rfl
@[go_sem] theorem isl_85 : isSliceT Try.prog 85 = true := by kernel_rfl
@[go_sem] theorem ist_85 : isStrT Try.prog 85 = false := by kernel_rfl
@[go_sem] theorem isp_85 : isPtrT Try.prog 85 = false := by kernel_rfl
@[go_sem] theorem isb_85 : isBoolT Try.prog 85 = false := by kernel_rfl
@[go_sem] theorem isi_85 : isIfaceT Try.prog 85 = false := by kernel_rfl
@[go_sem] theorem isn_85 : isIntT Try.prog 85 = none := by kernel_rfl
@[go_sem] theorem by_85 : bytesT Try.prog 85 = 24 := by kernel_rfl
@[go_sem] theorem sz_86 : szOf Try.prog 86 = some 2 := by kernel_rfl
@[go_sem] theorem ag_86 : isAggT Try.prog 86 = some true := by kernel_rfl
@[go_sem] theorem ze_86 : zeroL Try.prog 86 = some [.int .i64 0, .slice none 0 0] := by kernel_rfl
@[go_sem] theorem fo_86_0 : fOff Try.prog 86 0 = some 0 := by kernel_rfl
@[go_sem] theorem ft_86_0 : fTy Try.prog 86 0 = some (3, 0) := by kernel_rfl
@[go_sem] theorem fo_86_1 : fOff Try.prog 86 1 = some 1 := by kernel_rfl
@[go_sem] theorem ft_86_1 : fTy Try.prog 86 1 = some (85, 1) := by kernel_rfl
@[go_sem] theorem pl_86 : places Try.prog 86 = some [(0, 1), (1, 1)] := by kernel_rfl
@[go_sem] theorem isl_86 : isSliceT Try.prog 86 = false := by kernel_rfl
@[go_sem] theorem ist_86 : isStrT Try.prog 86 = false := by kernel_rfl
@[go_sem] theorem isp_86 : isPtrT Try.prog 86 = false := by kernel_rfl
@[go_sem] theorem isb_86 : isBoolT Try.prog 86 = false := by kernel_rfl
@[go_sem] theorem isi_86 : isIfaceT Try.prog 86 = false := by kernel_rfl
@[go_sem] theorem isn_86 : isIntT Try.prog 86 = none := by kernel_rfl
@[go_sem] theorem by_86 : bytesT Try.prog 86 = 32 := by kernel_rfl
@[go_sem] theorem sz_87 : szOf Try.prog 87 = some 2 := by kernel_rfl
@[go_sem] theorem ag_87 : isAggT Try.prog 87 = some true := by kernel_rfl
@[go_sem] theorem ze_87 : zeroL Try.prog 87 = some [.int .i64 0, .slice none 0 0] := by kernel_rfl
@[go_sem] theorem fo_87_0 : fOff Try.prog 87 0 = some 0 := by kernel_rfl
@[go_sem] theorem ft_87_0 : fTy Try.prog 87 0 = some (3, 0) := by kernel_rfl
@[go_sem] theorem fo_87_1 : fOff Try.prog 87 1 = some 1 := by kernel_rfl
@[go_sem] theorem ft_87_1 : fTy Try.prog 87 1 = some (85, 1) := by kernel_rfl
@[go_sem] theorem pl_87 : places Try.prog 87 = some [(0, 1), (1, 1)] := by kernel_rfl
@[go_sem] theorem isl_87 : isSliceT Try.prog 87 = false := by kernel_rfl
@[go_sem] theorem ist_87 : isStrT Try.prog 87 = false := by kernel_rfl
@[go_sem] theorem isp_87 : isPtrT Try.prog 87 = false := by kernel_rfl
@[go_sem] theorem isb_87 : isBoolT Try.prog 87 = false := by kernel_rfl
@[go_sem] theorem isi_87 : isIfaceT Try.prog 87 = false := by kernel_rfl
@[go_sem] theorem isn_87 : isIntT Try.prog 87 = none := by kernel_rfl
@[go_sem] theorem by_87 : bytesT Try.prog 87 = 32 := by kernel_rfl
@[go_sem] theorem sz_88 : szOf Try.prog 88 = some 2 := by kernel_rfl
@[go_sem] theorem ag_88 : isAggT Try.prog 88 = some true := by kernel_rfl
@[go_sem] theorem ze_88 : zeroL Try.prog 88 = some [.int .i64 0, .string ⟨#[]⟩] := by kernel_rfl
@[go_sem] theorem fo_88_0 : fOff Try.prog 88 0 = some 0 := by kernel_rfl
@[go_sem] theorem ft_88_0 : fTy Try.prog 88 0 = some (3, 0) := by kernel_rfl
@[go_sem] theorem fo_88_1 : fOff Try.prog 88 1 = some 1 := by kernel_rfl
@[go_sem] theorem ft_88_1 : fTy Try.prog 88 1 = some (9, 1) := by kernel_rfl
@[go_sem] theorem pl_88 : places Try.prog 88 = some [(0, 1), (1, 1)] := by kernel_rfl
@[go_sem] theorem eqk_88 : eqKinds Try.prog 88 = some [.int .i64, .str] := by kernel_rfl
@[go_sem] theorem isl_88 : isSliceT Try.prog 88 = false := by kernel_rfl
@[go_sem] theorem ist_88 : isStrT Try.prog 88 = false := by kernel_rfl
@[go_sem] theorem isp_88 : isPtrT Try.prog 88 = false := by kernel_rfl
@[go_sem] theorem isb_88 : isBoolT Try.prog 88 = false := by kernel_rfl
@[go_sem] theorem isi_88 : isIfaceT Try.prog 88 = false := by kernel_rfl
@[go_sem] theorem isn_88 : isIntT Try.prog 88 = none := by kernel_rfl
@[go_sem] theorem by_88 : bytesT Try.prog 88 = 24 := by kernel_rfl
@[go_sem] theorem sz_89 : szOf Try.prog 89 = some 2 := by kernel_rfl
@[go_sem] theorem ag_89 : isAggT Try.prog 89 = some true := by kernel_rfl
@[go_sem] theorem ze_89 : zeroL Try.prog 89 = some [.int .i64 0, .string ⟨#[]⟩] := by kernel_rfl
@[go_sem] theorem fo_89_0 : fOff Try.prog 89 0 = some 0 := by kernel_rfl
@[go_sem] theorem ft_89_0 : fTy Try.prog 89 0 = some (3, 0) := by kernel_rfl
@[go_sem] theorem fo_89_1 : fOff Try.prog 89 1 = some 1 := by kernel_rfl
@[go_sem] theorem ft_89_1 : fTy Try.prog 89 1 = some (9, 1) := by kernel_rfl
@[go_sem] theorem pl_89 : places Try.prog 89 = some [(0, 1), (1, 1)] := by kernel_rfl
@[go_sem] theorem eqk_89 : eqKinds Try.prog 89 = some [.int .i64, .str] := by kernel_rfl
@[go_sem] theorem isl_89 : isSliceT Try.prog 89 = false := by kernel_rfl
@[go_sem] theorem ist_89 : isStrT Try.prog 89 = false := by kernel_rfl
@[go_sem] theorem isp_89 : isPtrT Try.prog 89 = false := by kernel_rfl
@[go_sem] theorem isb_89 : isBoolT Try.prog 89 = false := by kernel_rfl
@[go_sem] theorem isi_89 : isIfaceT Try.prog 89 = false := by kernel_rfl
@[go_sem] theorem isn_89 : isIntT Try.prog 89 = none := by kernel_rfl
@[go_sem] theorem by_89 : bytesT Try.prog 89 = 24 := by kernel_rfl
@[go_sem] theorem sz_90 : szOf Try.prog 90 = some 1 := by kernel_rfl
@[go_sem] theorem ag_90 : isAggT Try.prog 90 = some false := by kernel_rfl
@[go_sem] theorem ze_90 : zeroL Try.prog 90 = some [.nilFunc] := by kernel_rfl
@[go_sem] theorem isl_90 : isSliceT Try.prog 90 = false := by kernel_rfl
@[go_sem] theorem ist_90 : isStrT Try.prog 90 = false := by kernel_rfl
@[go_sem] theorem isp_90 : isPtrT Try.prog 90 = false := by kernel_rfl
@[go_sem] theorem isb_90 : isBoolT Try.prog 90 = false := by kernel_rfl
@[go_sem] theorem isi_90 : isIfaceT Try.prog 90 = false := by kernel_rfl
@[go_sem] theorem isn_90 : isIntT Try.prog 90 = none := by kernel_rfl
@[go_sem] theorem by_90 : bytesT Try.prog 90 = 8 := by kernel_rfl
@[go_sem] theorem sz_91 : szOf Try.prog 91 = some 1 := by kernel_rfl
@[go_sem] theorem ag_91 : isAggT Try.prog 91 = some false := by kernel_rfl
@[go_sem] theorem ze_91 : zeroL Try.prog 91 = some [.nilFunc] := by kernel_rfl
@[go_sem] theorem isl_91 : isSliceT Try.prog 91 = false := by kernel_rfl
@[go_sem] theorem ist_91 : isStrT Try.prog 91 = false := by kernel_rfl
@[go_sem] theorem isp_91 : isPtrT Try.prog 91 = false := by kernel_rfl
@[go_sem] theorem isb_91 : isBoolT Try.prog 91 = false := by kernel_rfl
@[go_sem] theorem isi_91 : isIfaceT Try.prog 91 = false := by kernel_rfl
@[go_sem] theorem isn_91 : isIntT Try.prog 91 = none := by kernel_rfl
@[go_sem] theorem by_91 : bytesT Try.prog 91 = 8 := by kernel_rfl
@[go_sem] theorem sz_92 : szOf Try.prog 92 = some 1 := by kernel_rfl
@[go_sem] theorem ag_92 : isAggT Try.prog 92 = some false := by kernel_rfl
@[go_sem] theorem ze_92 : zeroL Try.prog 92 = some [.nilFunc] := by kernel_rfl
@[go_sem] theorem isl_92 : isSliceT Try.prog 92 = false := by kernel_rfl
@[go_sem] theorem ist_92 : isStrT Try.prog 92 = false := by kernel_rfl
@[go_sem] theorem isp_92 : isPtrT Try.prog 92 = false := by kernel_rfl
@[go_sem] theorem isb_92 : isBoolT Try.prog 92 = false := by kernel_rfl
@[go_sem] theorem isi_92 : isIfaceT Try.prog 92 = false := by kernel_rfl
@[go_sem] theorem isn_92 : isIntT Try.prog 92 = none := by kernel_rfl
@[go_sem] theorem by_92 : bytesT Try.prog 92 = 8 := by kernel_rfl
@[go_sem] theorem sz_93 : szOf Try.prog 93 = some 1 := by kernel_rfl
@[go_sem] theorem ag_93 : isAggT Try.prog 93 = some false := by kernel_rfl
@[go_sem] theorem ze_93 : zeroL Try.prog 93 = some [.nilFunc] := by kernel_rfl
@[go_sem] theorem isl_93 : isSliceT Try.prog 93 = false := by kernel_rfl
@[go_sem] theorem ist_93 : isStrT Try.prog 93 = false := by kernel_rfl
@[go_sem] theorem isp_93 : isPtrT Try.prog 93 = false := by kernel_rfl
@[go_sem] theorem isb_93 : isBoolT Try.prog 93 = false := by kernel_rfl
@[go_sem] theorem isi_93 : isIfaceT Try.prog 93 = false := by kernel_rfl
@[go_sem] theorem isn_93 : isIntT Try.prog 93 = none := by kernel_rfl
@[go_sem] theorem by_93 : bytesT Try.prog 93 = 8 := by kernel_rfl
@[go_sem] theorem sz_94 : szOf Try.prog 94 = some 1 := by kernel_rfl
@[go_sem] theorem ag_94 : isAggT Try.prog 94 = some false := by kernel_rfl
@[go_sem] theorem ze_94 : zeroL Try.prog 94 = some [.nilFunc] := by kernel_rfl
@[go_sem] theorem isl_94 : isSliceT Try.prog 94 = false := by kernel_rfl
@[go_sem] theorem ist_94 : isStrT Try.prog 94 = false := by kernel_rfl
@[go_sem] theorem isp_94 : isPtrT Try.prog 94 = false := by kernel_rfl
@[go_sem] theorem isb_94 : isBoolT Try.prog 94 = false := by kernel_rfl
@[go_sem] theorem isi_94 : isIfaceT Try.prog 94 = false := by kernel_rfl
@[go_sem] theorem isn_94 : isIntT Try.prog 94 = none := by kernel_rfl
@[go_sem] theorem by_94 : bytesT Try.prog 94 = 8 := by kernel_rfl
@[go_sem] theorem sz_95 : szOf Try.prog 95 = some 1 := by kernel_rfl
@[go_sem] theorem ag_95 : isAggT Try.prog 95 = some false := by kernel_rfl
@[go_sem] theorem ze_95 : zeroL Try.prog 95 = some [.nilFunc] := by kernel_rfl
@[go_sem] theorem isl_95 : isSliceT Try.prog 95 = false := by kernel_rfl
@[go_sem] theorem ist_95 : isStrT Try.prog 95 = false := by kernel_rfl
@[go_sem] theorem isp_95 : isPtrT Try.prog 95 = false := by kernel_rfl
@[go_sem] theorem isb_95 : isBoolT Try.prog 95 = false := by kernel_rfl
@[go_sem] theorem isi_95 : isIfaceT Try.prog 95 = false := by kernel_rfl
@[go_sem] theorem isn_95 : isIntT Try.prog 95 = none := by kernel_rfl
@[go_sem] theorem by_95 : bytesT Try.prog 95 = 8 := by kernel_rfl
@[go_sem] theorem sz_96 : szOf Try.prog 96 = some 1 := by kernel_rfl
@[go_sem] theorem ag_96 : isAggT Try.prog 96 = some false := by kernel_rfl
@[go_sem] theorem ze_96 : zeroL Try.prog 96 = some [.nilFunc] := by kernel_rfl
@[go_sem] theorem isl_96 : isSliceT Try.prog 96 = false := by kernel_rfl
@[go_sem] theorem ist_96 : isStrT Try.prog 96 = false := by kernel_rfl
@[go_sem] theorem isp_96 : isPtrT Try.prog 96 = false := by kernel_rfl
@[go_sem] theorem isb_96 : isBoolT Try.prog 96 = false := by kernel_rfl
@[go_sem] theorem isi_96 : isIfaceT Try.prog 96 = false := by kernel_rfl
@[go_sem] theorem isn_96 : isIntT Try.prog 96 = none := by kernel_rfl
@[go_sem] theorem by_96 : bytesT Try.prog 96 = 8 := by kernel_rfl
@[go_sem] theorem sz_97 : szOf Try.prog 97 = some 1 := by kernel_rfl
@[go_sem] theorem ag_97 : isAggT Try.prog 97 = some false := by kernel_rfl
@[go_sem] theorem ze_97 : zeroL Try.prog 97 = some [.nilFunc] := by kernel_rfl
@[go_sem] theorem isl_97 : isSliceT Try.prog 97 = false := by kernel_rfl
@[go_sem] theorem ist_97 : isStrT Try.prog 97 = false := by kernel_rfl
@[go_sem] theorem isp_97 : isPtrT Try.prog 97 = false := by kernel_rfl
@[go_sem] theorem isb_97 : isBoolT Try.prog 97 = false := by kernel_rfl
@[go_sem] theorem isi_97 : isIfaceT Try.prog 97 = false := by kernel_rfl
@[go_sem] theorem isn_97 : isIntT Try.prog 97 = none := by kernel_rfl
@[go_sem] theorem by_97 : bytesT Try.prog 97 = 8 := by kernel_rfl
@[go_sem] theorem sz_98 : szOf Try.prog 98 = some 1 := by kernel_rfl
@[go_sem] theorem ag_98 : isAggT Try.prog 98 = some false := by kernel_rfl
@[go_sem] theorem ze_98 : zeroL Try.prog 98 = some [.nilFunc] := by kernel_rfl
@[go_sem] theorem isl_98 : isSliceT Try.prog 98 = false := by kernel_rfl
@[go_sem] theorem ist_98 : isStrT Try.prog 98 = false := by kernel_rfl
@[go_sem] theorem isp_98 : isPtrT Try.prog 98 = false := by kernel_rfl
@[go_sem] theorem isb_98 : isBoolT Try.prog 98 = false := by kernel_rfl
@[go_sem] theorem isi_98 : isIfaceT Try.prog 98 = false := by kernel_rfl
@[go_sem] theorem isn_98 : isIntT Try.prog 98 = none := by kernel_rfl
@[go_sem] theorem by_98 : bytesT Try.prog 98 = 8 := by kernel_rfl
@[go_sem] theorem sz_99 : szOf Try.prog 99 = some 1 := by kernel_rfl
@[go_sem] theorem ag_99 : isAggT Try.prog 99 = some false := by kernel_rfl
@[go_sem] theorem ze_99 : zeroL Try.prog 99 = some [.nilFunc] := by kernel_rfl
@[go_sem] theorem isl_99 : isSliceT Try.prog 99 = false := by kernel_rfl
@[go_sem] theorem ist_99 : isStrT Try.prog 99 = false := by kernel_rfl
@[go_sem] theorem isp_99 : isPtrT Try.prog 99 = false := by kernel_rfl
@[go_sem] theorem isb_99 : isBoolT Try.prog 99 = false := by kernel_rfl
@[go_sem] theorem isi_99 : isIfaceT Try.prog 99 = false := by kernel_rfl
@[go_sem] theorem isn_99 : isIntT Try.prog 99 = none := by kernel_rfl
@[go_sem] theorem by_99 : bytesT Try.prog 99 = 8 := by kernel_rfl
@[go_sem] theorem sz_100 : szOf Try.prog 100 = some 1 := by kernel_rfl
@[go_sem] theorem ag_100 : isAggT Try.prog 100 = some false := by kernel_rfl
@[go_sem] theorem ze_100 : zeroL Try.prog 100 = some [.nilFunc] := by kernel_rfl
@[go_sem] theorem isl_100 : isSliceT Try.prog 100 = false := by kernel_rfl
@[go_sem] theorem ist_100 : isStrT Try.prog 100 = false := by kernel_rfl
@[go_sem] theorem isp_100 : isPtrT Try.prog 100 = false := by kernel_rfl
@[go_sem] theorem isb_100 : isBoolT Try.prog 100 = false := by kernel_rfl
@[go_sem] theorem isi_100 : isIfaceT Try.prog 100 = false := by kernel_rfl
@[go_sem] theorem isn_100 : isIntT Try.prog 100 = none := by kernel_rfl
@[go_sem] theorem by_100 : bytesT Try.prog 100 = 8 := by kernel_rfl
@[go_sem] theorem sz_101 : szOf Try.prog 101 = some 1 := by kernel_rfl
@[go_sem] theorem ag_101 : isAggT Try.prog 101 = some false := by kernel_rfl
@[go_sem] theorem ze_101 : zeroL Try.prog 101 = some [.nilFunc] := by kernel_rfl
@[go_sem] theorem isl_101 : isSliceT Try.prog 101 = false := by kernel_rfl
@[go_sem] theorem ist_101 : isStrT Try.prog 101 = false := by kernel_rfl
@[go_sem] theorem isp_101 : isPtrT Try.prog 101 = false := by kernel_rfl
@[go_sem] theorem isb_101 : isBoolT Try.prog 101 = false := by kernel_rfl
@[go_sem] theorem isi_101 : isIfaceT Try.prog 101 = false := by kernel_rfl
@[go_sem] theorem isn_101 : isIntT Try.prog 101 = none := by kernel_rfl
@[go_sem] theorem by_101 : bytesT Try.prog 101 = 8 := by kernel_rfl
@[go_sem] theorem sz_102 : szOf Try.prog 102 = some 1 := by kernel_rfl
@[go_sem] theorem ag_102 : isAggT Try.prog 102 = some false := by kernel_rfl
@[go_sem] theorem ze_102 : zeroL Try.prog 102 = some [.int .u64 0] := by kernel_rfl
@[go_sem] theorem isl_102 : isSliceT Try.prog 102 = false := by kernel_rfl
@[go_sem] theorem ist_102 : isStrT Try.prog 102 = false := by kernel_rfl
@[go_sem] theorem isp_102 : isPtrT Try.prog 102 = false := by kernel_rfl
@[go_sem] theorem isb_102 : isBoolT Try.prog 102 = false := by kernel_rfl
@[go_sem] theorem isi_102 : isIfaceT Try.prog 102 = false := by kernel_rfl
@[go_sem] theorem isn_102 : isIntT Try.prog 102 = some .u64 := by kernel_rfl
@[go_sem] theorem by_102 : bytesT Try.prog 102 = 8 := by kernel_rfl
@[go_sem] theorem sz_103 : szOf Try.prog 103 = some 1 := by kernel_rfl
@[go_sem] theorem ag_103 : isAggT Try.prog 103 = some false := by kernel_rfl
@[go_sem] theorem ze_103 : zeroL Try.prog 103 = some [.nilFunc] := by kernel_rfl
@[go_sem] theorem isl_103 : isSliceT Try.prog 103 = false := by kernel_rfl
@[go_sem] theorem ist_103 : isStrT Try.prog 103 = false := by kernel_rfl
@[go_sem] theorem isp_103 : isPtrT Try.prog 103 = false := by kernel_rfl
@[go_sem] theorem isb_103 : isBoolT Try.prog 103 = false := by kernel_rfl
@[go_sem] theorem isi_103 : isIfaceT Try.prog 103 = false := by kernel_rfl
@[go_sem] theorem isn_103 : isIntT Try.prog 103 = none := by kernel_rfl
@[go_sem] theorem by_103 : bytesT Try.prog 103 = 8 := by kernel_rfl
@[go_sem] theorem sz_104 : szOf Try.prog 104 = some 1 := by kernel_rfl
@[go_sem] theorem ag_104 : isAggT Try.prog 104 = some false := by kernel_rfl
@[go_sem] theorem ze_104 : zeroL Try.prog 104 = some [.nilFunc] := by kernel_rfl
@[go_sem] theorem isl_104 : isSliceT Try.prog 104 = false := by kernel_rfl
@[go_sem] theorem ist_104 : isStrT Try.prog 104 = false := by kernel_rfl
@[go_sem] theorem isp_104 : isPtrT Try.prog 104 = false := by kernel_rfl
@[go_sem] theorem isb_104 : isBoolT Try.prog 104 = false := by kernel_rfl
@[go_sem] theorem isi_104 : isIfaceT Try.prog 104 = false := by kernel_rfl
@[go_sem] theorem isn_104 : isIntT Try.prog 104 = none := by kernel_rfl
@[go_sem] theorem by_104 : bytesT Try.prog 104 = 8 := by kernel_rfl
@[go_sem] theorem sz_105 : szOf Try.prog 105 = some 1 := by kernel_rfl
@[go_sem] theorem ag_105 : isAggT Try.prog 105 = some false := by kernel_rfl
@[go_sem] theorem ze_105 : zeroL Try.prog 105 = some [.nilFunc] := by kernel_rfl
@[go_sem] theorem isl_105 : isSliceT Try.prog 105 = false := by kernel_rfl
@[go_sem] theorem ist_105 : isStrT Try.prog 105 = false := by kernel_rfl
@[go_sem] theorem isp_105 : isPtrT Try.prog 105 = false := by kernel_rfl
@[go_sem] theorem isb_105 : isBoolT Try.prog 105 = false := by kernel_rfl
@[go_sem] theorem isi_105 : isIfaceT Try.prog 105 = false := by kernel_rfl
@[go_sem] theorem isn_105 : isIntT Try.prog 105 = none := by kernel_rfl
@[go_sem] theorem by_105 : bytesT Try.prog 105 = 8 := by kernel_rfl
@[go_sem] theorem sz_106 : szOf Try.prog 106 = some 1 := by kernel_rfl
@[go_sem] theorem ag_106 : isAggT Try.prog 106 = some false := by kernel_rfl
@[go_sem] theorem ze_106 : zeroL Try.prog 106 = some [.nilFunc] := by kernel_rfl
@[go_sem] theorem isl_106 : isSliceT Try.prog 106 = false := by kernel_rfl
@[go_sem] theorem ist_106 : isStrT Try.prog 106 = false := by kernel_rfl
@[go_sem] theorem isp_106 : isPtrT Try.prog 106 = false := by kernel_rfl
@[go_sem] theorem isb_106 : isBoolT Try.prog 106 = false := by kernel_rfl
@[go_sem] theorem isi_106 : isIfaceT Try.prog 106 = false := by kernel_rfl
@[go_sem] theorem isn_106 : isIntT Try.prog 106 = none := by kernel_rfl
@[go_sem] theorem by_106 : bytesT Try.prog 106 = 8 := by kernel_rfl
@[go_sem] theorem sz_107 : szOf Try.prog 107 = some 1 := by kernel_rfl
@[go_sem] theorem ag_107 : isAggT Try.prog 107 = some false := by kernel_rfl
@[go_sem] theorem ze_107 : zeroL Try.prog 107 = some [.nilFunc] := by kernel_rfl
@[go_sem] theorem isl_107 : isSliceT Try.prog 107 = false := by kernel_rfl
@[go_sem] theorem ist_107 : isStrT Try.prog 107 = false := by kernel_rfl
@[go_sem] theorem isp_107 : isPtrT Try.prog 107 = false := by kernel_rfl
@[go_sem] theorem isb_107 : isBoolT Try.prog 107 = false := by kernel_rfl
@[go_sem] theorem isi_107 : isIfaceT Try.prog 107 = false := by kernel_rfl
@[go_sem] theorem isn_107 : isIntT Try.prog 107 = none := by kernel_rfl
@[go_sem] theorem by_107 : bytesT Try.prog 107 = 8 := by kernel_rfl
@[go_sem] theorem sz_108 : szOf Try.prog 108 = some 4 := by kernel_rfl
@[go_sem] theorem ag_108 : isAggT Try.prog 108 = some true := by kernel_rfl
@[go_sem] theorem ze_108 : zeroL Try.prog 108 = some [.pointer none, .pointer none, .pointer none, .string ⟨#[]⟩] := by kernel_rfl
@[go_sem] theorem fo_108_0 : fOff Try.prog 108 0 = some 0 := by kernel_rfl
@[go_sem] theorem ft_108_0 : fTy Try.prog 108 0 = some (17, 0) := by kernel_rfl
@[go_sem] theorem fo_108_1 : fOff Try.prog 108 1 = some 1 := by kernel_rfl
@[go_sem] theorem ft_108_1 : fTy Try.prog 108 1 = some (17, 1) := by kernel_rfl
@[go_sem] theorem fo_108_2 : fOff Try.prog 108 2 = some 2 := by kernel_rfl
@[go_sem] theorem ft_108_2 : fTy Try.prog 108 2 = some (17, 2) := by kernel_rfl
@[go_sem] theorem fo_108_3 : fOff Try.prog 108 3 = some 3 := by kernel_rfl
@[go_sem] theorem ft_108_3 : fTy Try.prog 108 3 = some (9, 3) := by kernel_rfl
@[go_sem] theorem pl_108 : places Try.prog 108 = some [(0, 1), (1, 1), (2, 1), (3, 1)] := by kernel_rfl
@[go_sem] theorem isl_108 : isSliceT Try.prog 108 = false := by kernel_rfl
@[go_sem] theorem ist_108 : isStrT Try.prog 108 = false := by kernel_rfl
@[go_sem] theorem isp_108 : isPtrT Try.prog 108 = false := by kernel_rfl
@[go_sem] theorem isb_108 : isBoolT Try.prog 108 = false := by kernel_rfl
@[go_sem] theorem isi_108 : isIfaceT Try.prog 108 = false := by kernel_rfl
@[go_sem] theorem isn_108 : isIntT Try.prog 108 = none := by kernel_rfl
@[go_sem] theorem by_108 : bytesT Try.prog 108 = 40 := by kernel_rfl
@[go_sem] theorem sz_109 : szOf Try.prog 109 = some 4 := by kernel_rfl
@[go_sem] theorem ag_109 : isAggT Try.prog 109 = some true := by kernel_rfl
@[go_sem] theorem ze_109 : zeroL Try.prog 109 = some [.pointer none, .pointer none, .pointer none, .string ⟨#[]⟩] := by kernel_rfl
@[go_sem] theorem fo_109_0 : fOff Try.prog 109 0 = some 0 := by kernel_rfl
@[go_sem] theorem ft_109_0 : fTy Try.prog 109 0 = some (17, 0) := by kernel_rfl
@[go_sem] theorem fo_109_1 : fOff Try.prog 109 1 = some 1 := by kernel_rfl
@[go_sem] theorem ft_109_1 : fTy Try.prog 109 1 = some (17, 1) := by kernel_rfl
@[go_sem] theorem fo_109_2 : fOff Try.prog 109 2 = some 2 := by kernel_rfl
@[go_sem] theorem ft_109_2 : fTy Try.prog 109 2 = some (17, 2) := by kernel_rfl
@[go_sem] theorem fo_109_3 : fOff Try.prog 109 3 = some 3 := by kernel_rfl
@[go_sem] theorem ft_109_3 : fTy Try.prog 109 3 = some (9, 3) := by kernel_rfl
@[go_sem] theorem pl_109 : places Try.prog 109 = some [(0, 1), (1, 1), (2, 1), (3, 1)] := by kernel_rfl
@[go_sem] theorem isl_109 : isSliceT Try.prog 109 = false := by kernel_rfl
@[go_sem] theorem ist_109 : isStrT Try.prog 109 = false := by kernel_rfl
@[go_sem] theorem isp_109 : isPtrT Try.prog 109 = false := by kernel_rfl
@[go_sem] theorem isb_109 : isBoolT Try.prog 109 = false := by kernel_rfl
@[go_sem] theorem isi_109 : isIfaceT Try.prog 109 = false := by kernel_rfl
@[go_sem] theorem isn_109 : isIntT Try.prog 109 = none := by kernel_rfl
@[go_sem] theorem by_109 : bytesT Try.prog 109 = 40 := by kernel_rfl
@[go_sem] theorem sz_110 : szOf Try.prog 110 = some 0 := by kernel_rfl
@[go_sem] theorem ag_110 : isAggT Try.prog 110 = some true := by kernel_rfl
@[go_sem] theorem ze_110 : zeroL Try.prog 110 = some [] := by kernel_rfl
@[go_sem] theorem isl_110 : isSliceT Try.prog 110 = false := by kernel_rfl
@[go_sem] theorem ist_110 : isStrT Try.prog 110 = false := by kernel_rfl
@[go_sem] theorem isp_110 : isPtrT Try.prog 110 = false := by kernel_rfl
@[go_sem] theorem isb_110 : isBoolT Try.prog 110 = false := by kernel_rfl
@[go_sem] theorem isi_110 : isIfaceT Try.prog 110 = false := by kernel_rfl
@[go_sem] theorem isn_110 : isIntT Try.prog 110 = none := by kernel_rfl
@[go_sem] theorem by_110 : bytesT Try.prog 110 = 0 := by kernel_rfl
@[go_sem] theorem sz_111 : szOf Try.prog 111 = some 0 := by kernel_rfl
@[go_sem] theorem ag_111 : isAggT Try.prog 111 = some true := by kernel_rfl
@[go_sem] theorem ze_111 : zeroL Try.prog 111 = some [] := by kernel_rfl
@[go_sem] theorem ft_111_0 : fTy Try.prog 111 0 = some (110, 0) := by kernel_rfl
@[go_sem] theorem pl_111 : places Try.prog 111 = some [(0, 0)] := by kernel_rfl
@[go_sem] theorem isl_111 : isSliceT Try.prog 111 = false := by kernel_rfl
@[go_sem] theorem ist_111 : isStrT Try.prog 111 = false := by kernel_rfl
@[go_sem] theorem isp_111 : isPtrT Try.prog 111 = false := by kernel_rfl
@[go_sem] theorem isb_111 : isBoolT Try.prog 111 = false := by kernel_rfl
@[go_sem] theorem isi_111 : isIfaceT Try.prog 111 = false := by kernel_rfl
@[go_sem] theorem isn_111 : isIntT Try.prog 111 = none := by kernel_rfl
@[go_sem] theorem by_111 : bytesT Try.prog 111 = 0 := by kernel_rfl
@[go_sem] theorem sz_112 : szOf Try.prog 112 = some 0 := by kernel_rfl
@[go_sem] theorem ag_112 : isAggT Try.prog 112 = some true := by kernel_rfl
@[go_sem] theorem ze_112 : zeroL Try.prog 112 = some [] := by kernel_rfl
@[go_sem] theorem ft_112_0 : fTy Try.prog 112 0 = some (110, 0) := by kernel_rfl
@[go_sem] theorem pl_112 : places Try.prog 112 = some [(0, 0)] := by kernel_rfl
@[go_sem] theorem isl_112 : isSliceT Try.prog 112 = false := by kernel_rfl
@[go_sem] theorem ist_112 : isStrT Try.prog 112 = false := by kernel_rfl
@[go_sem] theorem isp_112 : isPtrT Try.prog 112 = false := by kernel_rfl
@[go_sem] theorem isb_112 : isBoolT Try.prog 112 = false := by kernel_rfl
@[go_sem] theorem isi_112 : isIfaceT Try.prog 112 = false := by kernel_rfl
@[go_sem] theorem isn_112 : isIntT Try.prog 112 = none := by kernel_rfl
@[go_sem] theorem by_112 : bytesT Try.prog 112 = 0 := by kernel_rfl
@[go_sem] theorem sz_113 : szOf Try.prog 113 = some 1 := by kernel_rfl
@[go_sem] theorem ag_113 : isAggT Try.prog 113 = some false := by kernel_rfl
@[go_sem] theorem ze_113 : zeroL Try.prog 113 = some [.int .u32 0] := by kernel_rfl
@[go_sem] theorem isl_113 : isSliceT Try.prog 113 = false := by kernel_rfl
@[go_sem] theorem ist_113 : isStrT Try.prog 113 = false := by kernel_rfl
@[go_sem] theorem isp_113 : isPtrT Try.prog 113 = false := by kernel_rfl
@[go_sem] theorem isb_113 : isBoolT Try.prog 113 = false := by kernel_rfl
@[go_sem] theorem isi_113 : isIfaceT Try.prog 113 = false := by kernel_rfl
@[go_sem] theorem isn_113 : isIntT Try.prog 113 = some .u32 := by kernel_rfl
@[go_sem] theorem by_113 : bytesT Try.prog 113 = 4 := by kernel_rfl
@[go_sem] theorem sz_114 : szOf Try.prog 114 = some 1 := by kernel_rfl
@[go_sem] theorem ag_114 : isAggT Try.prog 114 = some false := by kernel_rfl
@[go_sem] theorem ze_114 : zeroL Try.prog 114 = some [.int .u8 0] := by kernel_rfl
@[go_sem] theorem isl_114 : isSliceT Try.prog 114 = false := by kernel_rfl
@[go_sem] theorem ist_114 : isStrT Try.prog 114 = false := by kernel_rfl
@[go_sem] theorem isp_114 : isPtrT Try.prog 114 = false := by kernel_rfl
@[go_sem] theorem isb_114 : isBoolT Try.prog 114 = false := by kernel_rfl
@[go_sem] theorem isi_114 : isIfaceT Try.prog 114 = false := by kernel_rfl
@[go_sem] theorem isn_114 : isIntT Try.prog 114 = some .u8 := by kernel_rfl
@[go_sem] theorem by_114 : bytesT Try.prog 114 = 1 := by kernel_rfl
@[go_sem] theorem sz_115 : szOf Try.prog 115 = some 1 := by kernel_rfl
@[go_sem] theorem ag_115 : isAggT Try.prog 115 = some false := by kernel_rfl
@[go_sem] theorem ze_115 : zeroL Try.prog 115 = some [.int .u8 0] := by kernel_rfl
@[go_sem] theorem isl_115 : isSliceT Try.prog 115 = false := by kernel_rfl
@[go_sem] theorem ist_115 : isStrT Try.prog 115 = false := by kernel_rfl
@[go_sem] theorem isp_115 : isPtrT Try.prog 115 = false := by kernel_rfl
@[go_sem] theorem isb_115 : isBoolT Try.prog 115 = false := by kernel_rfl
@[go_sem] theorem isi_115 : isIfaceT Try.prog 115 = false := by kernel_rfl
@[go_sem] theorem isn_115 : isIntT Try.prog 115 = some .u8 := by kernel_rfl
@[go_sem] theorem by_115 : bytesT Try.prog 115 = 1 := by kernel_rfl
@[go_sem] theorem sz_116 : szOf Try.prog 116 = some 1 := by kernel_rfl
@[go_sem] theorem ag_116 : isAggT Try.prog 116 = some false := by kernel_rfl
@[go_sem] theorem ze_116 : zeroL Try.prog 116 = some [.nilFunc] := by kernel_rfl
@[go_sem] theorem isl_116 : isSliceT Try.prog 116 = false := by kernel_rfl
@[go_sem] theorem ist_116 : isStrT Try.prog 116 = false := by kernel_rfl
@[go_sem] theorem isp_116 : isPtrT Try.prog 116 = false := by kernel_rfl
@[go_sem] theorem isb_116 : isBoolT Try.prog 116 = false := by kernel_rfl
@[go_sem] theorem isi_116 : isIfaceT Try.prog 116 = false := by kernel_rfl
@[go_sem] theorem isn_116 : isIntT Try.prog 116 = none := by kernel_rfl
@[go_sem] theorem by_116 : bytesT Try.prog 116 = 8 := by kernel_rfl
@[go_sem] theorem sz_117 : szOf Try.prog 117 = some 1 := by kernel_rfl
@[go_sem] theorem ag_117 : isAggT Try.prog 117 = some false := by kernel_rfl
@[go_sem] theorem ze_117 : zeroL Try.prog 117 = some [.pointer none] := by kernel_rfl
@[go_sem] theorem isl_117 : isSliceT Try.prog 117 = false := by kernel_rfl
@[go_sem] theorem ist_117 : isStrT Try.prog 117 = false := by kernel_rfl
@[go_sem] theorem isp_117 : isPtrT Try.prog 117 = true := by kernel_rfl
@[go_sem] theorem isb_117 : isBoolT Try.prog 117 = false := by kernel_rfl
@[go_sem] theorem isi_117 : isIfaceT Try.prog 117 = false := by kernel_rfl
@[go_sem] theorem isn_117 : isIntT Try.prog 117 = none := by kernel_rfl
@[go_sem] theorem by_117 : bytesT Try.prog 117 = 8 := by kernel_rfl
@[go_sem] theorem sz_118 : szOf Try.prog 118 = some 1 := by kernel_rfl
@[go_sem] theorem ag_118 : isAggT Try.prog 118 = some false := by kernel_rfl
@[go_sem] theorem ze_118 : zeroL Try.prog 118 = some [.int .i32 0] := by kernel_rfl
@[go_sem] theorem isl_118 : isSliceT Try.prog 118 = false := by kernel_rfl
@[go_sem] theorem ist_118 : isStrT Try.prog 118 = false := by kernel_rfl
@[go_sem] theorem isp_118 : isPtrT Try.prog 118 = false := by kernel_rfl
@[go_sem] theorem isb_118 : isBoolT Try.prog 118 = false := by kernel_rfl
@[go_sem] theorem isi_118 : isIfaceT Try.prog 118 = false := by kernel_rfl
@[go_sem] theorem isn_118 : isIntT Try.prog 118 = some .i32 := by kernel_rfl
@[go_sem] theorem by_118 : bytesT Try.prog 118 = 4 := by kernel_rfl
@[go_sem] theorem sz_119 : szOf Try.prog 119 = some 1 := by kernel_rfl
@[go_sem] theorem ag_119 : isAggT Try.prog 119 = some false := by kernel_rfl
@[go_sem] theorem ze_119 : zeroL Try.prog 119 = some [.int .i32 0] := by kernel_rfl
@[go_sem] theorem isl_119 : isSliceT Try.prog 119 = false := by kernel_rfl
@[go_sem] theorem ist_119 : isStrT Try.prog 119 = false := by kernel_rfl
@[go_sem] theorem isp_119 : isPtrT Try.prog 119 = false := by kernel_rfl
@[go_sem] theorem isb_119 : isBoolT Try.prog 119 = false := by kernel_rfl
@[go_sem] theorem isi_119 : isIfaceT Try.prog 119 = false := by kernel_rfl
@[go_sem] theorem isn_119 : isIntT Try.prog 119 = some .i32 := by kernel_rfl
@[go_sem] theorem by_119 : bytesT Try.prog 119 = 4 := by kernel_rfl
@[go_sem] theorem sz_120 : szOf Try.prog 120 = some 11 := by kernel_rfl
@[go_sem] theorem ag_120 : isAggT Try.prog 120 = some true := by kernel_rfl
@[go_sem] theorem ze_120 : zeroL Try.prog 120 = some [.int .u64 0, .int .u64 0, .int .u32 0, .int .u8 0, .int .u8 0, .int .u8 0, .int .u8 0, .nilFunc, .pointer none, .int .i32 0, .int .i32 0] := by kernel_rfl
@[go_sem] theorem fo_120_0 : fOff Try.prog 120 0 = some 0 := by kernel_rfl
@[go_sem] theorem ft_120_0 : fTy Try.prog 120 0 = some (12, 0) := by kernel_rfl
@[go_sem] theorem fo_120_1 : fOff Try.prog 120 1 = some 1 := by kernel_rfl
@[go_sem] theorem ft_120_1 : fTy Try.prog 120 1 = some (12, 1) := by kernel_rfl
@[go_sem] theorem fo_120_2 : fOff Try.prog 120 2 = some 2 := by kernel_rfl
@[go_sem] theorem ft_120_2 : fTy Try.prog 120 2 = some (113, 2) := by kernel_rfl
@[go_sem] theorem fo_120_3 : fOff Try.prog 120 3 = some 3 := by kernel_rfl
@[go_sem] theorem ft_120_3 : fTy Try.prog 120 3 = some (114, 3) := by kernel_rfl
@[go_sem] theorem fo_120_4 : fOff Try.prog 120 4 = some 4 := by kernel_rfl
@[go_sem] theorem ft_120_4 : fTy Try.prog 120 4 = some (5, 4) := by kernel_rfl
@[go_sem] theorem fo_120_5 : fOff Try.prog 120 5 = some 5 := by kernel_rfl
@[go_sem] theorem ft_120_5 : fTy Try.prog 120 5 = some (5, 5) := by kernel_rfl
@[go_sem] theorem fo_120_6 : fOff Try.prog 120 6 = some 6 := by kernel_rfl
@[go_sem] theorem ft_120_6 : fTy Try.prog 120 6 = some (115, 6) := by kernel_rfl
@[go_sem] theorem fo_120_7 : fOff Try.prog 120 7 = some 7 := by kernel_rfl
@[go_sem] theorem ft_120_7 : fTy Try.prog 120 7 = some (116, 7) := by kernel_rfl
@[go_sem] theorem fo_120_8 : fOff Try.prog 120 8 = some 8 := by kernel_rfl
@[go_sem] theorem ft_120_8 : fTy Try.prog 120 8 = some (117, 8) := by kernel_rfl
@[go_sem] theorem fo_120_9 : fOff Try.prog 120 9 = some 9 := by kernel_rfl
@[go_sem] theorem ft_120_9 : fTy Try.prog 120 9 = some (118, 9) := by kernel_rfl
@[go_sem] theorem fo_120_10 : fOff Try.prog 120 10 = some 10 := by kernel_rfl
@[go_sem] theorem ft_120_10 : fTy Try.prog 120 10 = some (119, 10) := by kernel_rfl
@[go_sem] theorem pl_120 : places Try.prog 120 = some [(0, 1), (1, 1), (2, 1), (3, 1), (4, 1), (5, 1), (6, 1), (7, 1), (8, 1), (9, 1), (10, 1)] := by kernel_rfl
@[go_sem] theorem isl_120 : isSliceT Try.prog 120 = false := by kernel_rfl
@[go_sem] theorem ist_120 : isStrT Try.prog 120 = false := by kernel_rfl
@[go_sem] theorem isp_120 : isPtrT Try.prog 120 = false := by kernel_rfl
@[go_sem] theorem isb_120 : isBoolT Try.prog 120 = false := by kernel_rfl
@[go_sem] theorem isi_120 : isIfaceT Try.prog 120 = false := by kernel_rfl
@[go_sem] theorem isn_120 : isIntT Try.prog 120 = none := by kernel_rfl
@[go_sem] theorem by_120 : bytesT Try.prog 120 = 48 := by kernel_rfl
@[go_sem] theorem sz_121 : szOf Try.prog 121 = some 11 := by kernel_rfl
@[go_sem] theorem ag_121 : isAggT Try.prog 121 = some true := by kernel_rfl
@[go_sem] theorem ze_121 : zeroL Try.prog 121 = some [.int .u64 0, .int .u64 0, .int .u32 0, .int .u8 0, .int .u8 0, .int .u8 0, .int .u8 0, .nilFunc, .pointer none, .int .i32 0, .int .i32 0] := by kernel_rfl
@[go_sem] theorem fo_121_0 : fOff Try.prog 121 0 = some 0 := by kernel_rfl
@[go_sem] theorem ft_121_0 : fTy Try.prog 121 0 = some (12, 0) := by kernel_rfl
@[go_sem] theorem fo_121_1 : fOff Try.prog 121 1 = some 1 := by kernel_rfl
@[go_sem] theorem ft_121_1 : fTy Try.prog 121 1 = some (12, 1) := by kernel_rfl
@[go_sem] theorem fo_121_2 : fOff Try.prog 121 2 = some 2 := by kernel_rfl
@[go_sem] theorem ft_121_2 : fTy Try.prog 121 2 = some (113, 2) := by kernel_rfl
@[go_sem] theorem fo_121_3 : fOff Try.prog 121 3 = some 3 := by kernel_rfl
@[go_sem] theorem ft_121_3 : fTy Try.prog 121 3 = some (114, 3) := by kernel_rfl
@[go_sem] theorem fo_121_4 : fOff Try.prog 121 4 = some 4 := by kernel_rfl
@[go_sem] theorem ft_121_4 : fTy Try.prog 121 4 = some (5, 4) := by kernel_rfl
@[go_sem] theorem fo_121_5 : fOff Try.prog 121 5 = some 5 := by kernel_rfl
@[go_sem] theorem ft_121_5 : fTy Try.prog 121 5 = some (5, 5) := by kernel_rfl
@[go_sem] theorem fo_121_6 : fOff Try.prog 121 6 = some 6 := by kernel_rfl
@[go_sem] theorem ft_121_6 : fTy Try.prog 121 6 = some (115, 6) := by kernel_rfl
@[go_sem] theorem fo_121_7 : fOff Try.prog 121 7 = some 7 := by kernel_rfl
@[go_sem] theorem ft_121_7 : fTy Try.prog 121 7 = some (116, 7) := by kernel_rfl
@[go_sem] theorem fo_121_8 : fOff Try.prog 121 8 = some 8 := by kernel_rfl
@[go_sem] theorem ft_121_8 : fTy Try.prog 121 8 = some (117, 8) := by kernel_rfl
@[go_sem] theorem fo_121_9 : fOff Try.prog 121 9 = some 9 := by kernel_rfl
@[go_sem] theorem ft_121_9 : fTy Try.prog 121 9 = some (118, 9) := by kernel_rfl
@[go_sem] theorem fo_121_10 : fOff Try.prog 121 10 = some 10 := by kernel_rfl
@[go_sem] theorem ft_121_10 : fTy Try.prog 121 10 = some (119, 10) := by kernel_rfl
@[go_sem] theorem pl_121 : places Try.prog 121 = some [(0, 1), (1, 1), (2, 1), (3, 1), (4, 1), (5, 1), (6, 1), (7, 1), (8, 1), (9, 1), (10, 1)] := by kernel_rfl
@[go_sem] theorem isl_121 : isSliceT Try.prog 121 = false := by kernel_rfl
@[go_sem] theorem ist_121 : isStrT Try.prog 121 = false := by kernel_rfl
@[go_sem] theorem isp_121 : isPtrT Try.prog 121 = false := by kernel_rfl
@[go_sem] theorem isb_121 : isBoolT Try.prog 121 = false := by kernel_rfl
@[go_sem] theorem isi_121 : isIfaceT Try.prog 121 = false := by kernel_rfl
@[go_sem] theorem isn_121 : isIntT Try.prog 121 = none := by kernel_rfl
@[go_sem] theorem by_121 : bytesT Try.prog 121 = 48 := by kernel_rfl
@[go_sem] theorem sz_122 : szOf Try.prog 122 = some 1 := by kernel_rfl
@[go_sem] theorem ag_122 : isAggT Try.prog 122 = some false := by kernel_rfl
@[go_sem] theorem isl_122 : isSliceT Try.prog 122 = false := by kernel_rfl
@[go_sem] theorem ist_122 : isStrT Try.prog 122 = false := by kernel_rfl
@[go_sem] theorem isp_122 : isPtrT Try.prog 122 = false := by kernel_rfl
@[go_sem] theorem isb_122 : isBoolT Try.prog 122 = false := by kernel_rfl
@[go_sem] theorem isi_122 : isIfaceT Try.prog 122 = false := by kernel_rfl
@[go_sem] theorem isn_122 : isIntT Try.prog 122 = none := by kernel_rfl
@[go_sem] theorem by_122 : bytesT Try.prog 122 = 8 := by kernel_rfl
@[go_sem] theorem cb_2 : callable Try.prog 2 = true := by kernel_rfl
@[go_sem] theorem cb_3 : callable Try.prog 3 = true := by kernel_rfl
@[go_sem] theorem cb_4 : callable Try.prog 4 = true := by kernel_rfl
@[go_sem] theorem cb_5 : callable Try.prog 5 = true := by kernel_rfl
@[go_sem] theorem cb_6 : callable Try.prog 6 = true := by kernel_rfl
@[go_sem] theorem cb_7 : callable Try.prog 7 = true := by kernel_rfl
@[go_sem] theorem cb_8 : callable Try.prog 8 = true := by kernel_rfl
@[go_sem] theorem cb_9 : callable Try.prog 9 = true := by kernel_rfl
@[go_sem] theorem cb_10 : callable Try.prog 10 = true := by kernel_rfl
@[go_sem] theorem cb_11 : callable Try.prog 11 = true := by kernel_rfl
@[go_sem] theorem cb_12 : callable Try.prog 12 = true := by kernel_rfl
@[go_sem] theorem cb_13 : callable Try.prog 13 = true := by kernel_rfl
@[go_sem] theorem cb_14 : callable Try.prog 14 = true := by kernel_rfl
@[go_sem] theorem cb_15 : callable Try.prog 15 = true := by kernel_rfl
@[go_sem] theorem cb_16 : callable Try.prog 16 = true := by kernel_rfl
@[go_sem] theorem cb_17 : callable Try.prog 17 = true := by kernel_rfl
@[go_sem] theorem cb_18 : callable Try.prog 18 = true := by kernel_rfl
@[go_sem] theorem cb_19 : callable Try.prog 19 = true := by kernel_rfl
@[go_sem] theorem cb_20 : callable Try.prog 20 = true := by kernel_rfl
@[go_sem] theorem cb_21 : callable Try.prog 21 = true := by kernel_rfl
@[go_sem] theorem cb_22 : callable Try.prog 22 = true := by kernel_rfl
@[go_sem] theorem cb_23 : callable Try.prog 23 = true := by kernel_rfl
@[go_sem] theorem cb_24 : callable Try.prog 24 = true := by kernel_rfl
@[go_sem] theorem cb_25 : callable Try.prog 25 = true := by kernel_rfl
@[go_sem] theorem cb_26 : callable Try.prog 26 = true := by kernel_rfl
@[go_sem] theorem cb_27 : callable Try.prog 27 = true := by kernel_rfl
@[go_sem] theorem cb_28 : callable Try.prog 28 = true := by kernel_rfl
@[go_sem] theorem cb_29 : callable Try.prog 29 = true := by kernel_rfl
@[go_sem] theorem cb_30 : callable Try.prog 30 = true := by kernel_rfl
@[go_sem] theorem cb_31 : callable Try.prog 31 = true := by kernel_rfl
@[go_sem] theorem cb_32 : callable Try.prog 32 = true := by kernel_rfl
@[go_sem] theorem cb_33 : callable Try.prog 33 = true := by kernel_rfl
@[go_sem] theorem cb_34 : callable Try.prog 34 = true := by kernel_rfl
@[go_sem] theorem cb_35 : callable Try.prog 35 = true := by kernel_rfl
@[go_sem] theorem cb_36 : callable Try.prog 36 = true := by kernel_rfl
@[go_sem] theorem cb_37 : callable Try.prog 37 = true := by kernel_rfl
@[go_sem] theorem cb_38 : callable Try.prog 38 = true := by kernel_rfl
@[go_sem] theorem cb_39 : callable Try.prog 39 = true := by kernel_rfl
@[go_sem] theorem cb_40 : callable Try.prog 40 = true := by kernel_rfl
@[go_sem] theorem cb_41 : callable Try.prog 41 = true := by kernel_rfl
@[go_sem] theorem cb_42 : callable Try.prog 42 = true := by kernel_rfl
@[go_sem] theorem cb_43 : callable Try.prog 43 = true := by kernel_rfl
@[go_sem] theorem cb_44 : callable Try.prog 44 = true := by kernel_rfl
@[go_sem] theorem cb_45 : callable Try.prog 45 = true := by kernel_rfl
@[go_sem] theorem cb_46 : callable Try.prog 46 = true := by kernel_rfl
@[go_sem] theorem cb_47 : callable Try.prog 47 = true := by kernel_rfl
@[go_sem] theorem cb_48 : callable Try.prog 48 = true := by kernel_rfl
@[go_sem] theorem cb_49 : callable Try.prog 49 = true := by kernel_rfl
@[go_sem] theorem cb_50 : callable Try.prog 50 = true := by kernel_rfl
@[go_sem] theorem cb_52 : callable Try.prog 52 = true := by kernel_rfl
@[go_sem] theorem cb_53 : callable Try.prog 53 = true := by kernel_rfl
@[go_sem] theorem cb_54 : callable Try.prog 54 = true := by kernel_rfl
@[go_sem] theorem cb_55 : callable Try.prog 55 = true := by kernel_rfl
@[go_sem] theorem cb_56 : callable Try.prog 56 = true := by kernel_rfl
@[go_sem] theorem cb_57 : callable Try.prog 57 = true := by kernel_rfl
@[go_sem] theorem cb_58 : callable Try.prog 58 = true := by kernel_rfl
@[go_sem] theorem cb_59 : callable Try.prog 59 = true := by kernel_rfl
@[go_sem] theorem cb_61 : callable Try.prog 61 = true := by kernel_rfl
@[go_sem] theorem cb_62 : callable Try.prog 62 = true := by kernel_rfl
@[go_sem] theorem cb_63 : callable Try.prog 63 = true := by kernel_rfl
@[go_sem] theorem cb_64 : callable Try.prog 64 = true := by kernel_rfl
@[go_sem] theorem cb_65 : callable Try.prog 65 = true := by kernel_rfl
@[go_sem] theorem cb_67 : callable Try.prog 67 = true := by kernel_rfl
@[go_sem] theorem cb_68 : callable Try.prog 68 = true := by kernel_rfl
@[go_sem] theorem cb_69 : callable Try.prog 69 = true := by kernel_rfl
@[go_sem] theorem cb_70 : callable Try.prog 70 = true := by kernel_rfl
@[go_sem] theorem cb_71 : callable Try.prog 71 = true := by kernel_rfl
@[go_sem] theorem cb_72 : callable Try.prog 72 = true := by kernel_rfl
@[go_sem] theorem cb_73 : callable Try.prog 73 = true := by kernel_rfl
@[go_sem] theorem cb_74 : callable Try.prog 74 = true := by kernel_rfl
theorem mixed : Try.prog.follows .mixedOrders = true := by kernel_rfl
end Go.Proofs.Ytfjjdhhppmppnaa
