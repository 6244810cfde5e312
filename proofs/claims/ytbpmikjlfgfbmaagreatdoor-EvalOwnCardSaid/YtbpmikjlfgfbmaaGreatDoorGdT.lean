/- The facts on the types and functions of the translation, as the kernel reckons them. No conditions. -/
import Derived.Test.YtbpmikjlfgfbmaaGreatDoorGdK
import Derived.Test.YtbpmikjlfgfbmaaGreatDoorProg
import Derived.KernelRfl
set_option linter.all false
namespace Go.Proofs.YtbpmikjlfgfbmaaGreatDoor
open Go Go.Gd
@[go_sem] theorem sz_1 : szOf Tryz.prog 1 = some 1 := by kernel_rfl
@[go_sem] theorem ag_1 : isAggT Tryz.prog 1 = some false := by kernel_rfl
@[go_sem] theorem ze_1 : zeroL Tryz.prog 1 = some [.nilFunc] := by kernel_rfl
@[go_sem] theorem isl_1 : isSliceT Tryz.prog 1 = false := by kernel_rfl
@[go_sem] theorem ist_1 : isStrT Tryz.prog 1 = false := by kernel_rfl
@[go_sem] theorem isp_1 : isPtrT Tryz.prog 1 = false := by kernel_rfl
@[go_sem] theorem isb_1 : isBoolT Tryz.prog 1 = false := by kernel_rfl
@[go_sem] theorem isi_1 : isIfaceT Tryz.prog 1 = false := by kernel_rfl
@[go_sem] theorem isn_1 : isIntT Tryz.prog 1 = none := by kernel_rfl
@[go_sem] theorem by_1 : bytesT Tryz.prog 1 = 8 := by kernel_rfl
@[go_sem] theorem sz_2 : szOf Tryz.prog 2 = some 1 := by kernel_rfl
@[go_sem] theorem ag_2 : isAggT Tryz.prog 2 = some false := by kernel_rfl
@[go_sem] theorem ze_2 : zeroL Tryz.prog 2 = some [.int .i64 0] := by kernel_rfl
@[go_sem] theorem isl_2 : isSliceT Tryz.prog 2 = false := by kernel_rfl
@[go_sem] theorem ist_2 : isStrT Tryz.prog 2 = false := by kernel_rfl
@[go_sem] theorem isp_2 : isPtrT Tryz.prog 2 = false := by kernel_rfl
@[go_sem] theorem isb_2 : isBoolT Tryz.prog 2 = false := by kernel_rfl
@[go_sem] theorem isi_2 : isIfaceT Tryz.prog 2 = false := by kernel_rfl
@[go_sem] theorem isn_2 : isIntT Tryz.prog 2 = some .i64 := by kernel_rfl
@[go_sem] theorem by_2 : bytesT Tryz.prog 2 = 8 := by kernel_rfl
@[go_sem] theorem sz_3 : szOf Tryz.prog 3 = some 1 := by kernel_rfl
@[go_sem] theorem ag_3 : isAggT Tryz.prog 3 = some false := by kernel_rfl
@[go_sem] theorem ze_3 : zeroL Tryz.prog 3 = some [.int .i64 0] := by kernel_rfl
@[go_sem] theorem isl_3 : isSliceT Tryz.prog 3 = false := by kernel_rfl
@[go_sem] theorem ist_3 : isStrT Tryz.prog 3 = false := by kernel_rfl
@[go_sem] theorem isp_3 : isPtrT Tryz.prog 3 = false := by kernel_rfl
@[go_sem] theorem isb_3 : isBoolT Tryz.prog 3 = false := by kernel_rfl
@[go_sem] theorem isi_3 : isIfaceT Tryz.prog 3 = false := by kernel_rfl
@[go_sem] theorem isn_3 : isIntT Tryz.prog 3 = some .i64 := by kernel_rfl
@[go_sem] theorem by_3 : bytesT Tryz.prog 3 = 8 := by kernel_rfl
@[go_sem] theorem sz_4 : szOf Tryz.prog 4 = some 1 := by kernel_rfl
@[go_sem] theorem ag_4 : isAggT Tryz.prog 4 = some false := by kernel_rfl
@[go_sem] theorem ze_4 : zeroL Tryz.prog 4 = some [.bool false] := by kernel_rfl
@[go_sem] theorem isl_4 : isSliceT Tryz.prog 4 = false := by kernel_rfl
@[go_sem] theorem ist_4 : isStrT Tryz.prog 4 = false := by kernel_rfl
@[go_sem] theorem isp_4 : isPtrT Tryz.prog 4 = false := by kernel_rfl
@[go_sem] theorem isb_4 : isBoolT Tryz.prog 4 = true := by kernel_rfl
@[go_sem] theorem isi_4 : isIfaceT Tryz.prog 4 = false := by kernel_rfl
@[go_sem] theorem isn_4 : isIntT Tryz.prog 4 = none := by kernel_rfl
@[go_sem] theorem by_4 : bytesT Tryz.prog 4 = 1 := by kernel_rfl
@[go_sem] theorem sz_5 : szOf Tryz.prog 5 = some 1 := by kernel_rfl
@[go_sem] theorem ag_5 : isAggT Tryz.prog 5 = some false := by kernel_rfl
@[go_sem] theorem ze_5 : zeroL Tryz.prog 5 = some [.int .u8 0] := by kernel_rfl
@[go_sem] theorem isl_5 : isSliceT Tryz.prog 5 = false := by kernel_rfl
@[go_sem] theorem ist_5 : isStrT Tryz.prog 5 = false := by kernel_rfl
@[go_sem] theorem isp_5 : isPtrT Tryz.prog 5 = false := by kernel_rfl
@[go_sem] theorem isb_5 : isBoolT Tryz.prog 5 = false := by kernel_rfl
@[go_sem] theorem isi_5 : isIfaceT Tryz.prog 5 = false := by kernel_rfl
@[go_sem] theorem isn_5 : isIntT Tryz.prog 5 = some .u8 := by kernel_rfl
@[go_sem] theorem by_5 : bytesT Tryz.prog 5 = 1 := by kernel_rfl
@[go_sem] theorem sz_6 : szOf Tryz.prog 6 = some 1 := by kernel_rfl
@[go_sem] theorem ag_6 : isAggT Tryz.prog 6 = some false := by kernel_rfl
@[go_sem] theorem ze_6 : zeroL Tryz.prog 6 = some [.int .u8 0] := by kernel_rfl
@[go_sem] theorem isl_6 : isSliceT Tryz.prog 6 = false := by kernel_rfl
@[go_sem] theorem ist_6 : isStrT Tryz.prog 6 = false := by kernel_rfl
@[go_sem] theorem isp_6 : isPtrT Tryz.prog 6 = false := by kernel_rfl
@[go_sem] theorem isb_6 : isBoolT Tryz.prog 6 = false := by kernel_rfl
@[go_sem] theorem isi_6 : isIfaceT Tryz.prog 6 = false := by kernel_rfl
@[go_sem] theorem isn_6 : isIntT Tryz.prog 6 = some .u8 := by kernel_rfl
@[go_sem] theorem by_6 : bytesT Tryz.prog 6 = 1 := by kernel_rfl
@[go_sem] theorem sz_7 : szOf Tryz.prog 7 = some 4 := by kernel_rfl
@[go_sem] theorem ag_7 : isAggT Tryz.prog 7 = some true := by kernel_rfl
@[go_sem] theorem ze_7 : zeroL Tryz.prog 7 = some [.int .i64 0, .int .i64 0, .bool false, .int .u8 0] := by kernel_rfl
@[go_sem] theorem fo_7_0 : fOff Tryz.prog 7 0 = some 0 := by kernel_rfl
@[go_sem] theorem ft_7_0 : fTy Tryz.prog 7 0 = some (2, 0) := by kernel_rfl
@[go_sem] theorem fo_7_1 : fOff Tryz.prog 7 1 = some 1 := by kernel_rfl
@[go_sem] theorem ft_7_1 : fTy Tryz.prog 7 1 = some (3, 1) := by kernel_rfl
@[go_sem] theorem fo_7_2 : fOff Tryz.prog 7 2 = some 2 := by kernel_rfl
@[go_sem] theorem ft_7_2 : fTy Tryz.prog 7 2 = some (4, 2) := by kernel_rfl
@[go_sem] theorem fo_7_3 : fOff Tryz.prog 7 3 = some 3 := by kernel_rfl
@[go_sem] theorem ft_7_3 : fTy Tryz.prog 7 3 = some (6, 3) := by kernel_rfl
@[go_sem] theorem pl_7 : places Tryz.prog 7 = some [(0, 1), (1, 1), (2, 1), (3, 1)] := by kernel_rfl
@[go_sem] theorem eqk_7 : eqKinds Tryz.prog 7 = some [.int .i64, .int .i64, .bool, .int .u8] := by kernel_rfl
@[go_sem] theorem isl_7 : isSliceT Tryz.prog 7 = false := by kernel_rfl
@[go_sem] theorem ist_7 : isStrT Tryz.prog 7 = false := by kernel_rfl
@[go_sem] theorem isp_7 : isPtrT Tryz.prog 7 = false := by kernel_rfl
@[go_sem] theorem isb_7 : isBoolT Tryz.prog 7 = false := by kernel_rfl
@[go_sem] theorem isi_7 : isIfaceT Tryz.prog 7 = false := by kernel_rfl
@[go_sem] theorem isn_7 : isIntT Tryz.prog 7 = none := by kernel_rfl
@[go_sem] theorem by_7 : bytesT Tryz.prog 7 = 24 := by kernel_rfl
@[go_sem] theorem sz_8 : szOf Tryz.prog 8 = some 4 := by kernel_rfl
@[go_sem] theorem ag_8 : isAggT Tryz.prog 8 = some true := by kernel_rfl
@[go_sem] theorem ze_8 : zeroL Tryz.prog 8 = some [.int .i64 0, .int .i64 0, .bool false, .int .u8 0] := by kernel_rfl
@[go_sem] theorem fo_8_0 : fOff Tryz.prog 8 0 = some 0 := by kernel_rfl
@[go_sem] theorem ft_8_0 : fTy Tryz.prog 8 0 = some (2, 0) := by kernel_rfl
@[go_sem] theorem fo_8_1 : fOff Tryz.prog 8 1 = some 1 := by kernel_rfl
@[go_sem] theorem ft_8_1 : fTy Tryz.prog 8 1 = some (3, 1) := by kernel_rfl
@[go_sem] theorem fo_8_2 : fOff Tryz.prog 8 2 = some 2 := by kernel_rfl
@[go_sem] theorem ft_8_2 : fTy Tryz.prog 8 2 = some (4, 2) := by kernel_rfl
@[go_sem] theorem fo_8_3 : fOff Tryz.prog 8 3 = some 3 := by kernel_rfl
@[go_sem] theorem ft_8_3 : fTy Tryz.prog 8 3 = some (6, 3) := by kernel_rfl
@[go_sem] theorem pl_8 : places Tryz.prog 8 = some [(0, 1), (1, 1), (2, 1), (3, 1)] := by kernel_rfl
@[go_sem] theorem isl_8 : isSliceT Tryz.prog 8 = false := by kernel_rfl
@[go_sem] theorem ist_8 : isStrT Tryz.prog 8 = false := by kernel_rfl
@[go_sem] theorem isp_8 : isPtrT Tryz.prog 8 = false := by kernel_rfl
@[go_sem] theorem isb_8 : isBoolT Tryz.prog 8 = false := by kernel_rfl
@[go_sem] theorem isi_8 : isIfaceT Tryz.prog 8 = false := by kernel_rfl
@[go_sem] theorem isn_8 : isIntT Tryz.prog 8 = none := by kernel_rfl
@[go_sem] theorem by_8 : bytesT Tryz.prog 8 = 24 := by kernel_rfl
@[go_sem] theorem sz_9 : szOf Tryz.prog 9 = some 1 := by kernel_rfl
@[go_sem] theorem ag_9 : isAggT Tryz.prog 9 = some false := by kernel_rfl
@[go_sem] theorem ze_9 : zeroL Tryz.prog 9 = some [.string ⟨#[]⟩] := by kernel_rfl
@[go_sem] theorem isl_9 : isSliceT Tryz.prog 9 = false := by kernel_rfl
@[go_sem] theorem ist_9 : isStrT Tryz.prog 9 = true := by kernel_rfl
@[go_sem] theorem isp_9 : isPtrT Tryz.prog 9 = false := by kernel_rfl
@[go_sem] theorem isb_9 : isBoolT Tryz.prog 9 = false := by kernel_rfl
@[go_sem] theorem isi_9 : isIfaceT Tryz.prog 9 = false := by kernel_rfl
@[go_sem] theorem isn_9 : isIntT Tryz.prog 9 = none := by kernel_rfl
@[go_sem] theorem by_9 : bytesT Tryz.prog 9 = 16 := by kernel_rfl
@[go_sem] theorem sz_10 : szOf Tryz.prog 10 = some 1 := by kernel_rfl
@[go_sem] theorem ag_10 : isAggT Tryz.prog 10 = some false := by kernel_rfl
@[go_sem] theorem ze_10 : zeroL Tryz.prog 10 = some [.string ⟨#[]⟩] := by kernel_rfl
@[go_sem] theorem isl_10 : isSliceT Tryz.prog 10 = false := by kernel_rfl
@[go_sem] theorem ist_10 : isStrT Tryz.prog 10 = true := by kernel_rfl
@[go_sem] theorem isp_10 : isPtrT Tryz.prog 10 = false := by kernel_rfl
@[go_sem] theorem isb_10 : isBoolT Tryz.prog 10 = false := by kernel_rfl
@[go_sem] theorem isi_10 : isIfaceT Tryz.prog 10 = false := by kernel_rfl
@[go_sem] theorem isn_10 : isIntT Tryz.prog 10 = none := by kernel_rfl
@[go_sem] theorem by_10 : bytesT Tryz.prog 10 = 16 := by kernel_rfl
@[go_sem] theorem sz_11 : szOf Tryz.prog 11 = some 1 := by kernel_rfl
@[go_sem] theorem ag_11 : isAggT Tryz.prog 11 = some false := by kernel_rfl
@[go_sem] theorem ze_11 : zeroL Tryz.prog 11 = some [.string ⟨#[]⟩] := by kernel_rfl
@[go_sem] theorem isl_11 : isSliceT Tryz.prog 11 = false := by kernel_rfl
@[go_sem] theorem ist_11 : isStrT Tryz.prog 11 = true := by kernel_rfl
@[go_sem] theorem isp_11 : isPtrT Tryz.prog 11 = false := by kernel_rfl
@[go_sem] theorem isb_11 : isBoolT Tryz.prog 11 = false := by kernel_rfl
@[go_sem] theorem isi_11 : isIfaceT Tryz.prog 11 = false := by kernel_rfl
@[go_sem] theorem isn_11 : isIntT Tryz.prog 11 = none := by kernel_rfl
@[go_sem] theorem by_11 : bytesT Tryz.prog 11 = 16 := by kernel_rfl
@[go_sem] theorem sz_12 : szOf Tryz.prog 12 = some 1 := by kernel_rfl
@[go_sem] theorem ag_12 : isAggT Tryz.prog 12 = some false := by kernel_rfl
@[go_sem] theorem ze_12 : zeroL Tryz.prog 12 = some [.int .u64 0] := by kernel_rfl
@[go_sem] theorem isl_12 : isSliceT Tryz.prog 12 = false := by kernel_rfl
@[go_sem] theorem ist_12 : isStrT Tryz.prog 12 = false := by kernel_rfl
@[go_sem] theorem isp_12 : isPtrT Tryz.prog 12 = false := by kernel_rfl
@[go_sem] theorem isb_12 : isBoolT Tryz.prog 12 = false := by kernel_rfl
@[go_sem] theorem isi_12 : isIfaceT Tryz.prog 12 = false := by kernel_rfl
@[go_sem] theorem isn_12 : isIntT Tryz.prog 12 = some .u64 := by kernel_rfl
@[go_sem] theorem by_12 : bytesT Tryz.prog 12 = 8 := by kernel_rfl
@[go_sem] theorem sz_13 : szOf Tryz.prog 13 = some 2 := by kernel_rfl
@[go_sem] theorem ag_13 : isAggT Tryz.prog 13 = some true := by kernel_rfl
@[go_sem] theorem ze_13 : zeroL Tryz.prog 13 = some [.string ⟨#[]⟩, .int .u64 0] := by kernel_rfl
@[go_sem] theorem fo_13_0 : fOff Tryz.prog 13 0 = some 0 := by kernel_rfl
@[go_sem] theorem ft_13_0 : fTy Tryz.prog 13 0 = some (9, 0) := by kernel_rfl
@[go_sem] theorem fo_13_1 : fOff Tryz.prog 13 1 = some 1 := by kernel_rfl
@[go_sem] theorem ft_13_1 : fTy Tryz.prog 13 1 = some (12, 1) := by kernel_rfl
@[go_sem] theorem pl_13 : places Tryz.prog 13 = some [(0, 1), (1, 1)] := by kernel_rfl
@[go_sem] theorem isl_13 : isSliceT Tryz.prog 13 = false := by kernel_rfl
@[go_sem] theorem ist_13 : isStrT Tryz.prog 13 = false := by kernel_rfl
@[go_sem] theorem isp_13 : isPtrT Tryz.prog 13 = false := by kernel_rfl
@[go_sem] theorem isb_13 : isBoolT Tryz.prog 13 = false := by kernel_rfl
@[go_sem] theorem isi_13 : isIfaceT Tryz.prog 13 = false := by kernel_rfl
@[go_sem] theorem isn_13 : isIntT Tryz.prog 13 = none := by kernel_rfl
@[go_sem] theorem by_13 : bytesT Tryz.prog 13 = 24 := by kernel_rfl
@[go_sem] theorem sz_14 : szOf Tryz.prog 14 = some 2 := by kernel_rfl
@[go_sem] theorem ag_14 : isAggT Tryz.prog 14 = some true := by kernel_rfl
@[go_sem] theorem ze_14 : zeroL Tryz.prog 14 = some [.string ⟨#[]⟩, .int .u64 0] := by kernel_rfl
@[go_sem] theorem fo_14_0 : fOff Tryz.prog 14 0 = some 0 := by kernel_rfl
@[go_sem] theorem ft_14_0 : fTy Tryz.prog 14 0 = some (9, 0) := by kernel_rfl
@[go_sem] theorem fo_14_1 : fOff Tryz.prog 14 1 = some 1 := by kernel_rfl
@[go_sem] theorem ft_14_1 : fTy Tryz.prog 14 1 = some (12, 1) := by kernel_rfl
@[go_sem] theorem pl_14 : places Tryz.prog 14 = some [(0, 1), (1, 1)] := by kernel_rfl
@[go_sem] theorem isl_14 : isSliceT Tryz.prog 14 = false := by kernel_rfl
@[go_sem] theorem ist_14 : isStrT Tryz.prog 14 = false := by kernel_rfl
@[go_sem] theorem isp_14 : isPtrT Tryz.prog 14 = false := by kernel_rfl
@[go_sem] theorem isb_14 : isBoolT Tryz.prog 14 = false := by kernel_rfl
@[go_sem] theorem isi_14 : isIfaceT Tryz.prog 14 = false := by kernel_rfl
@[go_sem] theorem isn_14 : isIntT Tryz.prog 14 = none := by kernel_rfl
@[go_sem] theorem by_14 : bytesT Tryz.prog 14 = 24 := by kernel_rfl
@[go_sem] theorem sz_15 : szOf Tryz.prog 15 = some 1 := by kernel_rfl
@[go_sem] theorem ag_15 : isAggT Tryz.prog 15 = some false := by kernel_rfl
@[go_sem] theorem ze_15 : zeroL Tryz.prog 15 = some [.pointer none] := by kernel_rfl
@[go_sem] theorem isl_15 : isSliceT Tryz.prog 15 = false := by kernel_rfl
@[go_sem] theorem ist_15 : isStrT Tryz.prog 15 = false := by kernel_rfl
@[go_sem] theorem isp_15 : isPtrT Tryz.prog 15 = true := by kernel_rfl
@[go_sem] theorem isb_15 : isBoolT Tryz.prog 15 = false := by kernel_rfl
@[go_sem] theorem isi_15 : isIfaceT Tryz.prog 15 = false := by kernel_rfl
@[go_sem] theorem isn_15 : isIntT Tryz.prog 15 = none := by kernel_rfl
@[go_sem] theorem by_15 : bytesT Tryz.prog 15 = 8 := by kernel_rfl
@[go_sem] theorem sz_16 : szOf Tryz.prog 16 = some 1 := by kernel_rfl
@[go_sem] theorem ag_16 : isAggT Tryz.prog 16 = some false := by kernel_rfl
@[go_sem] theorem ze_16 : zeroL Tryz.prog 16 = some [.pointer none] := by kernel_rfl
@[go_sem] theorem isl_16 : isSliceT Tryz.prog 16 = false := by kernel_rfl
@[go_sem] theorem ist_16 : isStrT Tryz.prog 16 = false := by kernel_rfl
@[go_sem] theorem isp_16 : isPtrT Tryz.prog 16 = true := by kernel_rfl
@[go_sem] theorem isb_16 : isBoolT Tryz.prog 16 = false := by kernel_rfl
@[go_sem] theorem isi_16 : isIfaceT Tryz.prog 16 = false := by kernel_rfl
@[go_sem] theorem isn_16 : isIntT Tryz.prog 16 = none := by kernel_rfl
@[go_sem] theorem by_16 : bytesT Tryz.prog 16 = 8 := by kernel_rfl
@[go_sem] theorem sz_17 : szOf Tryz.prog 17 = some 1 := by kernel_rfl
@[go_sem] theorem ag_17 : isAggT Tryz.prog 17 = some false := by kernel_rfl
@[go_sem] theorem ze_17 : zeroL Tryz.prog 17 = some [.pointer none] := by kernel_rfl
@[go_sem] theorem isl_17 : isSliceT Tryz.prog 17 = false := by kernel_rfl
@[go_sem] theorem ist_17 : isStrT Tryz.prog 17 = false := by kernel_rfl
@[go_sem] theorem isp_17 : isPtrT Tryz.prog 17 = true := by kernel_rfl
@[go_sem] theorem isb_17 : isBoolT Tryz.prog 17 = false := by kernel_rfl
@[go_sem] theorem isi_17 : isIfaceT Tryz.prog 17 = false := by kernel_rfl
@[go_sem] theorem isn_17 : isIntT Tryz.prog 17 = none := by kernel_rfl
@[go_sem] theorem by_17 : bytesT Tryz.prog 17 = 8 := by kernel_rfl
@[go_sem] theorem sz_18 : szOf Tryz.prog 18 = some 1 := by kernel_rfl
@[go_sem] theorem ag_18 : isAggT Tryz.prog 18 = some true := by kernel_rfl
@[go_sem] theorem ze_18 : zeroL Tryz.prog 18 = some [.pointer none] := by kernel_rfl
@[go_sem] theorem fo_18_0 : fOff Tryz.prog 18 0 = some 0 := by kernel_rfl
@[go_sem] theorem ft_18_0 : fTy Tryz.prog 18 0 = some (17, 0) := by kernel_rfl
@[go_sem] theorem pl_18 : places Tryz.prog 18 = some [(0, 1)] := by kernel_rfl
@[go_sem] theorem isl_18 : isSliceT Tryz.prog 18 = false := by kernel_rfl
@[go_sem] theorem ist_18 : isStrT Tryz.prog 18 = false := by kernel_rfl
@[go_sem] theorem isp_18 : isPtrT Tryz.prog 18 = false := by kernel_rfl
@[go_sem] theorem isb_18 : isBoolT Tryz.prog 18 = false := by kernel_rfl
@[go_sem] theorem isi_18 : isIfaceT Tryz.prog 18 = false := by kernel_rfl
@[go_sem] theorem isn_18 : isIntT Tryz.prog 18 = none := by kernel_rfl
@[go_sem] theorem by_18 : bytesT Tryz.prog 18 = 8 := by kernel_rfl
@[go_sem] theorem sz_19 : szOf Tryz.prog 19 = some 1 := by kernel_rfl
@[go_sem] theorem ag_19 : isAggT Tryz.prog 19 = some true := by kernel_rfl
@[go_sem] theorem ze_19 : zeroL Tryz.prog 19 = some [.pointer none] := by kernel_rfl
@[go_sem] theorem fo_19_0 : fOff Tryz.prog 19 0 = some 0 := by kernel_rfl
@[go_sem] theorem ft_19_0 : fTy Tryz.prog 19 0 = some (17, 0) := by kernel_rfl
@[go_sem] theorem pl_19 : places Tryz.prog 19 = some [(0, 1)] := by kernel_rfl
@[go_sem] theorem isl_19 : isSliceT Tryz.prog 19 = false := by kernel_rfl
@[go_sem] theorem ist_19 : isStrT Tryz.prog 19 = false := by kernel_rfl
@[go_sem] theorem isp_19 : isPtrT Tryz.prog 19 = false := by kernel_rfl
@[go_sem] theorem isb_19 : isBoolT Tryz.prog 19 = false := by kernel_rfl
@[go_sem] theorem isi_19 : isIfaceT Tryz.prog 19 = false := by kernel_rfl
@[go_sem] theorem isn_19 : isIntT Tryz.prog 19 = none := by kernel_rfl
@[go_sem] theorem by_19 : bytesT Tryz.prog 19 = 8 := by kernel_rfl
@[go_sem] theorem sz_20 : szOf Tryz.prog 20 = some 1 := by kernel_rfl
@[go_sem] theorem ag_20 : isAggT Tryz.prog 20 = some false := by kernel_rfl
@[go_sem] theorem ze_20 : zeroL Tryz.prog 20 = some [.nilIface] := by kernel_rfl
@[go_sem] theorem isl_20 : isSliceT Tryz.prog 20 = false := by kernel_rfl
@[go_sem] theorem ist_20 : isStrT Tryz.prog 20 = false := by kernel_rfl
@[go_sem] theorem isp_20 : isPtrT Tryz.prog 20 = false := by kernel_rfl
@[go_sem] theorem isb_20 : isBoolT Tryz.prog 20 = false := by kernel_rfl
@[go_sem] theorem isi_20 : isIfaceT Tryz.prog 20 = true := by kernel_rfl
@[go_sem] theorem isn_20 : isIntT Tryz.prog 20 = none := by kernel_rfl
@[go_sem] theorem by_20 : bytesT Tryz.prog 20 = 16 := by kernel_rfl
@[go_sem] theorem sz_21 : szOf Tryz.prog 21 = some 1 := by kernel_rfl
@[go_sem] theorem ag_21 : isAggT Tryz.prog 21 = some false := by kernel_rfl
@[go_sem] theorem ze_21 : zeroL Tryz.prog 21 = some [.int .i32 0] := by kernel_rfl
@[go_sem] theorem isl_21 : isSliceT Tryz.prog 21 = false := by kernel_rfl
@[go_sem] theorem ist_21 : isStrT Tryz.prog 21 = false := by kernel_rfl
@[go_sem] theorem isp_21 : isPtrT Tryz.prog 21 = false := by kernel_rfl
@[go_sem] theorem isb_21 : isBoolT Tryz.prog 21 = false := by kernel_rfl
@[go_sem] theorem isi_21 : isIfaceT Tryz.prog 21 = false := by kernel_rfl
@[go_sem] theorem isn_21 : isIntT Tryz.prog 21 = some .i32 := by kernel_rfl
@[go_sem] theorem by_21 : bytesT Tryz.prog 21 = 4 := by kernel_rfl
@[go_sem] theorem sz_22 : szOf Tryz.prog 22 = some 1 := by kernel_rfl
@[go_sem] theorem ag_22 : isAggT Tryz.prog 22 = some false := by kernel_rfl
@[go_sem] theorem ze_22 : zeroL Tryz.prog 22 = some [.slice none 0 0] := by kernel_rfl
@[go_sem] theorem un_22 : Tryz.prog.underlying 22 = some (.slice 44) := by kernel_rfl
@[go_sem] theorem el_22 : elT Tryz.prog 22 = some 44 := by kernel_rfl
@[go_sem] theorem es_22 : elSz Tryz.prog 22 = some 3 := by kernel_rfl
@[go_sem] theorem isl_22 : isSliceT Tryz.prog 22 = true := by kernel_rfl
@[go_sem] theorem ist_22 : isStrT Tryz.prog 22 = false := by kernel_rfl
@[go_sem] theorem isp_22 : isPtrT Tryz.prog 22 = false := by kernel_rfl
@[go_sem] theorem isb_22 : isBoolT Tryz.prog 22 = false := by kernel_rfl
@[go_sem] theorem isi_22 : isIfaceT Tryz.prog 22 = false := by kernel_rfl
@[go_sem] theorem isn_22 : isIntT Tryz.prog 22 = none := by kernel_rfl
@[go_sem] theorem by_22 : bytesT Tryz.prog 22 = 24 := by kernel_rfl
@[go_sem] theorem sz_23 : szOf Tryz.prog 23 = some 1 := by kernel_rfl
@[go_sem] theorem ag_23 : isAggT Tryz.prog 23 = some false := by kernel_rfl
@[go_sem] theorem ze_23 : zeroL Tryz.prog 23 = some [.slice none 0 0] := by kernel_rfl
@[go_sem] theorem un_23 : Tryz.prog.underlying 23 = some (.slice 31) := by kernel_rfl
@[go_sem] theorem el_23 : elT Tryz.prog 23 = some 31 := by kernel_rfl
@[go_sem] theorem es_23 : elSz Tryz.prog 23 = some 1 := by kernel_rfl
@[go_sem] theorem isl_23 : isSliceT Tryz.prog 23 = true := by kernel_rfl
@[go_sem] theorem ist_23 : isStrT Tryz.prog 23 = false := by kernel_rfl
@[go_sem] theorem isp_23 : isPtrT Tryz.prog 23 = false := by kernel_rfl
@[go_sem] theorem isb_23 : isBoolT Tryz.prog 23 = false := by kernel_rfl
@[go_sem] theorem isi_23 : isIfaceT Tryz.prog 23 = false := by kernel_rfl
@[go_sem] theorem isn_23 : isIntT Tryz.prog 23 = none := by kernel_rfl
@[go_sem] theorem by_23 : bytesT Tryz.prog 23 = 24 := by kernel_rfl
@[go_sem] theorem sz_24 : szOf Tryz.prog 24 = some 2 := by kernel_rfl
@[go_sem] theorem ag_24 : isAggT Tryz.prog 24 = some true := by kernel_rfl
@[go_sem] theorem ze_24 : zeroL Tryz.prog 24 = some [.slice none 0 0, .slice none 0 0] := by kernel_rfl
@[go_sem] theorem fo_24_0 : fOff Tryz.prog 24 0 = some 0 := by kernel_rfl
@[go_sem] theorem ft_24_0 : fTy Tryz.prog 24 0 = some (22, 0) := by kernel_rfl
@[go_sem] theorem fo_24_1 : fOff Tryz.prog 24 1 = some 1 := by kernel_rfl
@[go_sem] theorem ft_24_1 : fTy Tryz.prog 24 1 = some (23, 1) := by kernel_rfl
@[go_sem] theorem pl_24 : places Tryz.prog 24 = some [(0, 1), (1, 1)] := by kernel_rfl
@[go_sem] theorem isl_24 : isSliceT Tryz.prog 24 = false := by kernel_rfl
@[go_sem] theorem ist_24 : isStrT Tryz.prog 24 = false := by kernel_rfl
@[go_sem] theorem isp_24 : isPtrT Tryz.prog 24 = false := by kernel_rfl
@[go_sem] theorem isb_24 : isBoolT Tryz.prog 24 = false := by kernel_rfl
@[go_sem] theorem isi_24 : isIfaceT Tryz.prog 24 = false := by kernel_rfl
@[go_sem] theorem isn_24 : isIntT Tryz.prog 24 = none := by kernel_rfl
@[go_sem] theorem by_24 : bytesT Tryz.prog 24 = 48 := by kernel_rfl
@[go_sem] theorem sz_25 : szOf Tryz.prog 25 = some 2 := by kernel_rfl
@[go_sem] theorem ag_25 : isAggT Tryz.prog 25 = some true := by kernel_rfl
@[go_sem] theorem ze_25 : zeroL Tryz.prog 25 = some [.slice none 0 0, .slice none 0 0] := by kernel_rfl
@[go_sem] theorem fo_25_0 : fOff Tryz.prog 25 0 = some 0 := by kernel_rfl
@[go_sem] theorem ft_25_0 : fTy Tryz.prog 25 0 = some (22, 0) := by kernel_rfl
@[go_sem] theorem fo_25_1 : fOff Tryz.prog 25 1 = some 1 := by kernel_rfl
@[go_sem] theorem ft_25_1 : fTy Tryz.prog 25 1 = some (23, 1) := by kernel_rfl
@[go_sem] theorem pl_25 : places Tryz.prog 25 = some [(0, 1), (1, 1)] := by kernel_rfl
@[go_sem] theorem isl_25 : isSliceT Tryz.prog 25 = false := by kernel_rfl
@[go_sem] theorem ist_25 : isStrT Tryz.prog 25 = false := by kernel_rfl
@[go_sem] theorem isp_25 : isPtrT Tryz.prog 25 = false := by kernel_rfl
@[go_sem] theorem isb_25 : isBoolT Tryz.prog 25 = false := by kernel_rfl
@[go_sem] theorem isi_25 : isIfaceT Tryz.prog 25 = false := by kernel_rfl
@[go_sem] theorem isn_25 : isIntT Tryz.prog 25 = none := by kernel_rfl
@[go_sem] theorem by_25 : bytesT Tryz.prog 25 = 48 := by kernel_rfl
@[go_sem] theorem sz_26 : szOf Tryz.prog 26 = some 1 := by kernel_rfl
@[go_sem] theorem ag_26 : isAggT Tryz.prog 26 = some false := by kernel_rfl
@[go_sem] theorem ze_26 : zeroL Tryz.prog 26 = some [.nilFunc] := by kernel_rfl
@[go_sem] theorem isl_26 : isSliceT Tryz.prog 26 = false := by kernel_rfl
@[go_sem] theorem ist_26 : isStrT Tryz.prog 26 = false := by kernel_rfl
@[go_sem] theorem isp_26 : isPtrT Tryz.prog 26 = false := by kernel_rfl
@[go_sem] theorem isb_26 : isBoolT Tryz.prog 26 = false := by kernel_rfl
@[go_sem] theorem isi_26 : isIfaceT Tryz.prog 26 = false := by kernel_rfl
@[go_sem] theorem isn_26 : isIntT Tryz.prog 26 = none := by kernel_rfl
@[go_sem] theorem by_26 : bytesT Tryz.prog 26 = 8 := by kernel_rfl
@[go_sem] theorem sz_27 : szOf Tryz.prog 27 = some 1 := by kernel_rfl
@[go_sem] theorem ag_27 : isAggT Tryz.prog 27 = some false := by kernel_rfl
@[go_sem] theorem ze_27 : zeroL Tryz.prog 27 = some [.slice none 0 0] := by kernel_rfl
@[go_sem] theorem un_27 : Tryz.prog.underlying 27 = some (.slice 42) := by kernel_rfl
@[go_sem] theorem el_27 : elT Tryz.prog 27 = some 42 := by kernel_rfl
@[go_sem] theorem es_27 : elSz Tryz.prog 27 = some 5 := by kernel_rfl
@[go_sem] theorem isl_27 : isSliceT Tryz.prog 27 = true := by kernel_rfl
@[go_sem] theorem ist_27 : isStrT Tryz.prog 27 = false := by kernel_rfl
@[go_sem] theorem isp_27 : isPtrT Tryz.prog 27 = false := by kernel_rfl
@[go_sem] theorem isb_27 : isBoolT Tryz.prog 27 = false := by kernel_rfl
@[go_sem] theorem isi_27 : isIfaceT Tryz.prog 27 = false := by kernel_rfl
@[go_sem] theorem isn_27 : isIntT Tryz.prog 27 = none := by kernel_rfl
@[go_sem] theorem by_27 : bytesT Tryz.prog 27 = 24 := by kernel_rfl
@[go_sem] theorem sz_28 : szOf Tryz.prog 28 = some 1 := by kernel_rfl
@[go_sem] theorem ag_28 : isAggT Tryz.prog 28 = some false := by kernel_rfl
@[go_sem] theorem ze_28 : zeroL Tryz.prog 28 = some [.slice none 0 0] := by kernel_rfl
@[go_sem] theorem un_28 : Tryz.prog.underlying 28 = some (.slice 78) := by kernel_rfl
@[go_sem] theorem el_28 : elT Tryz.prog 28 = some 78 := by kernel_rfl
@[go_sem] theorem es_28 : elSz Tryz.prog 28 = some 5 := by kernel_rfl
@[go_sem] theorem isl_28 : isSliceT Tryz.prog 28 = true := by kernel_rfl
@[go_sem] theorem ist_28 : isStrT Tryz.prog 28 = false := by kernel_rfl
@[go_sem] theorem isp_28 : isPtrT Tryz.prog 28 = false := by kernel_rfl
@[go_sem] theorem isb_28 : isBoolT Tryz.prog 28 = false := by kernel_rfl
@[go_sem] theorem isi_28 : isIfaceT Tryz.prog 28 = false := by kernel_rfl
@[go_sem] theorem isn_28 : isIntT Tryz.prog 28 = none := by kernel_rfl
@[go_sem] theorem by_28 : bytesT Tryz.prog 28 = 24 := by kernel_rfl
@[go_sem] theorem sz_29 : szOf Tryz.prog 29 = some 2 := by kernel_rfl
@[go_sem] theorem ag_29 : isAggT Tryz.prog 29 = some true := by kernel_rfl
@[go_sem] theorem ze_29 : zeroL Tryz.prog 29 = some [.slice none 0 0, .slice none 0 0] := by kernel_rfl
@[go_sem] theorem fo_29_0 : fOff Tryz.prog 29 0 = some 0 := by kernel_rfl
@[go_sem] theorem ft_29_0 : fTy Tryz.prog 29 0 = some (27, 0) := by kernel_rfl
@[go_sem] theorem fo_29_1 : fOff Tryz.prog 29 1 = some 1 := by kernel_rfl
@[go_sem] theorem ft_29_1 : fTy Tryz.prog 29 1 = some (28, 1) := by kernel_rfl
@[go_sem] theorem pl_29 : places Tryz.prog 29 = some [(0, 1), (1, 1)] := by kernel_rfl
@[go_sem] theorem isl_29 : isSliceT Tryz.prog 29 = false := by kernel_rfl
@[go_sem] theorem ist_29 : isStrT Tryz.prog 29 = false := by kernel_rfl
@[go_sem] theorem isp_29 : isPtrT Tryz.prog 29 = false := by kernel_rfl
@[go_sem] theorem isb_29 : isBoolT Tryz.prog 29 = false := by kernel_rfl
@[go_sem] theorem isi_29 : isIfaceT Tryz.prog 29 = false := by kernel_rfl
@[go_sem] theorem isn_29 : isIntT Tryz.prog 29 = none := by kernel_rfl
@[go_sem] theorem by_29 : bytesT Tryz.prog 29 = 48 := by kernel_rfl
@[go_sem] theorem sz_30 : szOf Tryz.prog 30 = some 2 := by kernel_rfl
@[go_sem] theorem ag_30 : isAggT Tryz.prog 30 = some true := by kernel_rfl
@[go_sem] theorem ze_30 : zeroL Tryz.prog 30 = some [.slice none 0 0, .slice none 0 0] := by kernel_rfl
@[go_sem] theorem fo_30_0 : fOff Tryz.prog 30 0 = some 0 := by kernel_rfl
@[go_sem] theorem ft_30_0 : fTy Tryz.prog 30 0 = some (27, 0) := by kernel_rfl
@[go_sem] theorem fo_30_1 : fOff Tryz.prog 30 1 = some 1 := by kernel_rfl
@[go_sem] theorem ft_30_1 : fTy Tryz.prog 30 1 = some (28, 1) := by kernel_rfl
@[go_sem] theorem pl_30 : places Tryz.prog 30 = some [(0, 1), (1, 1)] := by kernel_rfl
@[go_sem] theorem isl_30 : isSliceT Tryz.prog 30 = false := by kernel_rfl
@[go_sem] theorem ist_30 : isStrT Tryz.prog 30 = false := by kernel_rfl
@[go_sem] theorem isp_30 : isPtrT Tryz.prog 30 = false := by kernel_rfl
@[go_sem] theorem isb_30 : isBoolT Tryz.prog 30 = false := by kernel_rfl
@[go_sem] theorem isi_30 : isIfaceT Tryz.prog 30 = false := by kernel_rfl
@[go_sem] theorem isn_30 : isIntT Tryz.prog 30 = none := by kernel_rfl
@[go_sem] theorem by_30 : bytesT Tryz.prog 30 = 48 := by kernel_rfl
@[go_sem] theorem sz_31 : szOf Tryz.prog 31 = some 1 := by kernel_rfl
@[go_sem] theorem ag_31 : isAggT Tryz.prog 31 = some false := by kernel_rfl
@[go_sem] theorem ze_31 : zeroL Tryz.prog 31 = some [.slice none 0 0] := by kernel_rfl
@[go_sem] theorem un_31 : Tryz.prog.underlying 31 = some (.slice 3) := by kernel_rfl
@[go_sem] theorem el_31 : elT Tryz.prog 31 = some 3 := by kernel_rfl
@[go_sem] theorem es_31 : elSz Tryz.prog 31 = some 1 := by kernel_rfl
@[go_sem] theorem isl_31 : isSliceT Tryz.prog 31 = true := by kernel_rfl
@[go_sem] theorem ist_31 : isStrT Tryz.prog 31 = false := by kernel_rfl
@[go_sem] theorem isp_31 : isPtrT Tryz.prog 31 = false := by kernel_rfl
@[go_sem] theorem isb_31 : isBoolT Tryz.prog 31 = false := by kernel_rfl
@[go_sem] theorem isi_31 : isIfaceT Tryz.prog 31 = false := by kernel_rfl
@[go_sem] theorem isn_31 : isIntT Tryz.prog 31 = none := by kernel_rfl
@[go_sem] theorem by_31 : bytesT Tryz.prog 31 = 24 := by kernel_rfl
@[go_sem] theorem sz_32 : szOf Tryz.prog 32 = some 6 := by kernel_rfl
@[go_sem] theorem ag_32 : isAggT Tryz.prog 32 = some true := by kernel_rfl
@[go_sem] theorem ze_32 : zeroL Tryz.prog 32 = some [.slice none 0 0, .slice none 0 0, .slice none 0 0, .slice none 0 0, .slice none 0 0, .slice none 0 0] := by kernel_rfl
@[go_sem] theorem fo_32_0 : fOff Tryz.prog 32 0 = some 0 := by kernel_rfl
@[go_sem] theorem ft_32_0 : fTy Tryz.prog 32 0 = some (30, 0) := by kernel_rfl
@[go_sem] theorem fo_32_1 : fOff Tryz.prog 32 1 = some 2 := by kernel_rfl
@[go_sem] theorem ft_32_1 : fTy Tryz.prog 32 1 = some (31, 2) := by kernel_rfl
@[go_sem] theorem fo_32_2 : fOff Tryz.prog 32 2 = some 3 := by kernel_rfl
@[go_sem] theorem ft_32_2 : fTy Tryz.prog 32 2 = some (31, 3) := by kernel_rfl
@[go_sem] theorem fo_32_3 : fOff Tryz.prog 32 3 = some 4 := by kernel_rfl
@[go_sem] theorem ft_32_3 : fTy Tryz.prog 32 3 = some (31, 4) := by kernel_rfl
@[go_sem] theorem fo_32_4 : fOff Tryz.prog 32 4 = some 5 := by kernel_rfl
@[go_sem] theorem ft_32_4 : fTy Tryz.prog 32 4 = some (31, 5) := by kernel_rfl
@[go_sem] theorem pl_32 : places Tryz.prog 32 = some [(0, 2), (2, 1), (3, 1), (4, 1), (5, 1)] := by kernel_rfl
@[go_sem] theorem isl_32 : isSliceT Tryz.prog 32 = false := by kernel_rfl
@[go_sem] theorem ist_32 : isStrT Tryz.prog 32 = false := by kernel_rfl
@[go_sem] theorem isp_32 : isPtrT Tryz.prog 32 = false := by kernel_rfl
@[go_sem] theorem isb_32 : isBoolT Tryz.prog 32 = false := by kernel_rfl
@[go_sem] theorem isi_32 : isIfaceT Tryz.prog 32 = false := by kernel_rfl
@[go_sem] theorem isn_32 : isIntT Tryz.prog 32 = none := by kernel_rfl
@[go_sem] theorem by_32 : bytesT Tryz.prog 32 = 144 := by kernel_rfl
@[go_sem] theorem sz_33 : szOf Tryz.prog 33 = some 6 := by kernel_rfl
@[go_sem] theorem ag_33 : isAggT Tryz.prog 33 = some true := by kernel_rfl
@[go_sem] theorem ze_33 : zeroL Tryz.prog 33 = some [.slice none 0 0, .slice none 0 0, .slice none 0 0, .slice none 0 0, .slice none 0 0, .slice none 0 0] := by kernel_rfl
@[go_sem] theorem fo_33_0 : fOff Tryz.prog 33 0 = some 0 := by kernel_rfl
@[go_sem] theorem ft_33_0 : fTy Tryz.prog 33 0 = some (30, 0) := by kernel_rfl
@[go_sem] theorem fo_33_1 : fOff Tryz.prog 33 1 = some 2 := by kernel_rfl
@[go_sem] theorem ft_33_1 : fTy Tryz.prog 33 1 = some (31, 2) := by kernel_rfl
@[go_sem] theorem fo_33_2 : fOff Tryz.prog 33 2 = some 3 := by kernel_rfl
@[go_sem] theorem ft_33_2 : fTy Tryz.prog 33 2 = some (31, 3) := by kernel_rfl
@[go_sem] theorem fo_33_3 : fOff Tryz.prog 33 3 = some 4 := by kernel_rfl
@[go_sem] theorem ft_33_3 : fTy Tryz.prog 33 3 = some (31, 4) := by kernel_rfl
@[go_sem] theorem fo_33_4 : fOff Tryz.prog 33 4 = some 5 := by kernel_rfl
@[go_sem] theorem ft_33_4 : fTy Tryz.prog 33 4 = some (31, 5) := by kernel_rfl
@[go_sem] theorem pl_33 : places Tryz.prog 33 = some [(0, 2), (2, 1), (3, 1), (4, 1), (5, 1)] := by kernel_rfl
@[go_sem] theorem isl_33 : isSliceT Tryz.prog 33 = false := by kernel_rfl
@[go_sem] theorem ist_33 : isStrT Tryz.prog 33 = false := by kernel_rfl
@[go_sem] theorem isp_33 : isPtrT Tryz.prog 33 = false := by kernel_rfl
@[go_sem] theorem isb_33 : isBoolT Tryz.prog 33 = false := by kernel_rfl
@[go_sem] theorem isi_33 : isIfaceT Tryz.prog 33 = false := by kernel_rfl
@[go_sem] theorem isn_33 : isIntT Tryz.prog 33 = none := by kernel_rfl
@[go_sem] theorem by_33 : bytesT Tryz.prog 33 = 144 := by kernel_rfl
@[go_sem] theorem sz_34 : szOf Tryz.prog 34 = some 1 := by kernel_rfl
@[go_sem] theorem ag_34 : isAggT Tryz.prog 34 = some false := by kernel_rfl
@[go_sem] theorem ze_34 : zeroL Tryz.prog 34 = some [.int .i64 0] := by kernel_rfl
@[go_sem] theorem isl_34 : isSliceT Tryz.prog 34 = false := by kernel_rfl
@[go_sem] theorem ist_34 : isStrT Tryz.prog 34 = false := by kernel_rfl
@[go_sem] theorem isp_34 : isPtrT Tryz.prog 34 = false := by kernel_rfl
@[go_sem] theorem isb_34 : isBoolT Tryz.prog 34 = false := by kernel_rfl
@[go_sem] theorem isi_34 : isIfaceT Tryz.prog 34 = false := by kernel_rfl
@[go_sem] theorem isn_34 : isIntT Tryz.prog 34 = some .i64 := by kernel_rfl
@[go_sem] theorem by_34 : bytesT Tryz.prog 34 = 8 := by kernel_rfl
@[go_sem] theorem sz_36 : szOf Tryz.prog 36 = some 1 := by kernel_rfl
@[go_sem] theorem ag_36 : isAggT Tryz.prog 36 = some false := by kernel_rfl
@[go_sem] theorem ze_36 : zeroL Tryz.prog 36 = some [.nilFunc] := by kernel_rfl
@[go_sem] theorem isl_36 : isSliceT Tryz.prog 36 = false := by kernel_rfl
@[go_sem] theorem ist_36 : isStrT Tryz.prog 36 = false := by kernel_rfl
@[go_sem] theorem isp_36 : isPtrT Tryz.prog 36 = false := by kernel_rfl
@[go_sem] theorem isb_36 : isBoolT Tryz.prog 36 = false := by kernel_rfl
@[go_sem] theorem isi_36 : isIfaceT Tryz.prog 36 = false := by kernel_rfl
@[go_sem] theorem isn_36 : isIntT Tryz.prog 36 = none := by kernel_rfl
@[go_sem] theorem by_36 : bytesT Tryz.prog 36 = 8 := by kernel_rfl
@[go_sem] theorem sz_37 : szOf Tryz.prog 37 = some 1 := by kernel_rfl
@[go_sem] theorem ag_37 : isAggT Tryz.prog 37 = some false := by kernel_rfl
@[go_sem] theorem ze_37 : zeroL Tryz.prog 37 = some [.nilFunc] := by kernel_rfl
@[go_sem] theorem isl_37 : isSliceT Tryz.prog 37 = false := by kernel_rfl
@[go_sem] theorem ist_37 : isStrT Tryz.prog 37 = false := by kernel_rfl
@[go_sem] theorem isp_37 : isPtrT Tryz.prog 37 = false := by kernel_rfl
@[go_sem] theorem isb_37 : isBoolT Tryz.prog 37 = false := by kernel_rfl
@[go_sem] theorem isi_37 : isIfaceT Tryz.prog 37 = false := by kernel_rfl
@[go_sem] theorem isn_37 : isIntT Tryz.prog 37 = none := by kernel_rfl
@[go_sem] theorem by_37 : bytesT Tryz.prog 37 = 8 := by kernel_rfl
@[go_sem] theorem sz_39 : szOf Tryz.prog 39 = some 1 := by kernel_rfl
@[go_sem] theorem ag_39 : isAggT Tryz.prog 39 = some false := by kernel_rfl
@[go_sem] theorem ze_39 : zeroL Tryz.prog 39 = some [.nilFunc] := by kernel_rfl
@[go_sem] theorem isl_39 : isSliceT Tryz.prog 39 = false := by kernel_rfl
@[go_sem] theorem ist_39 : isStrT Tryz.prog 39 = false := by kernel_rfl
@[go_sem] theorem isp_39 : isPtrT Tryz.prog 39 = false := by kernel_rfl
@[go_sem] theorem isb_39 : isBoolT Tryz.prog 39 = false := by kernel_rfl
@[go_sem] theorem isi_39 : isIfaceT Tryz.prog 39 = false := by kernel_rfl
@[go_sem] theorem isn_39 : isIntT Tryz.prog 39 = none := by kernel_rfl
@[go_sem] theorem by_39 : bytesT Tryz.prog 39 = 8 := by kernel_rfl
@[go_sem] theorem sz_40 : szOf Tryz.prog 40 = some 1 := by kernel_rfl
@[go_sem] theorem ag_40 : isAggT Tryz.prog 40 = some false := by kernel_rfl
@[go_sem] theorem ze_40 : zeroL Tryz.prog 40 = some [.nilFunc] := by kernel_rfl
@[go_sem] theorem isl_40 : isSliceT Tryz.prog 40 = false := by kernel_rfl
@[go_sem] theorem ist_40 : isStrT Tryz.prog 40 = false := by kernel_rfl
@[go_sem] theorem isp_40 : isPtrT Tryz.prog 40 = false := by kernel_rfl
@[go_sem] theorem isb_40 : isBoolT Tryz.prog 40 = false := by kernel_rfl
@[go_sem] theorem isi_40 : isIfaceT Tryz.prog 40 = false := by kernel_rfl
@[go_sem] theorem isn_40 : isIntT Tryz.prog 40 = none := by kernel_rfl
@[go_sem] theorem by_40 : bytesT Tryz.prog 40 = 8 := by kernel_rfl
@[go_sem] theorem sz_41 : szOf Tryz.prog 41 = some 5 := by kernel_rfl
@[go_sem] theorem ag_41 : isAggT Tryz.prog 41 = some true := by kernel_rfl
@[go_sem] theorem ze_41 : zeroL Tryz.prog 41 = some [.int .i64 0, .int .i64 0, .int .i64 0, .string ⟨#[]⟩, .slice none 0 0] := by kernel_rfl
@[go_sem] theorem fo_41_0 : fOff Tryz.prog 41 0 = some 0 := by kernel_rfl
@[go_sem] theorem ft_41_0 : fTy Tryz.prog 41 0 = some (3, 0) := by kernel_rfl
@[go_sem] theorem fo_41_1 : fOff Tryz.prog 41 1 = some 1 := by kernel_rfl
@[go_sem] theorem ft_41_1 : fTy Tryz.prog 41 1 = some (3, 1) := by kernel_rfl
@[go_sem] theorem fo_41_2 : fOff Tryz.prog 41 2 = some 2 := by kernel_rfl
@[go_sem] theorem ft_41_2 : fTy Tryz.prog 41 2 = some (3, 2) := by kernel_rfl
@[go_sem] theorem fo_41_3 : fOff Tryz.prog 41 3 = some 3 := by kernel_rfl
@[go_sem] theorem ft_41_3 : fTy Tryz.prog 41 3 = some (9, 3) := by kernel_rfl
@[go_sem] theorem fo_41_4 : fOff Tryz.prog 41 4 = some 4 := by kernel_rfl
@[go_sem] theorem ft_41_4 : fTy Tryz.prog 41 4 = some (31, 4) := by kernel_rfl
@[go_sem] theorem pl_41 : places Tryz.prog 41 = some [(0, 1), (1, 1), (2, 1), (3, 1), (4, 1)] := by kernel_rfl
@[go_sem] theorem isl_41 : isSliceT Tryz.prog 41 = false := by kernel_rfl
@[go_sem] theorem ist_41 : isStrT Tryz.prog 41 = false := by kernel_rfl
@[go_sem] theorem isp_41 : isPtrT Tryz.prog 41 = false := by kernel_rfl
@[go_sem] theorem isb_41 : isBoolT Tryz.prog 41 = false := by kernel_rfl
@[go_sem] theorem isi_41 : isIfaceT Tryz.prog 41 = false := by kernel_rfl
@[go_sem] theorem isn_41 : isIntT Tryz.prog 41 = none := by kernel_rfl
@[go_sem] theorem by_41 : bytesT Tryz.prog 41 = 64 := by kernel_rfl
@[go_sem] theorem sz_42 : szOf Tryz.prog 42 = some 5 := by kernel_rfl
@[go_sem] theorem ag_42 : isAggT Tryz.prog 42 = some true := by kernel_rfl
@[go_sem] theorem ze_42 : zeroL Tryz.prog 42 = some [.int .i64 0, .int .i64 0, .int .i64 0, .string ⟨#[]⟩, .slice none 0 0] := by kernel_rfl
@[go_sem] theorem fo_42_0 : fOff Tryz.prog 42 0 = some 0 := by kernel_rfl
@[go_sem] theorem ft_42_0 : fTy Tryz.prog 42 0 = some (3, 0) := by kernel_rfl
@[go_sem] theorem fo_42_1 : fOff Tryz.prog 42 1 = some 1 := by kernel_rfl
@[go_sem] theorem ft_42_1 : fTy Tryz.prog 42 1 = some (3, 1) := by kernel_rfl
@[go_sem] theorem fo_42_2 : fOff Tryz.prog 42 2 = some 2 := by kernel_rfl
@[go_sem] theorem ft_42_2 : fTy Tryz.prog 42 2 = some (3, 2) := by kernel_rfl
@[go_sem] theorem fo_42_3 : fOff Tryz.prog 42 3 = some 3 := by kernel_rfl
@[go_sem] theorem ft_42_3 : fTy Tryz.prog 42 3 = some (9, 3) := by kernel_rfl
@[go_sem] theorem fo_42_4 : fOff Tryz.prog 42 4 = some 4 := by kernel_rfl
@[go_sem] theorem ft_42_4 : fTy Tryz.prog 42 4 = some (31, 4) := by kernel_rfl
@[go_sem] theorem pl_42 : places Tryz.prog 42 = some [(0, 1), (1, 1), (2, 1), (3, 1), (4, 1)] := by kernel_rfl
@[go_sem] theorem isl_42 : isSliceT Tryz.prog 42 = false := by kernel_rfl
@[go_sem] theorem ist_42 : isStrT Tryz.prog 42 = false := by kernel_rfl
@[go_sem] theorem isp_42 : isPtrT Tryz.prog 42 = false := by kernel_rfl
@[go_sem] theorem isb_42 : isBoolT Tryz.prog 42 = false := by kernel_rfl
@[go_sem] theorem isi_42 : isIfaceT Tryz.prog 42 = false := by kernel_rfl
@[go_sem] theorem isn_42 : isIntT Tryz.prog 42 = none := by kernel_rfl
@[go_sem] theorem by_42 : bytesT Tryz.prog 42 = 64 := by kernel_rfl
@[go_sem] theorem sz_43 : szOf Tryz.prog 43 = some 3 := by kernel_rfl
@[go_sem] theorem ag_43 : isAggT Tryz.prog 43 = some true := by kernel_rfl
@[go_sem] theorem ze_43 : zeroL Tryz.prog 43 = some [.int .i64 0, .int .i64 0, .string ⟨#[]⟩] := by kernel_rfl
@[go_sem] theorem fo_43_0 : fOff Tryz.prog 43 0 = some 0 := by kernel_rfl
@[go_sem] theorem ft_43_0 : fTy Tryz.prog 43 0 = some (3, 0) := by kernel_rfl
@[go_sem] theorem fo_43_1 : fOff Tryz.prog 43 1 = some 1 := by kernel_rfl
@[go_sem] theorem ft_43_1 : fTy Tryz.prog 43 1 = some (3, 1) := by kernel_rfl
@[go_sem] theorem fo_43_2 : fOff Tryz.prog 43 2 = some 2 := by kernel_rfl
@[go_sem] theorem ft_43_2 : fTy Tryz.prog 43 2 = some (9, 2) := by kernel_rfl
@[go_sem] theorem pl_43 : places Tryz.prog 43 = some [(0, 1), (1, 1), (2, 1)] := by kernel_rfl
@[go_sem] theorem eqk_43 : eqKinds Tryz.prog 43 = some [.int .i64, .int .i64, .str] := by kernel_rfl
@[go_sem] theorem isl_43 : isSliceT Tryz.prog 43 = false := by kernel_rfl
@[go_sem] theorem ist_43 : isStrT Tryz.prog 43 = false := by kernel_rfl
@[go_sem] theorem isp_43 : isPtrT Tryz.prog 43 = false := by kernel_rfl
@[go_sem] theorem isb_43 : isBoolT Tryz.prog 43 = false := by kernel_rfl
@[go_sem] theorem isi_43 : isIfaceT Tryz.prog 43 = false := by kernel_rfl
@[go_sem] theorem isn_43 : isIntT Tryz.prog 43 = none := by kernel_rfl
@[go_sem] theorem by_43 : bytesT Tryz.prog 43 = 32 := by kernel_rfl
@[go_sem] theorem sz_44 : szOf Tryz.prog 44 = some 3 := by kernel_rfl
@[go_sem] theorem ag_44 : isAggT Tryz.prog 44 = some true := by kernel_rfl
@[go_sem] theorem ze_44 : zeroL Tryz.prog 44 = some [.int .i64 0, .int .i64 0, .string ⟨#[]⟩] := by kernel_rfl
@[go_sem] theorem fo_44_0 : fOff Tryz.prog 44 0 = some 0 := by kernel_rfl
@[go_sem] theorem ft_44_0 : fTy Tryz.prog 44 0 = some (3, 0) := by kernel_rfl
@[go_sem] theorem fo_44_1 : fOff Tryz.prog 44 1 = some 1 := by kernel_rfl
@[go_sem] theorem ft_44_1 : fTy Tryz.prog 44 1 = some (3, 1) := by kernel_rfl
@[go_sem] theorem fo_44_2 : fOff Tryz.prog 44 2 = some 2 := by kernel_rfl
@[go_sem] theorem ft_44_2 : fTy Tryz.prog 44 2 = some (9, 2) := by kernel_rfl
@[go_sem] theorem pl_44 : places Tryz.prog 44 = some [(0, 1), (1, 1), (2, 1)] := by kernel_rfl
@[go_sem] theorem eqk_44 : eqKinds Tryz.prog 44 = some [.int .i64, .int .i64, .str] := by kernel_rfl
@[go_sem] theorem isl_44 : isSliceT Tryz.prog 44 = false := by kernel_rfl
@[go_sem] theorem ist_44 : isStrT Tryz.prog 44 = false := by kernel_rfl
@[go_sem] theorem isp_44 : isPtrT Tryz.prog 44 = false := by kernel_rfl
@[go_sem] theorem isb_44 : isBoolT Tryz.prog 44 = false := by kernel_rfl
@[go_sem] theorem isi_44 : isIfaceT Tryz.prog 44 = false := by kernel_rfl
@[go_sem] theorem isn_44 : isIntT Tryz.prog 44 = none := by kernel_rfl
@[go_sem] theorem by_44 : bytesT Tryz.prog 44 = 32 := by kernel_rfl
@[go_sem] theorem sz_46 : szOf Tryz.prog 46 = some 1 := by kernel_rfl
@[go_sem] theorem ag_46 : isAggT Tryz.prog 46 = some false := by kernel_rfl
@[go_sem] theorem ze_46 : zeroL Tryz.prog 46 = some [.nilFunc] := by kernel_rfl
@[go_sem] theorem isl_46 : isSliceT Tryz.prog 46 = false := by kernel_rfl
@[go_sem] theorem ist_46 : isStrT Tryz.prog 46 = false := by kernel_rfl
@[go_sem] theorem isp_46 : isPtrT Tryz.prog 46 = false := by kernel_rfl
@[go_sem] theorem isb_46 : isBoolT Tryz.prog 46 = false := by kernel_rfl
@[go_sem] theorem isi_46 : isIfaceT Tryz.prog 46 = false := by kernel_rfl
@[go_sem] theorem isn_46 : isIntT Tryz.prog 46 = none := by kernel_rfl
@[go_sem] theorem by_46 : bytesT Tryz.prog 46 = 8 := by kernel_rfl
@[go_sem] theorem sz_47 : szOf Tryz.prog 47 = some 1 := by kernel_rfl
@[go_sem] theorem ag_47 : isAggT Tryz.prog 47 = some false := by kernel_rfl
@[go_sem] theorem ze_47 : zeroL Tryz.prog 47 = some [.nilFunc] := by kernel_rfl
@[go_sem] theorem isl_47 : isSliceT Tryz.prog 47 = false := by kernel_rfl
@[go_sem] theorem ist_47 : isStrT Tryz.prog 47 = false := by kernel_rfl
@[go_sem] theorem isp_47 : isPtrT Tryz.prog 47 = false := by kernel_rfl
@[go_sem] theorem isb_47 : isBoolT Tryz.prog 47 = false := by kernel_rfl
@[go_sem] theorem isi_47 : isIfaceT Tryz.prog 47 = false := by kernel_rfl
@[go_sem] theorem isn_47 : isIntT Tryz.prog 47 = none := by kernel_rfl
@[go_sem] theorem by_47 : bytesT Tryz.prog 47 = 8 := by kernel_rfl
@[go_sem] theorem sz_48 : szOf Tryz.prog 48 = some 1 := by kernel_rfl
@[go_sem] theorem ag_48 : isAggT Tryz.prog 48 = some false := by kernel_rfl
@[go_sem] theorem ze_48 : zeroL Tryz.prog 48 = some [.nilFunc] := by kernel_rfl
@[go_sem] theorem isl_48 : isSliceT Tryz.prog 48 = false := by kernel_rfl
@[go_sem] theorem ist_48 : isStrT Tryz.prog 48 = false := by kernel_rfl
@[go_sem] theorem isp_48 : isPtrT Tryz.prog 48 = false := by kernel_rfl
@[go_sem] theorem isb_48 : isBoolT Tryz.prog 48 = false := by kernel_rfl
@[go_sem] theorem isi_48 : isIfaceT Tryz.prog 48 = false := by kernel_rfl
@[go_sem] theorem isn_48 : isIntT Tryz.prog 48 = none := by kernel_rfl
@[go_sem] theorem by_48 : bytesT Tryz.prog 48 = 8 := by kernel_rfl
@[go_sem] theorem sz_49 : szOf Tryz.prog 49 = some 1 := by kernel_rfl
@[go_sem] theorem ag_49 : isAggT Tryz.prog 49 = some false := by kernel_rfl
@[go_sem] theorem ze_49 : zeroL Tryz.prog 49 = some [.nilFunc] := by kernel_rfl
@[go_sem] theorem isl_49 : isSliceT Tryz.prog 49 = false := by kernel_rfl
@[go_sem] theorem ist_49 : isStrT Tryz.prog 49 = false := by kernel_rfl
@[go_sem] theorem isp_49 : isPtrT Tryz.prog 49 = false := by kernel_rfl
@[go_sem] theorem isb_49 : isBoolT Tryz.prog 49 = false := by kernel_rfl
@[go_sem] theorem isi_49 : isIfaceT Tryz.prog 49 = false := by kernel_rfl
@[go_sem] theorem isn_49 : isIntT Tryz.prog 49 = none := by kernel_rfl
@[go_sem] theorem by_49 : bytesT Tryz.prog 49 = 8 := by kernel_rfl
@[go_sem] theorem sz_50 : szOf Tryz.prog 50 = some 1 := by kernel_rfl
@[go_sem] theorem ag_50 : isAggT Tryz.prog 50 = some false := by kernel_rfl
@[go_sem] theorem ze_50 : zeroL Tryz.prog 50 = some [.nilFunc] := by kernel_rfl
@[go_sem] theorem isl_50 : isSliceT Tryz.prog 50 = false := by kernel_rfl
@[go_sem] theorem ist_50 : isStrT Tryz.prog 50 = false := by kernel_rfl
@[go_sem] theorem isp_50 : isPtrT Tryz.prog 50 = false := by kernel_rfl
@[go_sem] theorem isb_50 : isBoolT Tryz.prog 50 = false := by kernel_rfl
@[go_sem] theorem isi_50 : isIfaceT Tryz.prog 50 = false := by kernel_rfl
@[go_sem] theorem isn_50 : isIntT Tryz.prog 50 = none := by kernel_rfl
@[go_sem] theorem by_50 : bytesT Tryz.prog 50 = 8 := by kernel_rfl
@[go_sem] theorem sz_51 : szOf Tryz.prog 51 = some 1 := by kernel_rfl
@[go_sem] theorem ag_51 : isAggT Tryz.prog 51 = some false := by kernel_rfl
@[go_sem] theorem ze_51 : zeroL Tryz.prog 51 = some [.nilFunc] := by kernel_rfl
@[go_sem] theorem isl_51 : isSliceT Tryz.prog 51 = false := by kernel_rfl
@[go_sem] theorem ist_51 : isStrT Tryz.prog 51 = false := by kernel_rfl
@[go_sem] theorem isp_51 : isPtrT Tryz.prog 51 = false := by kernel_rfl
@[go_sem] theorem isb_51 : isBoolT Tryz.prog 51 = false := by kernel_rfl
@[go_sem] theorem isi_51 : isIfaceT Tryz.prog 51 = false := by kernel_rfl
@[go_sem] theorem isn_51 : isIntT Tryz.prog 51 = none := by kernel_rfl
@[go_sem] theorem by_51 : bytesT Tryz.prog 51 = 8 := by kernel_rfl
@[go_sem] theorem sz_52 : szOf Tryz.prog 52 = some 1 := by kernel_rfl
@[go_sem] theorem ag_52 : isAggT Tryz.prog 52 = some false := by kernel_rfl
@[go_sem] theorem ze_52 : zeroL Tryz.prog 52 = some [.nilFunc] := by kernel_rfl
@[go_sem] theorem isl_52 : isSliceT Tryz.prog 52 = false := by kernel_rfl
@[go_sem] theorem ist_52 : isStrT Tryz.prog 52 = false := by kernel_rfl
@[go_sem] theorem isp_52 : isPtrT Tryz.prog 52 = false := by kernel_rfl
@[go_sem] theorem isb_52 : isBoolT Tryz.prog 52 = false := by kernel_rfl
@[go_sem] theorem isi_52 : isIfaceT Tryz.prog 52 = false := by kernel_rfl
@[go_sem] theorem isn_52 : isIntT Tryz.prog 52 = none := by kernel_rfl
@[go_sem] theorem by_52 : bytesT Tryz.prog 52 = 8 := by kernel_rfl
@[go_sem] theorem sz_53 : szOf Tryz.prog 53 = some 1 := by kernel_rfl
@[go_sem] theorem ag_53 : isAggT Tryz.prog 53 = some false := by kernel_rfl
@[go_sem] theorem ze_53 : zeroL Tryz.prog 53 = some [.nilFunc] := by kernel_rfl
@[go_sem] theorem isl_53 : isSliceT Tryz.prog 53 = false := by kernel_rfl
@[go_sem] theorem ist_53 : isStrT Tryz.prog 53 = false := by kernel_rfl
@[go_sem] theorem isp_53 : isPtrT Tryz.prog 53 = false := by kernel_rfl
@[go_sem] theorem isb_53 : isBoolT Tryz.prog 53 = false := by kernel_rfl
@[go_sem] theorem isi_53 : isIfaceT Tryz.prog 53 = false := by kernel_rfl
@[go_sem] theorem isn_53 : isIntT Tryz.prog 53 = none := by kernel_rfl
@[go_sem] theorem by_53 : bytesT Tryz.prog 53 = 8 := by kernel_rfl
@[go_sem] theorem sz_54 : szOf Tryz.prog 54 = some 2 := by kernel_rfl
@[go_sem] theorem ag_54 : isAggT Tryz.prog 54 = some true := by kernel_rfl
@[go_sem] theorem ze_54 : zeroL Tryz.prog 54 = some [.int .i64 0, .int .i64 0] := by kernel_rfl
@[go_sem] theorem ar_54 : arrSz Tryz.prog 54 = some (2, 1) := by kernel_rfl
@[go_sem] theorem isl_54 : isSliceT Tryz.prog 54 = false := by kernel_rfl
@[go_sem] theorem ist_54 : isStrT Tryz.prog 54 = false := by kernel_rfl
@[go_sem] theorem isp_54 : isPtrT Tryz.prog 54 = false := by kernel_rfl
@[go_sem] theorem isb_54 : isBoolT Tryz.prog 54 = false := by kernel_rfl
@[go_sem] theorem isi_54 : isIfaceT Tryz.prog 54 = false := by kernel_rfl
@[go_sem] theorem isn_54 : isIntT Tryz.prog 54 = none := by kernel_rfl
@[go_sem] theorem by_54 : bytesT Tryz.prog 54 = 16 := by kernel_rfl
@[go_sem] theorem sz_55 : szOf Tryz.prog 55 = some 1 := by kernel_rfl
@[go_sem] theorem ag_55 : isAggT Tryz.prog 55 = some false := by kernel_rfl
@[go_sem] theorem ze_55 : zeroL Tryz.prog 55 = some [.slice none 0 0] := by kernel_rfl
@[go_sem] theorem un_55 : Tryz.prog.underlying 55 = some (.slice 4) := by kernel_rfl
@[go_sem] theorem el_55 : elT Tryz.prog 55 = some 4 := by kernel_rfl
@[go_sem] theorem es_55 : elSz Tryz.prog 55 = some 1 := by kernel_rfl
@[go_sem] theorem isl_55 : isSliceT Tryz.prog 55 = true := by kernel_rfl
@[go_sem] theorem ist_55 : isStrT Tryz.prog 55 = false := by kernel_rfl
@[go_sem] theorem isp_55 : isPtrT Tryz.prog 55 = false := by kernel_rfl
@[go_sem] theorem isb_55 : isBoolT Tryz.prog 55 = false := by kernel_rfl
@[go_sem] theorem isi_55 : isIfaceT Tryz.prog 55 = false := by kernel_rfl
@[go_sem] theorem isn_55 : isIntT Tryz.prog 55 = none := by kernel_rfl
@[go_sem] theorem by_55 : bytesT Tryz.prog 55 = 24 := by kernel_rfl
@[go_sem] theorem sz_56 : szOf Tryz.prog 56 = some 1 := by kernel_rfl
@[go_sem] theorem ag_56 : isAggT Tryz.prog 56 = some false := by kernel_rfl
@[go_sem] theorem ze_56 : zeroL Tryz.prog 56 = some [.nilFunc] := by kernel_rfl
@[go_sem] theorem isl_56 : isSliceT Tryz.prog 56 = false := by kernel_rfl
@[go_sem] theorem ist_56 : isStrT Tryz.prog 56 = false := by kernel_rfl
@[go_sem] theorem isp_56 : isPtrT Tryz.prog 56 = false := by kernel_rfl
@[go_sem] theorem isb_56 : isBoolT Tryz.prog 56 = false := by kernel_rfl
@[go_sem] theorem isi_56 : isIfaceT Tryz.prog 56 = false := by kernel_rfl
@[go_sem] theorem isn_56 : isIntT Tryz.prog 56 = none := by kernel_rfl
@[go_sem] theorem by_56 : bytesT Tryz.prog 56 = 8 := by kernel_rfl
@[go_sem] theorem sz_57 : szOf Tryz.prog 57 = some 1 := by kernel_rfl
@[go_sem] theorem ag_57 : isAggT Tryz.prog 57 = some false := by kernel_rfl
@[go_sem] theorem ze_57 : zeroL Tryz.prog 57 = some [.nilFunc] := by kernel_rfl
@[go_sem] theorem isl_57 : isSliceT Tryz.prog 57 = false := by kernel_rfl
@[go_sem] theorem ist_57 : isStrT Tryz.prog 57 = false := by kernel_rfl
@[go_sem] theorem isp_57 : isPtrT Tryz.prog 57 = false := by kernel_rfl
@[go_sem] theorem isb_57 : isBoolT Tryz.prog 57 = false := by kernel_rfl
@[go_sem] theorem isi_57 : isIfaceT Tryz.prog 57 = false := by kernel_rfl
@[go_sem] theorem isn_57 : isIntT Tryz.prog 57 = none := by kernel_rfl
@[go_sem] theorem by_57 : bytesT Tryz.prog 57 = 8 := by kernel_rfl
@[go_sem] theorem sz_59 : szOf Tryz.prog 59 = some 1 := by kernel_rfl
@[go_sem] theorem ag_59 : isAggT Tryz.prog 59 = some false := by kernel_rfl
@[go_sem] theorem ze_59 : zeroL Tryz.prog 59 = some [.nilFunc] := by kernel_rfl
@[go_sem] theorem isl_59 : isSliceT Tryz.prog 59 = false := by kernel_rfl
@[go_sem] theorem ist_59 : isStrT Tryz.prog 59 = false := by kernel_rfl
@[go_sem] theorem isp_59 : isPtrT Tryz.prog 59 = false := by kernel_rfl
@[go_sem] theorem isb_59 : isBoolT Tryz.prog 59 = false := by kernel_rfl
@[go_sem] theorem isi_59 : isIfaceT Tryz.prog 59 = false := by kernel_rfl
@[go_sem] theorem isn_59 : isIntT Tryz.prog 59 = none := by kernel_rfl
@[go_sem] theorem by_59 : bytesT Tryz.prog 59 = 8 := by kernel_rfl
@[go_sem] theorem sz_60 : szOf Tryz.prog 60 = some 1 := by kernel_rfl
@[go_sem] theorem ag_60 : isAggT Tryz.prog 60 = some false := by kernel_rfl
@[go_sem] theorem ze_60 : zeroL Tryz.prog 60 = some [.nilFunc] := by kernel_rfl
@[go_sem] theorem isl_60 : isSliceT Tryz.prog 60 = false := by kernel_rfl
@[go_sem] theorem ist_60 : isStrT Tryz.prog 60 = false := by kernel_rfl
@[go_sem] theorem isp_60 : isPtrT Tryz.prog 60 = false := by kernel_rfl
@[go_sem] theorem isb_60 : isBoolT Tryz.prog 60 = false := by kernel_rfl
@[go_sem] theorem isi_60 : isIfaceT Tryz.prog 60 = false := by kernel_rfl
@[go_sem] theorem isn_60 : isIntT Tryz.prog 60 = none := by kernel_rfl
@[go_sem] theorem by_60 : bytesT Tryz.prog 60 = 8 := by kernel_rfl
@[go_sem] theorem sz_61 : szOf Tryz.prog 61 = some 1 := by kernel_rfl
@[go_sem] theorem ag_61 : isAggT Tryz.prog 61 = some false := by kernel_rfl
@[go_sem] theorem ze_61 : zeroL Tryz.prog 61 = some [.pointer none] := by kernel_rfl
@[go_sem] theorem isl_61 : isSliceT Tryz.prog 61 = false := by kernel_rfl
@[go_sem] theorem ist_61 : isStrT Tryz.prog 61 = false := by kernel_rfl
@[go_sem] theorem isp_61 : isPtrT Tryz.prog 61 = true := by kernel_rfl
@[go_sem] theorem isb_61 : isBoolT Tryz.prog 61 = false := by kernel_rfl
@[go_sem] theorem isi_61 : isIfaceT Tryz.prog 61 = false := by kernel_rfl
@[go_sem] theorem isn_61 : isIntT Tryz.prog 61 = none := by kernel_rfl
@[go_sem] theorem by_61 : bytesT Tryz.prog 61 = 8 := by kernel_rfl
@[go_sem] theorem sz_62 : szOf Tryz.prog 62 = some 9 := by kernel_rfl
@[go_sem] theorem ag_62 : isAggT Tryz.prog 62 = some true := by kernel_rfl
@[go_sem] theorem ze_62 : zeroL Tryz.prog 62 = some [.slice none 0 0, .slice none 0 0, .slice none 0 0, .slice none 0 0, .slice none 0 0, .slice none 0 0, .slice none 0 0, .slice none 0 0, .int .i64 0] := by kernel_rfl
@[go_sem] theorem fo_62_0 : fOff Tryz.prog 62 0 = some 0 := by kernel_rfl
@[go_sem] theorem ft_62_0 : fTy Tryz.prog 62 0 = some (33, 0) := by kernel_rfl
@[go_sem] theorem fo_62_1 : fOff Tryz.prog 62 1 = some 6 := by kernel_rfl
@[go_sem] theorem ft_62_1 : fTy Tryz.prog 62 1 = some (22, 6) := by kernel_rfl
@[go_sem] theorem fo_62_2 : fOff Tryz.prog 62 2 = some 7 := by kernel_rfl
@[go_sem] theorem ft_62_2 : fTy Tryz.prog 62 2 = some (23, 7) := by kernel_rfl
@[go_sem] theorem fo_62_3 : fOff Tryz.prog 62 3 = some 8 := by kernel_rfl
@[go_sem] theorem ft_62_3 : fTy Tryz.prog 62 3 = some (3, 8) := by kernel_rfl
@[go_sem] theorem pl_62 : places Tryz.prog 62 = some [(0, 6), (6, 1), (7, 1), (8, 1)] := by kernel_rfl
@[go_sem] theorem isl_62 : isSliceT Tryz.prog 62 = false := by kernel_rfl
@[go_sem] theorem ist_62 : isStrT Tryz.prog 62 = false := by kernel_rfl
@[go_sem] theorem isp_62 : isPtrT Tryz.prog 62 = false := by kernel_rfl
@[go_sem] theorem isb_62 : isBoolT Tryz.prog 62 = false := by kernel_rfl
@[go_sem] theorem isi_62 : isIfaceT Tryz.prog 62 = false := by kernel_rfl
@[go_sem] theorem isn_62 : isIntT Tryz.prog 62 = none := by kernel_rfl
@[go_sem] theorem by_62 : bytesT Tryz.prog 62 = 200 := by kernel_rfl
@[go_sem] theorem sz_63 : szOf Tryz.prog 63 = some 9 := by kernel_rfl
@[go_sem] theorem ag_63 : isAggT Tryz.prog 63 = some true := by kernel_rfl
@[go_sem] theorem ze_63 : zeroL Tryz.prog 63 = some [.slice none 0 0, .slice none 0 0, .slice none 0 0, .slice none 0 0, .slice none 0 0, .slice none 0 0, .slice none 0 0, .slice none 0 0, .int .i64 0] := by kernel_rfl
@[go_sem] theorem fo_63_0 : fOff Tryz.prog 63 0 = some 0 := by kernel_rfl
@[go_sem] theorem ft_63_0 : fTy Tryz.prog 63 0 = some (33, 0) := by kernel_rfl
@[go_sem] theorem fo_63_1 : fOff Tryz.prog 63 1 = some 6 := by kernel_rfl
@[go_sem] theorem ft_63_1 : fTy Tryz.prog 63 1 = some (22, 6) := by kernel_rfl
@[go_sem] theorem fo_63_2 : fOff Tryz.prog 63 2 = some 7 := by kernel_rfl
@[go_sem] theorem ft_63_2 : fTy Tryz.prog 63 2 = some (23, 7) := by kernel_rfl
@[go_sem] theorem fo_63_3 : fOff Tryz.prog 63 3 = some 8 := by kernel_rfl
@[go_sem] theorem ft_63_3 : fTy Tryz.prog 63 3 = some (3, 8) := by kernel_rfl
@[go_sem] theorem pl_63 : places Tryz.prog 63 = some [(0, 6), (6, 1), (7, 1), (8, 1)] := by kernel_rfl
@[go_sem] theorem isl_63 : isSliceT Tryz.prog 63 = false := by kernel_rfl
@[go_sem] theorem ist_63 : isStrT Tryz.prog 63 = false := by kernel_rfl
@[go_sem] theorem isp_63 : isPtrT Tryz.prog 63 = false := by kernel_rfl
@[go_sem] theorem isb_63 : isBoolT Tryz.prog 63 = false := by kernel_rfl
@[go_sem] theorem isi_63 : isIfaceT Tryz.prog 63 = false := by kernel_rfl
@[go_sem] theorem isn_63 : isIntT Tryz.prog 63 = none := by kernel_rfl
@[go_sem] theorem by_63 : bytesT Tryz.prog 63 = 200 := by kernel_rfl
@[go_sem] theorem sz_64 : szOf Tryz.prog 64 = some 1 := by kernel_rfl
@[go_sem] theorem ag_64 : isAggT Tryz.prog 64 = some false := by kernel_rfl
@[go_sem] theorem ze_64 : zeroL Tryz.prog 64 = some [.nilFunc] := by kernel_rfl
@[go_sem] theorem isl_64 : isSliceT Tryz.prog 64 = false := by kernel_rfl
@[go_sem] theorem ist_64 : isStrT Tryz.prog 64 = false := by kernel_rfl
@[go_sem] theorem isp_64 : isPtrT Tryz.prog 64 = false := by kernel_rfl
@[go_sem] theorem isb_64 : isBoolT Tryz.prog 64 = false := by kernel_rfl
@[go_sem] theorem isi_64 : isIfaceT Tryz.prog 64 = false := by kernel_rfl
@[go_sem] theorem isn_64 : isIntT Tryz.prog 64 = none := by kernel_rfl
@[go_sem] theorem by_64 : bytesT Tryz.prog 64 = 8 := by kernel_rfl
@[go_sem] theorem sz_65 : szOf Tryz.prog 65 = some 1 := by kernel_rfl
@[go_sem] theorem ag_65 : isAggT Tryz.prog 65 = some false := by kernel_rfl
@[go_sem] theorem ze_65 : zeroL Tryz.prog 65 = some [.nilFunc] := by kernel_rfl
@[go_sem] theorem isl_65 : isSliceT Tryz.prog 65 = false := by kernel_rfl
@[go_sem] theorem ist_65 : isStrT Tryz.prog 65 = false := by kernel_rfl
@[go_sem] theorem isp_65 : isPtrT Tryz.prog 65 = false := by kernel_rfl
@[go_sem] theorem isb_65 : isBoolT Tryz.prog 65 = false := by kernel_rfl
@[go_sem] theorem isi_65 : isIfaceT Tryz.prog 65 = false := by kernel_rfl
@[go_sem] theorem isn_65 : isIntT Tryz.prog 65 = none := by kernel_rfl
@[go_sem] theorem by_65 : bytesT Tryz.prog 65 = 8 := by kernel_rfl
@[go_sem] theorem sz_66 : szOf Tryz.prog 66 = some 1 := by kernel_rfl
@[go_sem] theorem ag_66 : isAggT Tryz.prog 66 = some false := by kernel_rfl
@[go_sem] theorem ze_66 : zeroL Tryz.prog 66 = some [.nilFunc] := by kernel_rfl
@[go_sem] theorem isl_66 : isSliceT Tryz.prog 66 = false := by kernel_rfl
@[go_sem] theorem ist_66 : isStrT Tryz.prog 66 = false := by kernel_rfl
@[go_sem] theorem isp_66 : isPtrT Tryz.prog 66 = false := by kernel_rfl
@[go_sem] theorem isb_66 : isBoolT Tryz.prog 66 = false := by kernel_rfl
@[go_sem] theorem isi_66 : isIfaceT Tryz.prog 66 = false := by kernel_rfl
@[go_sem] theorem isn_66 : isIntT Tryz.prog 66 = none := by kernel_rfl
@[go_sem] theorem by_66 : bytesT Tryz.prog 66 = 8 := by kernel_rfl
@[go_sem] theorem sz_67 : szOf Tryz.prog 67 = some 1 := by kernel_rfl
@[go_sem] theorem ag_67 : isAggT Tryz.prog 67 = some false := by kernel_rfl
@[go_sem] theorem ze_67 : zeroL Tryz.prog 67 = some [.nilFunc] := by kernel_rfl
@[go_sem] theorem isl_67 : isSliceT Tryz.prog 67 = false := by kernel_rfl
@[go_sem] theorem ist_67 : isStrT Tryz.prog 67 = false := by kernel_rfl
@[go_sem] theorem isp_67 : isPtrT Tryz.prog 67 = false := by kernel_rfl
@[go_sem] theorem isb_67 : isBoolT Tryz.prog 67 = false := by kernel_rfl
@[go_sem] theorem isi_67 : isIfaceT Tryz.prog 67 = false := by kernel_rfl
@[go_sem] theorem isn_67 : isIntT Tryz.prog 67 = none := by kernel_rfl
@[go_sem] theorem by_67 : bytesT Tryz.prog 67 = 8 := by kernel_rfl
@[go_sem] theorem sz_68 : szOf Tryz.prog 68 = some 1 := by kernel_rfl
@[go_sem] theorem ag_68 : isAggT Tryz.prog 68 = some false := by kernel_rfl
@[go_sem] theorem ze_68 : zeroL Tryz.prog 68 = some [.nilFunc] := by kernel_rfl
@[go_sem] theorem isl_68 : isSliceT Tryz.prog 68 = false := by kernel_rfl
@[go_sem] theorem ist_68 : isStrT Tryz.prog 68 = false := by kernel_rfl
@[go_sem] theorem isp_68 : isPtrT Tryz.prog 68 = false := by kernel_rfl
@[go_sem] theorem isb_68 : isBoolT Tryz.prog 68 = false := by kernel_rfl
@[go_sem] theorem isi_68 : isIfaceT Tryz.prog 68 = false := by kernel_rfl
@[go_sem] theorem isn_68 : isIntT Tryz.prog 68 = none := by kernel_rfl
@[go_sem] theorem by_68 : bytesT Tryz.prog 68 = 8 := by kernel_rfl
@[go_sem] theorem sz_69 : szOf Tryz.prog 69 = some 1 := by kernel_rfl
@[go_sem] theorem ag_69 : isAggT Tryz.prog 69 = some false := by kernel_rfl
@[go_sem] theorem ze_69 : zeroL Tryz.prog 69 = some [.slice none 0 0] := by kernel_rfl
@[go_sem] theorem un_69 : Tryz.prog.underlying 69 = some (.slice 91) := by kernel_rfl
@[go_sem] theorem el_69 : elT Tryz.prog 69 = some 91 := by kernel_rfl
@[go_sem] theorem es_69 : elSz Tryz.prog 69 = some 3 := by kernel_rfl
@[go_sem] theorem isl_69 : isSliceT Tryz.prog 69 = true := by kernel_rfl
@[go_sem] theorem ist_69 : isStrT Tryz.prog 69 = false := by kernel_rfl
@[go_sem] theorem isp_69 : isPtrT Tryz.prog 69 = false := by kernel_rfl
@[go_sem] theorem isb_69 : isBoolT Tryz.prog 69 = false := by kernel_rfl
@[go_sem] theorem isi_69 : isIfaceT Tryz.prog 69 = false := by kernel_rfl
@[go_sem] theorem isn_69 : isIntT Tryz.prog 69 = none := by kernel_rfl
@[go_sem] theorem by_69 : bytesT Tryz.prog 69 = 24 := by kernel_rfl
@[go_sem] theorem sz_71 : szOf Tryz.prog 71 = some 1 := by kernel_rfl
@[go_sem] theorem ag_71 : isAggT Tryz.prog 71 = some false := by kernel_rfl
@[go_sem] theorem ze_71 : zeroL Tryz.prog 71 = some [.nilFunc] := by kernel_rfl
@[go_sem] theorem isl_71 : isSliceT Tryz.prog 71 = false := by kernel_rfl
@[go_sem] theorem ist_71 : isStrT Tryz.prog 71 = false := by kernel_rfl
@[go_sem] theorem isp_71 : isPtrT Tryz.prog 71 = false := by kernel_rfl
@[go_sem] theorem isb_71 : isBoolT Tryz.prog 71 = false := by kernel_rfl
@[go_sem] theorem isi_71 : isIfaceT Tryz.prog 71 = false := by kernel_rfl
@[go_sem] theorem isn_71 : isIntT Tryz.prog 71 = none := by kernel_rfl
@[go_sem] theorem by_71 : bytesT Tryz.prog 71 = 8 := by kernel_rfl
@[go_sem] theorem sz_72 : szOf Tryz.prog 72 = some 1 := by kernel_rfl
@[go_sem] theorem ag_72 : isAggT Tryz.prog 72 = some false := by kernel_rfl
@[go_sem] theorem ze_72 : zeroL Tryz.prog 72 = some [.pointer none] := by kernel_rfl
@[go_sem] theorem isl_72 : isSliceT Tryz.prog 72 = false := by kernel_rfl
@[go_sem] theorem ist_72 : isStrT Tryz.prog 72 = false := by kernel_rfl
@[go_sem] theorem isp_72 : isPtrT Tryz.prog 72 = true := by kernel_rfl
@[go_sem] theorem isb_72 : isBoolT Tryz.prog 72 = false := by kernel_rfl
@[go_sem] theorem isi_72 : isIfaceT Tryz.prog 72 = false := by kernel_rfl
@[go_sem] theorem isn_72 : isIntT Tryz.prog 72 = none := by kernel_rfl
@[go_sem] theorem by_72 : bytesT Tryz.prog 72 = 8 := by kernel_rfl
@[go_sem] theorem sz_73 : szOf Tryz.prog 73 = some 7 := by kernel_rfl
@[go_sem] theorem ag_73 : isAggT Tryz.prog 73 = some true := by kernel_rfl
@[go_sem] theorem ze_73 : zeroL Tryz.prog 73 = some [.string ⟨#[]⟩, .slice none 0 0, .int .i64 0, .slice none 0 0, .int .i64 0, .int .i64 0, .int .i64 0] := by kernel_rfl
@[go_sem] theorem fo_73_0 : fOff Tryz.prog 73 0 = some 0 := by kernel_rfl
@[go_sem] theorem ft_73_0 : fTy Tryz.prog 73 0 = some (9, 0) := by kernel_rfl
@[go_sem] theorem fo_73_1 : fOff Tryz.prog 73 1 = some 1 := by kernel_rfl
@[go_sem] theorem ft_73_1 : fTy Tryz.prog 73 1 = some (69, 1) := by kernel_rfl
@[go_sem] theorem fo_73_2 : fOff Tryz.prog 73 2 = some 2 := by kernel_rfl
@[go_sem] theorem ft_73_2 : fTy Tryz.prog 73 2 = some (3, 2) := by kernel_rfl
@[go_sem] theorem fo_73_3 : fOff Tryz.prog 73 3 = some 3 := by kernel_rfl
@[go_sem] theorem ft_73_3 : fTy Tryz.prog 73 3 = some (27, 3) := by kernel_rfl
@[go_sem] theorem fo_73_4 : fOff Tryz.prog 73 4 = some 4 := by kernel_rfl
@[go_sem] theorem ft_73_4 : fTy Tryz.prog 73 4 = some (3, 4) := by kernel_rfl
@[go_sem] theorem fo_73_5 : fOff Tryz.prog 73 5 = some 5 := by kernel_rfl
@[go_sem] theorem ft_73_5 : fTy Tryz.prog 73 5 = some (34, 5) := by kernel_rfl
@[go_sem] theorem fo_73_6 : fOff Tryz.prog 73 6 = some 6 := by kernel_rfl
@[go_sem] theorem ft_73_6 : fTy Tryz.prog 73 6 = some (3, 6) := by kernel_rfl
@[go_sem] theorem pl_73 : places Tryz.prog 73 = some [(0, 1), (1, 1), (2, 1), (3, 1), (4, 1), (5, 1), (6, 1)] := by kernel_rfl
@[go_sem] theorem isl_73 : isSliceT Tryz.prog 73 = false := by kernel_rfl
@[go_sem] theorem ist_73 : isStrT Tryz.prog 73 = false := by kernel_rfl
@[go_sem] theorem isp_73 : isPtrT Tryz.prog 73 = false := by kernel_rfl
@[go_sem] theorem isb_73 : isBoolT Tryz.prog 73 = false := by kernel_rfl
@[go_sem] theorem isi_73 : isIfaceT Tryz.prog 73 = false := by kernel_rfl
@[go_sem] theorem isn_73 : isIntT Tryz.prog 73 = none := by kernel_rfl
@[go_sem] theorem by_73 : bytesT Tryz.prog 73 = 96 := by kernel_rfl
@[go_sem] theorem sz_74 : szOf Tryz.prog 74 = some 7 := by kernel_rfl
@[go_sem] theorem ag_74 : isAggT Tryz.prog 74 = some true := by kernel_rfl
@[go_sem] theorem ze_74 : zeroL Tryz.prog 74 = some [.string ⟨#[]⟩, .slice none 0 0, .int .i64 0, .slice none 0 0, .int .i64 0, .int .i64 0, .int .i64 0] := by kernel_rfl
@[go_sem] theorem fo_74_0 : fOff Tryz.prog 74 0 = some 0 := by kernel_rfl
@[go_sem] theorem ft_74_0 : fTy Tryz.prog 74 0 = some (9, 0) := by kernel_rfl
@[go_sem] theorem fo_74_1 : fOff Tryz.prog 74 1 = some 1 := by kernel_rfl
@[go_sem] theorem ft_74_1 : fTy Tryz.prog 74 1 = some (69, 1) := by kernel_rfl
@[go_sem] theorem fo_74_2 : fOff Tryz.prog 74 2 = some 2 := by kernel_rfl
@[go_sem] theorem ft_74_2 : fTy Tryz.prog 74 2 = some (3, 2) := by kernel_rfl
@[go_sem] theorem fo_74_3 : fOff Tryz.prog 74 3 = some 3 := by kernel_rfl
@[go_sem] theorem ft_74_3 : fTy Tryz.prog 74 3 = some (27, 3) := by kernel_rfl
@[go_sem] theorem fo_74_4 : fOff Tryz.prog 74 4 = some 4 := by kernel_rfl
@[go_sem] theorem ft_74_4 : fTy Tryz.prog 74 4 = some (3, 4) := by kernel_rfl
@[go_sem] theorem fo_74_5 : fOff Tryz.prog 74 5 = some 5 := by kernel_rfl
@[go_sem] theorem ft_74_5 : fTy Tryz.prog 74 5 = some (34, 5) := by kernel_rfl
@[go_sem] theorem fo_74_6 : fOff Tryz.prog 74 6 = some 6 := by kernel_rfl
@[go_sem] theorem ft_74_6 : fTy Tryz.prog 74 6 = some (3, 6) := by kernel_rfl
@[go_sem] theorem pl_74 : places Tryz.prog 74 = some [(0, 1), (1, 1), (2, 1), (3, 1), (4, 1), (5, 1), (6, 1)] := by kernel_rfl
@[go_sem] theorem isl_74 : isSliceT Tryz.prog 74 = false := by kernel_rfl
@[go_sem] theorem ist_74 : isStrT Tryz.prog 74 = false := by kernel_rfl
@[go_sem] theorem isp_74 : isPtrT Tryz.prog 74 = false := by kernel_rfl
@[go_sem] theorem isb_74 : isBoolT Tryz.prog 74 = false := by kernel_rfl
@[go_sem] theorem isi_74 : isIfaceT Tryz.prog 74 = false := by kernel_rfl
@[go_sem] theorem isn_74 : isIntT Tryz.prog 74 = none := by kernel_rfl
@[go_sem] theorem by_74 : bytesT Tryz.prog 74 = 96 := by kernel_rfl
@[go_sem] theorem sz_75 : szOf Tryz.prog 75 = some 1 := by kernel_rfl
@[go_sem] theorem ag_75 : isAggT Tryz.prog 75 = some false := by kernel_rfl
@[go_sem] theorem ze_75 : zeroL Tryz.prog 75 = some [.nilFunc] := by kernel_rfl
@[go_sem] theorem isl_75 : isSliceT Tryz.prog 75 = false := by kernel_rfl
@[go_sem] theorem ist_75 : isStrT Tryz.prog 75 = false := by kernel_rfl
@[go_sem] theorem isp_75 : isPtrT Tryz.prog 75 = false := by kernel_rfl
@[go_sem] theorem isb_75 : isBoolT Tryz.prog 75 = false := by kernel_rfl
@[go_sem] theorem isi_75 : isIfaceT Tryz.prog 75 = false := by kernel_rfl
@[go_sem] theorem isn_75 : isIntT Tryz.prog 75 = none := by kernel_rfl
@[go_sem] theorem by_75 : bytesT Tryz.prog 75 = 8 := by kernel_rfl
@[go_sem] theorem sz_76 : szOf Tryz.prog 76 = some 1 := by kernel_rfl
@[go_sem] theorem ag_76 : isAggT Tryz.prog 76 = some false := by kernel_rfl
@[go_sem] theorem ze_76 : zeroL Tryz.prog 76 = some [.slice none 0 0] := by kernel_rfl
@[go_sem] theorem un_76 : Tryz.prog.underlying 76 = some (.slice 99) := by kernel_rfl
@[go_sem] theorem el_76 : elT Tryz.prog 76 = some 99 := by kernel_rfl
@[go_sem] theorem es_76 : elSz Tryz.prog 76 = some 2 := by kernel_rfl
@[go_sem] theorem isl_76 : isSliceT Tryz.prog 76 = true := by kernel_rfl
@[go_sem] theorem ist_76 : isStrT Tryz.prog 76 = false := by kernel_rfl
@[go_sem] theorem isp_76 : isPtrT Tryz.prog 76 = false := by kernel_rfl
@[go_sem] theorem isb_76 : isBoolT Tryz.prog 76 = false := by kernel_rfl
@[go_sem] theorem isi_76 : isIfaceT Tryz.prog 76 = false := by kernel_rfl
@[go_sem] theorem isn_76 : isIntT Tryz.prog 76 = none := by kernel_rfl
@[go_sem] theorem by_76 : bytesT Tryz.prog 76 = 24 := by kernel_rfl
@[go_sem] theorem sz_77 : szOf Tryz.prog 77 = some 5 := by kernel_rfl
@[go_sem] theorem ag_77 : isAggT Tryz.prog 77 = some true := by kernel_rfl
@[go_sem] theorem ze_77 : zeroL Tryz.prog 77 = some [.string ⟨#[]⟩, .int .i64 0, .slice none 0 0, .int .i64 0, .int .i64 0] := by kernel_rfl
@[go_sem] theorem fo_77_0 : fOff Tryz.prog 77 0 = some 0 := by kernel_rfl
@[go_sem] theorem ft_77_0 : fTy Tryz.prog 77 0 = some (9, 0) := by kernel_rfl
@[go_sem] theorem fo_77_1 : fOff Tryz.prog 77 1 = some 1 := by kernel_rfl
@[go_sem] theorem ft_77_1 : fTy Tryz.prog 77 1 = some (3, 1) := by kernel_rfl
@[go_sem] theorem fo_77_2 : fOff Tryz.prog 77 2 = some 2 := by kernel_rfl
@[go_sem] theorem ft_77_2 : fTy Tryz.prog 77 2 = some (76, 2) := by kernel_rfl
@[go_sem] theorem fo_77_3 : fOff Tryz.prog 77 3 = some 3 := by kernel_rfl
@[go_sem] theorem ft_77_3 : fTy Tryz.prog 77 3 = some (3, 3) := by kernel_rfl
@[go_sem] theorem fo_77_4 : fOff Tryz.prog 77 4 = some 4 := by kernel_rfl
@[go_sem] theorem ft_77_4 : fTy Tryz.prog 77 4 = some (3, 4) := by kernel_rfl
@[go_sem] theorem pl_77 : places Tryz.prog 77 = some [(0, 1), (1, 1), (2, 1), (3, 1), (4, 1)] := by kernel_rfl
@[go_sem] theorem isl_77 : isSliceT Tryz.prog 77 = false := by kernel_rfl
@[go_sem] theorem ist_77 : isStrT Tryz.prog 77 = false := by kernel_rfl
@[go_sem] theorem isp_77 : isPtrT Tryz.prog 77 = false := by kernel_rfl
@[go_sem] theorem isb_77 : isBoolT Tryz.prog 77 = false := by kernel_rfl
@[go_sem] theorem isi_77 : isIfaceT Tryz.prog 77 = false := by kernel_rfl
@[go_sem] theorem isn_77 : isIntT Tryz.prog 77 = none := by kernel_rfl
@[go_sem] theorem by_77 : bytesT Tryz.prog 77 = 64 := by kernel_rfl
@[go_sem] theorem sz_78 : szOf Tryz.prog 78 = some 5 := by kernel_rfl
@[go_sem] theorem ag_78 : isAggT Tryz.prog 78 = some true := by kernel_rfl
@[go_sem] theorem ze_78 : zeroL Tryz.prog 78 = some [.string ⟨#[]⟩, .int .i64 0, .slice none 0 0, .int .i64 0, .int .i64 0] := by kernel_rfl
@[go_sem] theorem fo_78_0 : fOff Tryz.prog 78 0 = some 0 := by kernel_rfl
@[go_sem] theorem ft_78_0 : fTy Tryz.prog 78 0 = some (9, 0) := by kernel_rfl
@[go_sem] theorem fo_78_1 : fOff Tryz.prog 78 1 = some 1 := by kernel_rfl
@[go_sem] theorem ft_78_1 : fTy Tryz.prog 78 1 = some (3, 1) := by kernel_rfl
@[go_sem] theorem fo_78_2 : fOff Tryz.prog 78 2 = some 2 := by kernel_rfl
@[go_sem] theorem ft_78_2 : fTy Tryz.prog 78 2 = some (76, 2) := by kernel_rfl
@[go_sem] theorem fo_78_3 : fOff Tryz.prog 78 3 = some 3 := by kernel_rfl
@[go_sem] theorem ft_78_3 : fTy Tryz.prog 78 3 = some (3, 3) := by kernel_rfl
@[go_sem] theorem fo_78_4 : fOff Tryz.prog 78 4 = some 4 := by kernel_rfl
@[go_sem] theorem ft_78_4 : fTy Tryz.prog 78 4 = some (3, 4) := by kernel_rfl
@[go_sem] theorem pl_78 : places Tryz.prog 78 = some [(0, 1), (1, 1), (2, 1), (3, 1), (4, 1)] := by kernel_rfl
@[go_sem] theorem isl_78 : isSliceT Tryz.prog 78 = false := by kernel_rfl
@[go_sem] theorem ist_78 : isStrT Tryz.prog 78 = false := by kernel_rfl
@[go_sem] theorem isp_78 : isPtrT Tryz.prog 78 = false := by kernel_rfl
@[go_sem] theorem isb_78 : isBoolT Tryz.prog 78 = false := by kernel_rfl
@[go_sem] theorem isi_78 : isIfaceT Tryz.prog 78 = false := by kernel_rfl
@[go_sem] theorem isn_78 : isIntT Tryz.prog 78 = none := by kernel_rfl
@[go_sem] theorem by_78 : bytesT Tryz.prog 78 = 64 := by kernel_rfl
@[go_sem] theorem sz_79 : szOf Tryz.prog 79 = some 1 := by kernel_rfl
@[go_sem] theorem ag_79 : isAggT Tryz.prog 79 = some false := by kernel_rfl
@[go_sem] theorem ze_79 : zeroL Tryz.prog 79 = some [.nilFunc] := by kernel_rfl
@[go_sem] theorem isl_79 : isSliceT Tryz.prog 79 = false := by kernel_rfl
@[go_sem] theorem ist_79 : isStrT Tryz.prog 79 = false := by kernel_rfl
@[go_sem] theorem isp_79 : isPtrT Tryz.prog 79 = false := by kernel_rfl
@[go_sem] theorem isb_79 : isBoolT Tryz.prog 79 = false := by kernel_rfl
@[go_sem] theorem isi_79 : isIfaceT Tryz.prog 79 = false := by kernel_rfl
@[go_sem] theorem isn_79 : isIntT Tryz.prog 79 = none := by kernel_rfl
@[go_sem] theorem by_79 : bytesT Tryz.prog 79 = 8 := by kernel_rfl
@[go_sem] theorem sz_80 : szOf Tryz.prog 80 = some 1 := by kernel_rfl
@[go_sem] theorem ag_80 : isAggT Tryz.prog 80 = some false := by kernel_rfl
@[go_sem] theorem ze_80 : zeroL Tryz.prog 80 = some [.pointer none] := by kernel_rfl
@[go_sem] theorem isl_80 : isSliceT Tryz.prog 80 = false := by kernel_rfl
@[go_sem] theorem ist_80 : isStrT Tryz.prog 80 = false := by kernel_rfl
@[go_sem] theorem isp_80 : isPtrT Tryz.prog 80 = true := by kernel_rfl
@[go_sem] theorem isb_80 : isBoolT Tryz.prog 80 = false := by kernel_rfl
@[go_sem] theorem isi_80 : isIfaceT Tryz.prog 80 = false := by kernel_rfl
@[go_sem] theorem isn_80 : isIntT Tryz.prog 80 = none := by kernel_rfl
@[go_sem] theorem by_80 : bytesT Tryz.prog 80 = 8 := by kernel_rfl
@[go_sem] theorem sz_81 : szOf Tryz.prog 81 = some 1 := by kernel_rfl
@[go_sem] theorem ag_81 : isAggT Tryz.prog 81 = some false := by kernel_rfl
@[go_sem] theorem ze_81 : zeroL Tryz.prog 81 = some [.slice none 0 0] := by kernel_rfl
@[go_sem] theorem un_81 : Tryz.prog.underlying 81 = some (.slice 103) := by kernel_rfl
@[go_sem] theorem el_81 : elT Tryz.prog 81 = some 103 := by kernel_rfl
@[go_sem] theorem es_81 : elSz Tryz.prog 81 = some 3 := by kernel_rfl
@[go_sem] theorem isl_81 : isSliceT Tryz.prog 81 = true := by kernel_rfl
@[go_sem] theorem ist_81 : isStrT Tryz.prog 81 = false := by kernel_rfl
@[go_sem] theorem isp_81 : isPtrT Tryz.prog 81 = false := by kernel_rfl
@[go_sem] theorem isb_81 : isBoolT Tryz.prog 81 = false := by kernel_rfl
@[go_sem] theorem isi_81 : isIfaceT Tryz.prog 81 = false := by kernel_rfl
@[go_sem] theorem isn_81 : isIntT Tryz.prog 81 = none := by kernel_rfl
@[go_sem] theorem by_81 : bytesT Tryz.prog 81 = 24 := by kernel_rfl
@[go_sem] theorem sz_82 : szOf Tryz.prog 82 = some 11 := by kernel_rfl
@[go_sem] theorem ag_82 : isAggT Tryz.prog 82 = some true := by kernel_rfl
@[go_sem] theorem ze_82 : zeroL Tryz.prog 82 = some [.slice none 0 0, .slice none 0 0, .slice none 0 0, .slice none 0 0, .slice none 0 0, .slice none 0 0, .int .i64 0, .slice none 0 0, .int .i64 0, .int .i64 0, .int .i64 0] := by kernel_rfl
@[go_sem] theorem fo_82_0 : fOff Tryz.prog 82 0 = some 0 := by kernel_rfl
@[go_sem] theorem ft_82_0 : fTy Tryz.prog 82 0 = some (33, 0) := by kernel_rfl
@[go_sem] theorem fo_82_1 : fOff Tryz.prog 82 1 = some 6 := by kernel_rfl
@[go_sem] theorem ft_82_1 : fTy Tryz.prog 82 1 = some (3, 6) := by kernel_rfl
@[go_sem] theorem fo_82_2 : fOff Tryz.prog 82 2 = some 7 := by kernel_rfl
@[go_sem] theorem ft_82_2 : fTy Tryz.prog 82 2 = some (81, 7) := by kernel_rfl
@[go_sem] theorem fo_82_3 : fOff Tryz.prog 82 3 = some 8 := by kernel_rfl
@[go_sem] theorem ft_82_3 : fTy Tryz.prog 82 3 = some (3, 8) := by kernel_rfl
@[go_sem] theorem fo_82_4 : fOff Tryz.prog 82 4 = some 9 := by kernel_rfl
@[go_sem] theorem ft_82_4 : fTy Tryz.prog 82 4 = some (34, 9) := by kernel_rfl
@[go_sem] theorem fo_82_5 : fOff Tryz.prog 82 5 = some 10 := by kernel_rfl
@[go_sem] theorem ft_82_5 : fTy Tryz.prog 82 5 = some (3, 10) := by kernel_rfl
@[go_sem] theorem pl_82 : places Tryz.prog 82 = some [(0, 6), (6, 1), (7, 1), (8, 1), (9, 1), (10, 1)] := by kernel_rfl
@[go_sem] theorem isl_82 : isSliceT Tryz.prog 82 = false := by kernel_rfl
@[go_sem] theorem ist_82 : isStrT Tryz.prog 82 = false := by kernel_rfl
@[go_sem] theorem isp_82 : isPtrT Tryz.prog 82 = false := by kernel_rfl
@[go_sem] theorem isb_82 : isBoolT Tryz.prog 82 = false := by kernel_rfl
@[go_sem] theorem isi_82 : isIfaceT Tryz.prog 82 = false := by kernel_rfl
@[go_sem] theorem isn_82 : isIntT Tryz.prog 82 = none := by kernel_rfl
@[go_sem] theorem by_82 : bytesT Tryz.prog 82 = 200 := by kernel_rfl
@[go_sem] theorem sz_83 : szOf Tryz.prog 83 = some 11 := by kernel_rfl
@[go_sem] theorem ag_83 : isAggT Tryz.prog 83 = some true := by kernel_rfl
@[go_sem] theorem ze_83 : zeroL Tryz.prog 83 = some [.slice none 0 0, .slice none 0 0, .slice none 0 0, .slice none 0 0, .slice none 0 0, .slice none 0 0, .int .i64 0, .slice none 0 0, .int .i64 0, .int .i64 0, .int .i64 0] := by kernel_rfl
@[go_sem] theorem fo_83_0 : fOff Tryz.prog 83 0 = some 0 := by kernel_rfl
@[go_sem] theorem ft_83_0 : fTy Tryz.prog 83 0 = some (33, 0) := by kernel_rfl
@[go_sem] theorem fo_83_1 : fOff Tryz.prog 83 1 = some 6 := by kernel_rfl
@[go_sem] theorem ft_83_1 : fTy Tryz.prog 83 1 = some (3, 6) := by kernel_rfl
@[go_sem] theorem fo_83_2 : fOff Tryz.prog 83 2 = some 7 := by kernel_rfl
@[go_sem] theorem ft_83_2 : fTy Tryz.prog 83 2 = some (81, 7) := by kernel_rfl
@[go_sem] theorem fo_83_3 : fOff Tryz.prog 83 3 = some 8 := by kernel_rfl
@[go_sem] theorem ft_83_3 : fTy Tryz.prog 83 3 = some (3, 8) := by kernel_rfl
@[go_sem] theorem fo_83_4 : fOff Tryz.prog 83 4 = some 9 := by kernel_rfl
@[go_sem] theorem ft_83_4 : fTy Tryz.prog 83 4 = some (34, 9) := by kernel_rfl
@[go_sem] theorem fo_83_5 : fOff Tryz.prog 83 5 = some 10 := by kernel_rfl
@[go_sem] theorem ft_83_5 : fTy Tryz.prog 83 5 = some (3, 10) := by kernel_rfl
@[go_sem] theorem pl_83 : places Tryz.prog 83 = some [(0, 6), (6, 1), (7, 1), (8, 1), (9, 1), (10, 1)] := by kernel_rfl
@[go_sem] theorem isl_83 : isSliceT Tryz.prog 83 = false := by kernel_rfl
@[go_sem] theorem ist_83 : isStrT Tryz.prog 83 = false := by kernel_rfl
@[go_sem] theorem isp_83 : isPtrT Tryz.prog 83 = false := by kernel_rfl
@[go_sem] theorem isb_83 : isBoolT Tryz.prog 83 = false := by kernel_rfl
@[go_sem] theorem isi_83 : isIfaceT Tryz.prog 83 = false := by kernel_rfl
@[go_sem] theorem isn_83 : isIntT Tryz.prog 83 = none := by kernel_rfl
@[go_sem] theorem by_83 : bytesT Tryz.prog 83 = 200 := by kernel_rfl
@[go_sem] theorem sz_84 : szOf Tryz.prog 84 = some 1 := by kernel_rfl
@[go_sem] theorem ag_84 : isAggT Tryz.prog 84 = some false := by kernel_rfl
@[go_sem] theorem ze_84 : zeroL Tryz.prog 84 = some [.nilFunc] := by kernel_rfl
@[go_sem] theorem isl_84 : isSliceT Tryz.prog 84 = false := by kernel_rfl
@[go_sem] theorem ist_84 : isStrT Tryz.prog 84 = false := by kernel_rfl
@[go_sem] theorem isp_84 : isPtrT Tryz.prog 84 = false := by kernel_rfl
@[go_sem] theorem isb_84 : isBoolT Tryz.prog 84 = false := by kernel_rfl
@[go_sem] theorem isi_84 : isIfaceT Tryz.prog 84 = false := by kernel_rfl
@[go_sem] theorem isn_84 : isIntT Tryz.prog 84 = none := by kernel_rfl
@[go_sem] theorem by_84 : bytesT Tryz.prog 84 = 8 := by kernel_rfl
@[go_sem] theorem sz_85 : szOf Tryz.prog 85 = some 1 := by kernel_rfl
@[go_sem] theorem ag_85 : isAggT Tryz.prog 85 = some false := by kernel_rfl
@[go_sem] theorem ze_85 : zeroL Tryz.prog 85 = some [.nilFunc] := by kernel_rfl
@[go_sem] theorem isl_85 : isSliceT Tryz.prog 85 = false := by kernel_rfl
@[go_sem] theorem ist_85 : isStrT Tryz.prog 85 = false := by kernel_rfl
@[go_sem] theorem isp_85 : isPtrT Tryz.prog 85 = false := by kernel_rfl
@[go_sem] theorem isb_85 : isBoolT Tryz.prog 85 = false := by kernel_rfl
@[go_sem] theorem isi_85 : isIfaceT Tryz.prog 85 = false := by kernel_rfl
@[go_sem] theorem isn_85 : isIntT Tryz.prog 85 = none := by kernel_rfl
@[go_sem] theorem by_85 : bytesT Tryz.prog 85 = 8 := by kernel_rfl
@[go_sem] theorem sz_86 : szOf Tryz.prog 86 = some 1 := by kernel_rfl
@[go_sem] theorem ag_86 : isAggT Tryz.prog 86 = some false := by kernel_rfl
@[go_sem] theorem ze_86 : zeroL Tryz.prog 86 = some [.nilFunc] := by kernel_rfl
@[go_sem] theorem isl_86 : isSliceT Tryz.prog 86 = false := by kernel_rfl
@[go_sem] theorem ist_86 : isStrT Tryz.prog 86 = false := by kernel_rfl
@[go_sem] theorem isp_86 : isPtrT Tryz.prog 86 = false := by kernel_rfl
@[go_sem] theorem isb_86 : isBoolT Tryz.prog 86 = false := by kernel_rfl
@[go_sem] theorem isi_86 : isIfaceT Tryz.prog 86 = false := by kernel_rfl
@[go_sem] theorem isn_86 : isIntT Tryz.prog 86 = none := by kernel_rfl
@[go_sem] theorem by_86 : bytesT Tryz.prog 86 = 8 := by kernel_rfl
@[go_sem] theorem sz_87 : szOf Tryz.prog 87 = some 1 := by kernel_rfl
@[go_sem] theorem ag_87 : isAggT Tryz.prog 87 = some false := by kernel_rfl
@[go_sem] theorem ze_87 : zeroL Tryz.prog 87 = some [.nilFunc] := by kernel_rfl
@[go_sem] theorem isl_87 : isSliceT Tryz.prog 87 = false := by kernel_rfl
@[go_sem] theorem ist_87 : isStrT Tryz.prog 87 = false := by kernel_rfl
@[go_sem] theorem isp_87 : isPtrT Tryz.prog 87 = false := by kernel_rfl
@[go_sem] theorem isb_87 : isBoolT Tryz.prog 87 = false := by kernel_rfl
@[go_sem] theorem isi_87 : isIfaceT Tryz.prog 87 = false := by kernel_rfl
@[go_sem] theorem isn_87 : isIntT Tryz.prog 87 = none := by kernel_rfl
@[go_sem] theorem by_87 : bytesT Tryz.prog 87 = 8 := by kernel_rfl
@[go_sem] theorem sz_88 : szOf Tryz.prog 88 = some 1 := by kernel_rfl
@[go_sem] theorem ag_88 : isAggT Tryz.prog 88 = some false := by kernel_rfl
@[go_sem] theorem ze_88 : zeroL Tryz.prog 88 = some [.nilFunc] := by kernel_rfl
@[go_sem] theorem isl_88 : isSliceT Tryz.prog 88 = false := by kernel_rfl
@[go_sem] theorem ist_88 : isStrT Tryz.prog 88 = false := by kernel_rfl
@[go_sem] theorem isp_88 : isPtrT Tryz.prog 88 = false := by kernel_rfl
@[go_sem] theorem isb_88 : isBoolT Tryz.prog 88 = false := by kernel_rfl
@[go_sem] theorem isi_88 : isIfaceT Tryz.prog 88 = false := by kernel_rfl
@[go_sem] theorem isn_88 : isIntT Tryz.prog 88 = none := by kernel_rfl
@[go_sem] theorem by_88 : bytesT Tryz.prog 88 = 8 := by kernel_rfl
@[go_sem] theorem sz_89 : szOf Tryz.prog 89 = some 1 := by kernel_rfl
@[go_sem] theorem ag_89 : isAggT Tryz.prog 89 = some false := by kernel_rfl
@[go_sem] theorem ze_89 : zeroL Tryz.prog 89 = some [.nilFunc] := by kernel_rfl
@[go_sem] theorem isl_89 : isSliceT Tryz.prog 89 = false := by kernel_rfl
@[go_sem] theorem ist_89 : isStrT Tryz.prog 89 = false := by kernel_rfl
@[go_sem] theorem isp_89 : isPtrT Tryz.prog 89 = false := by kernel_rfl
@[go_sem] theorem isb_89 : isBoolT Tryz.prog 89 = false := by kernel_rfl
@[go_sem] theorem isi_89 : isIfaceT Tryz.prog 89 = false := by kernel_rfl
@[go_sem] theorem isn_89 : isIntT Tryz.prog 89 = none := by kernel_rfl
@[go_sem] theorem by_89 : bytesT Tryz.prog 89 = 8 := by kernel_rfl
@[go_sem] theorem sz_90 : szOf Tryz.prog 90 = some 3 := by kernel_rfl
@[go_sem] theorem ag_90 : isAggT Tryz.prog 90 = some true := by kernel_rfl
@[go_sem] theorem ze_90 : zeroL Tryz.prog 90 = some [.int .i64 0, .string ⟨#[]⟩, .int .i64 0] := by kernel_rfl
@[go_sem] theorem fo_90_0 : fOff Tryz.prog 90 0 = some 0 := by kernel_rfl
@[go_sem] theorem ft_90_0 : fTy Tryz.prog 90 0 = some (3, 0) := by kernel_rfl
@[go_sem] theorem fo_90_1 : fOff Tryz.prog 90 1 = some 1 := by kernel_rfl
@[go_sem] theorem ft_90_1 : fTy Tryz.prog 90 1 = some (9, 1) := by kernel_rfl
@[go_sem] theorem fo_90_2 : fOff Tryz.prog 90 2 = some 2 := by kernel_rfl
@[go_sem] theorem ft_90_2 : fTy Tryz.prog 90 2 = some (3, 2) := by kernel_rfl
@[go_sem] theorem pl_90 : places Tryz.prog 90 = some [(0, 1), (1, 1), (2, 1)] := by kernel_rfl
@[go_sem] theorem eqk_90 : eqKinds Tryz.prog 90 = some [.int .i64, .str, .int .i64] := by kernel_rfl
@[go_sem] theorem isl_90 : isSliceT Tryz.prog 90 = false := by kernel_rfl
@[go_sem] theorem ist_90 : isStrT Tryz.prog 90 = false := by kernel_rfl
@[go_sem] theorem isp_90 : isPtrT Tryz.prog 90 = false := by kernel_rfl
@[go_sem] theorem isb_90 : isBoolT Tryz.prog 90 = false := by kernel_rfl
@[go_sem] theorem isi_90 : isIfaceT Tryz.prog 90 = false := by kernel_rfl
@[go_sem] theorem isn_90 : isIntT Tryz.prog 90 = none := by kernel_rfl
@[go_sem] theorem by_90 : bytesT Tryz.prog 90 = 32 := by kernel_rfl
@[go_sem] theorem sz_91 : szOf Tryz.prog 91 = some 3 := by kernel_rfl
@[go_sem] theorem ag_91 : isAggT Tryz.prog 91 = some true := by kernel_rfl
@[go_sem] theorem ze_91 : zeroL Tryz.prog 91 = some [.int .i64 0, .string ⟨#[]⟩, .int .i64 0] := by kernel_rfl
@[go_sem] theorem fo_91_0 : fOff Tryz.prog 91 0 = some 0 := by kernel_rfl
@[go_sem] theorem ft_91_0 : fTy Tryz.prog 91 0 = some (3, 0) := by kernel_rfl
@[go_sem] theorem fo_91_1 : fOff Tryz.prog 91 1 = some 1 := by kernel_rfl
@[go_sem] theorem ft_91_1 : fTy Tryz.prog 91 1 = some (9, 1) := by kernel_rfl
@[go_sem] theorem fo_91_2 : fOff Tryz.prog 91 2 = some 2 := by kernel_rfl
@[go_sem] theorem ft_91_2 : fTy Tryz.prog 91 2 = some (3, 2) := by kernel_rfl
@[go_sem] theorem pl_91 : places Tryz.prog 91 = some [(0, 1), (1, 1), (2, 1)] := by kernel_rfl
@[go_sem] theorem eqk_91 : eqKinds Tryz.prog 91 = some [.int .i64, .str, .int .i64] := by kernel_rfl
@[go_sem] theorem isl_91 : isSliceT Tryz.prog 91 = false := by kernel_rfl
@[go_sem] theorem ist_91 : isStrT Tryz.prog 91 = false := by kernel_rfl
@[go_sem] theorem isp_91 : isPtrT Tryz.prog 91 = false := by kernel_rfl
@[go_sem] theorem isb_91 : isBoolT Tryz.prog 91 = false := by kernel_rfl
@[go_sem] theorem isi_91 : isIfaceT Tryz.prog 91 = false := by kernel_rfl
@[go_sem] theorem isn_91 : isIntT Tryz.prog 91 = none := by kernel_rfl
@[go_sem] theorem by_91 : bytesT Tryz.prog 91 = 32 := by kernel_rfl
@[go_sem] theorem sz_93 : szOf Tryz.prog 93 = some 1 := by kernel_rfl
@[go_sem] theorem ag_93 : isAggT Tryz.prog 93 = some false := by kernel_rfl
@[go_sem] theorem ze_93 : zeroL Tryz.prog 93 = some [.nilFunc] := by kernel_rfl
@[go_sem] theorem isl_93 : isSliceT Tryz.prog 93 = false := by kernel_rfl
@[go_sem] theorem ist_93 : isStrT Tryz.prog 93 = false := by kernel_rfl
@[go_sem] theorem isp_93 : isPtrT Tryz.prog 93 = false := by kernel_rfl
@[go_sem] theorem isb_93 : isBoolT Tryz.prog 93 = false := by kernel_rfl
@[go_sem] theorem isi_93 : isIfaceT Tryz.prog 93 = false := by kernel_rfl
@[go_sem] theorem isn_93 : isIntT Tryz.prog 93 = none := by kernel_rfl
@[go_sem] theorem by_93 : bytesT Tryz.prog 93 = 8 := by kernel_rfl
@[go_sem] theorem sz_94 : szOf Tryz.prog 94 = some 1 := by kernel_rfl
@[go_sem] theorem ag_94 : isAggT Tryz.prog 94 = some false := by kernel_rfl
@[go_sem] theorem ze_94 : zeroL Tryz.prog 94 = some [.nilFunc] := by kernel_rfl
@[go_sem] theorem isl_94 : isSliceT Tryz.prog 94 = false := by kernel_rfl
@[go_sem] theorem ist_94 : isStrT Tryz.prog 94 = false := by kernel_rfl
@[go_sem] theorem isp_94 : isPtrT Tryz.prog 94 = false := by kernel_rfl
@[go_sem] theorem isb_94 : isBoolT Tryz.prog 94 = false := by kernel_rfl
@[go_sem] theorem isi_94 : isIfaceT Tryz.prog 94 = false := by kernel_rfl
@[go_sem] theorem isn_94 : isIntT Tryz.prog 94 = none := by kernel_rfl
@[go_sem] theorem by_94 : bytesT Tryz.prog 94 = 8 := by kernel_rfl
@[go_sem] theorem sz_95 : szOf Tryz.prog 95 = some 1 := by kernel_rfl
@[go_sem] theorem ag_95 : isAggT Tryz.prog 95 = some false := by kernel_rfl
@[go_sem] theorem ze_95 : zeroL Tryz.prog 95 = some [.nilFunc] := by kernel_rfl
@[go_sem] theorem isl_95 : isSliceT Tryz.prog 95 = false := by kernel_rfl
@[go_sem] theorem ist_95 : isStrT Tryz.prog 95 = false := by kernel_rfl
@[go_sem] theorem isp_95 : isPtrT Tryz.prog 95 = false := by kernel_rfl
@[go_sem] theorem isb_95 : isBoolT Tryz.prog 95 = false := by kernel_rfl
@[go_sem] theorem isi_95 : isIfaceT Tryz.prog 95 = false := by kernel_rfl
@[go_sem] theorem isn_95 : isIntT Tryz.prog 95 = none := by kernel_rfl
@[go_sem] theorem by_95 : bytesT Tryz.prog 95 = 8 := by kernel_rfl
@[go_sem] theorem sz_96 : szOf Tryz.prog 96 = some 1 := by kernel_rfl
@[go_sem] theorem ag_96 : isAggT Tryz.prog 96 = some false := by kernel_rfl
@[go_sem] theorem ze_96 : zeroL Tryz.prog 96 = some [.nilFunc] := by kernel_rfl
@[go_sem] theorem isl_96 : isSliceT Tryz.prog 96 = false := by kernel_rfl
@[go_sem] theorem ist_96 : isStrT Tryz.prog 96 = false := by kernel_rfl
@[go_sem] theorem isp_96 : isPtrT Tryz.prog 96 = false := by kernel_rfl
@[go_sem] theorem isb_96 : isBoolT Tryz.prog 96 = false := by kernel_rfl
@[go_sem] theorem isi_96 : isIfaceT Tryz.prog 96 = false := by kernel_rfl
@[go_sem] theorem isn_96 : isIntT Tryz.prog 96 = none := by kernel_rfl
@[go_sem] theorem by_96 : bytesT Tryz.prog 96 = 8 := by kernel_rfl
@[go_sem] theorem sz_97 : szOf Tryz.prog 97 = some 1 := by kernel_rfl
@[go_sem] theorem ag_97 : isAggT Tryz.prog 97 = some false := by kernel_rfl
@[go_sem] theorem ze_97 : zeroL Tryz.prog 97 = some [.nilFunc] := by kernel_rfl
@[go_sem] theorem isl_97 : isSliceT Tryz.prog 97 = false := by kernel_rfl
@[go_sem] theorem ist_97 : isStrT Tryz.prog 97 = false := by kernel_rfl
@[go_sem] theorem isp_97 : isPtrT Tryz.prog 97 = false := by kernel_rfl
@[go_sem] theorem isb_97 : isBoolT Tryz.prog 97 = false := by kernel_rfl
@[go_sem] theorem isi_97 : isIfaceT Tryz.prog 97 = false := by kernel_rfl
@[go_sem] theorem isn_97 : isIntT Tryz.prog 97 = none := by kernel_rfl
@[go_sem] theorem by_97 : bytesT Tryz.prog 97 = 8 := by kernel_rfl
@[go_sem] theorem sz_98 : szOf Tryz.prog 98 = some 2 := by kernel_rfl
@[go_sem] theorem ag_98 : isAggT Tryz.prog 98 = some true := by kernel_rfl
@[go_sem] theorem ze_98 : zeroL Tryz.prog 98 = some [.string ⟨#[]⟩, .int .i64 0] := by kernel_rfl
@[go_sem] theorem fo_98_0 : fOff Tryz.prog 98 0 = some 0 := by kernel_rfl
@[go_sem] theorem ft_98_0 : fTy Tryz.prog 98 0 = some (9, 0) := by kernel_rfl
@[go_sem] theorem fo_98_1 : fOff Tryz.prog 98 1 = some 1 := by kernel_rfl
@[go_sem] theorem ft_98_1 : fTy Tryz.prog 98 1 = some (3, 1) := by kernel_rfl
@[go_sem] theorem pl_98 : places Tryz.prog 98 = some [(0, 1), (1, 1)] := by kernel_rfl
@[go_sem] theorem eqk_98 : eqKinds Tryz.prog 98 = some [.str, .int .i64] := by kernel_rfl
@[go_sem] theorem isl_98 : isSliceT Tryz.prog 98 = false := by kernel_rfl
@[go_sem] theorem ist_98 : isStrT Tryz.prog 98 = false := by kernel_rfl
@[go_sem] theorem isp_98 : isPtrT Tryz.prog 98 = false := by kernel_rfl
@[go_sem] theorem isb_98 : isBoolT Tryz.prog 98 = false := by kernel_rfl
@[go_sem] theorem isi_98 : isIfaceT Tryz.prog 98 = false := by kernel_rfl
@[go_sem] theorem isn_98 : isIntT Tryz.prog 98 = none := by kernel_rfl
@[go_sem] theorem by_98 : bytesT Tryz.prog 98 = 24 := by kernel_rfl
@[go_sem] theorem sz_99 : szOf Tryz.prog 99 = some 2 := by kernel_rfl
@[go_sem] theorem ag_99 : isAggT Tryz.prog 99 = some true := by kernel_rfl
@[go_sem] theorem ze_99 : zeroL Tryz.prog 99 = some [.string ⟨#[]⟩, .int .i64 0] := by kernel_rfl
@[go_sem] theorem fo_99_0 : fOff Tryz.prog 99 0 = some 0 := by kernel_rfl
@[go_sem] theorem ft_99_0 : fTy Tryz.prog 99 0 = some (9, 0) := by kernel_rfl
@[go_sem] theorem fo_99_1 : fOff Tryz.prog 99 1 = some 1 := by kernel_rfl
@[go_sem] theorem ft_99_1 : fTy Tryz.prog 99 1 = some (3, 1) := by kernel_rfl
@[go_sem] theorem pl_99 : places Tryz.prog 99 = some [(0, 1), (1, 1)] := by kernel_rfl
@[go_sem] theorem eqk_99 : eqKinds Tryz.prog 99 = some [.str, .int .i64] := by kernel_rfl
@[go_sem] theorem isl_99 : isSliceT Tryz.prog 99 = false := by kernel_rfl
@[go_sem] theorem ist_99 : isStrT Tryz.prog 99 = false := by kernel_rfl
@[go_sem] theorem isp_99 : isPtrT Tryz.prog 99 = false := by kernel_rfl
@[go_sem] theorem isb_99 : isBoolT Tryz.prog 99 = false := by kernel_rfl
@[go_sem] theorem isi_99 : isIfaceT Tryz.prog 99 = false := by kernel_rfl
@[go_sem] theorem isn_99 : isIntT Tryz.prog 99 = none := by kernel_rfl
@[go_sem] theorem by_99 : bytesT Tryz.prog 99 = 24 := by kernel_rfl
@[go_sem] theorem sz_100 : szOf Tryz.prog 100 = some 1 := by kernel_rfl
@[go_sem] theorem ag_100 : isAggT Tryz.prog 100 = some false := by kernel_rfl
@[go_sem] theorem ze_100 : zeroL Tryz.prog 100 = some [.nilFunc] := by kernel_rfl
@[go_sem] theorem isl_100 : isSliceT Tryz.prog 100 = false := by kernel_rfl
@[go_sem] theorem ist_100 : isStrT Tryz.prog 100 = false := by kernel_rfl
@[go_sem] theorem isp_100 : isPtrT Tryz.prog 100 = false := by kernel_rfl
@[go_sem] theorem isb_100 : isBoolT Tryz.prog 100 = false := by kernel_rfl
@[go_sem] theorem isi_100 : isIfaceT Tryz.prog 100 = false := by kernel_rfl
@[go_sem] theorem isn_100 : isIntT Tryz.prog 100 = none := by kernel_rfl
@[go_sem] theorem by_100 : bytesT Tryz.prog 100 = 8 := by kernel_rfl
@[go_sem] theorem sz_101 : szOf Tryz.prog 101 = some 1 := by kernel_rfl
@[go_sem] theorem ag_101 : isAggT Tryz.prog 101 = some false := by kernel_rfl
@[go_sem] theorem ze_101 : zeroL Tryz.prog 101 = some [.nilFunc] := by kernel_rfl
@[go_sem] theorem isl_101 : isSliceT Tryz.prog 101 = false := by kernel_rfl
@[go_sem] theorem ist_101 : isStrT Tryz.prog 101 = false := by kernel_rfl
@[go_sem] theorem isp_101 : isPtrT Tryz.prog 101 = false := by kernel_rfl
@[go_sem] theorem isb_101 : isBoolT Tryz.prog 101 = false := by kernel_rfl
@[go_sem] theorem isi_101 : isIfaceT Tryz.prog 101 = false := by kernel_rfl
@[go_sem] theorem isn_101 : isIntT Tryz.prog 101 = none := by kernel_rfl
@[go_sem] theorem by_101 : bytesT Tryz.prog 101 = 8 := by kernel_rfl
@[go_sem] theorem sz_102 : szOf Tryz.prog 102 = some 3 := by kernel_rfl
@[go_sem] theorem ag_102 : isAggT Tryz.prog 102 = some true := by kernel_rfl
@[go_sem] theorem ze_102 : zeroL Tryz.prog 102 = some [.string ⟨#[]⟩, .int .i64 0, .int .i64 0] := by kernel_rfl
@[go_sem] theorem fo_102_0 : fOff Tryz.prog 102 0 = some 0 := by kernel_rfl
@[go_sem] theorem ft_102_0 : fTy Tryz.prog 102 0 = some (9, 0) := by kernel_rfl
@[go_sem] theorem fo_102_1 : fOff Tryz.prog 102 1 = some 1 := by kernel_rfl
@[go_sem] theorem ft_102_1 : fTy Tryz.prog 102 1 = some (3, 1) := by kernel_rfl
@[go_sem] theorem fo_102_2 : fOff Tryz.prog 102 2 = some 2 := by kernel_rfl
@[go_sem] theorem ft_102_2 : fTy Tryz.prog 102 2 = some (3, 2) := by kernel_rfl
@[go_sem] theorem pl_102 : places Tryz.prog 102 = some [(0, 1), (1, 1), (2, 1)] := by kernel_rfl
@[go_sem] theorem eqk_102 : eqKinds Tryz.prog 102 = some [.str, .int .i64, .int .i64] := by kernel_rfl
@[go_sem] theorem isl_102 : isSliceT Tryz.prog 102 = false := by kernel_rfl
@[go_sem] theorem ist_102 : isStrT Tryz.prog 102 = false := by kernel_rfl
@[go_sem] theorem isp_102 : isPtrT Tryz.prog 102 = false := by kernel_rfl
@[go_sem] theorem isb_102 : isBoolT Tryz.prog 102 = false := by kernel_rfl
@[go_sem] theorem isi_102 : isIfaceT Tryz.prog 102 = false := by kernel_rfl
@[go_sem] theorem isn_102 : isIntT Tryz.prog 102 = none := by kernel_rfl
@[go_sem] theorem by_102 : bytesT Tryz.prog 102 = 32 := by kernel_rfl
@[go_sem] theorem sz_103 : szOf Tryz.prog 103 = some 3 := by kernel_rfl
@[go_sem] theorem ag_103 : isAggT Tryz.prog 103 = some true := by kernel_rfl
@[go_sem] theorem ze_103 : zeroL Tryz.prog 103 = some [.string ⟨#[]⟩, .int .i64 0, .int .i64 0] := by kernel_rfl
@[go_sem] theorem fo_103_0 : fOff Tryz.prog 103 0 = some 0 := by kernel_rfl
@[go_sem] theorem ft_103_0 : fTy Tryz.prog 103 0 = some (9, 0) := by kernel_rfl
@[go_sem] theorem fo_103_1 : fOff Tryz.prog 103 1 = some 1 := by kernel_rfl
@[go_sem] theorem ft_103_1 : fTy Tryz.prog 103 1 = some (3, 1) := by kernel_rfl
@[go_sem] theorem fo_103_2 : fOff Tryz.prog 103 2 = some 2 := by kernel_rfl
@[go_sem] theorem ft_103_2 : fTy Tryz.prog 103 2 = some (3, 2) := by kernel_rfl
@[go_sem] theorem pl_103 : places Tryz.prog 103 = some [(0, 1), (1, 1), (2, 1)] := by kernel_rfl
@[go_sem] theorem eqk_103 : eqKinds Tryz.prog 103 = some [.str, .int .i64, .int .i64] := by kernel_rfl
@[go_sem] theorem isl_103 : isSliceT Tryz.prog 103 = false := by kernel_rfl
@[go_sem] theorem ist_103 : isStrT Tryz.prog 103 = false := by kernel_rfl
@[go_sem] theorem isp_103 : isPtrT Tryz.prog 103 = false := by kernel_rfl
@[go_sem] theorem isb_103 : isBoolT Tryz.prog 103 = false := by kernel_rfl
@[go_sem] theorem isi_103 : isIfaceT Tryz.prog 103 = false := by kernel_rfl
@[go_sem] theorem isn_103 : isIntT Tryz.prog 103 = none := by kernel_rfl
@[go_sem] theorem by_103 : bytesT Tryz.prog 103 = 32 := by kernel_rfl
@[go_sem] theorem sz_104 : szOf Tryz.prog 104 = some 1 := by kernel_rfl
@[go_sem] theorem ag_104 : isAggT Tryz.prog 104 = some false := by kernel_rfl
@[go_sem] theorem ze_104 : zeroL Tryz.prog 104 = some [.nilFunc] := by kernel_rfl
@[go_sem] theorem isl_104 : isSliceT Tryz.prog 104 = false := by kernel_rfl
@[go_sem] theorem ist_104 : isStrT Tryz.prog 104 = false := by kernel_rfl
@[go_sem] theorem isp_104 : isPtrT Tryz.prog 104 = false := by kernel_rfl
@[go_sem] theorem isb_104 : isBoolT Tryz.prog 104 = false := by kernel_rfl
@[go_sem] theorem isi_104 : isIfaceT Tryz.prog 104 = false := by kernel_rfl
@[go_sem] theorem isn_104 : isIntT Tryz.prog 104 = none := by kernel_rfl
@[go_sem] theorem by_104 : bytesT Tryz.prog 104 = 8 := by kernel_rfl
@[go_sem] theorem sz_106 : szOf Tryz.prog 106 = some 1 := by kernel_rfl
@[go_sem] theorem ag_106 : isAggT Tryz.prog 106 = some false := by kernel_rfl
@[go_sem] theorem ze_106 : zeroL Tryz.prog 106 = some [.nilFunc] := by kernel_rfl
@[go_sem] theorem isl_106 : isSliceT Tryz.prog 106 = false := by kernel_rfl
@[go_sem] theorem ist_106 : isStrT Tryz.prog 106 = false := by kernel_rfl
@[go_sem] theorem isp_106 : isPtrT Tryz.prog 106 = false := by kernel_rfl
@[go_sem] theorem isb_106 : isBoolT Tryz.prog 106 = false := by kernel_rfl
@[go_sem] theorem isi_106 : isIfaceT Tryz.prog 106 = false := by kernel_rfl
@[go_sem] theorem isn_106 : isIntT Tryz.prog 106 = none := by kernel_rfl
@[go_sem] theorem by_106 : bytesT Tryz.prog 106 = 8 := by kernel_rfl
@[go_sem] theorem sz_107 : szOf Tryz.prog 107 = some 1 := by kernel_rfl
@[go_sem] theorem ag_107 : isAggT Tryz.prog 107 = some false := by kernel_rfl
@[go_sem] theorem ze_107 : zeroL Tryz.prog 107 = some [.nilFunc] := by kernel_rfl
@[go_sem] theorem isl_107 : isSliceT Tryz.prog 107 = false := by kernel_rfl
@[go_sem] theorem ist_107 : isStrT Tryz.prog 107 = false := by kernel_rfl
@[go_sem] theorem isp_107 : isPtrT Tryz.prog 107 = false := by kernel_rfl
@[go_sem] theorem isb_107 : isBoolT Tryz.prog 107 = false := by kernel_rfl
@[go_sem] theorem isi_107 : isIfaceT Tryz.prog 107 = false := by kernel_rfl
@[go_sem] theorem isn_107 : isIntT Tryz.prog 107 = none := by kernel_rfl
@[go_sem] theorem by_107 : bytesT Tryz.prog 107 = 8 := by kernel_rfl
@[go_sem] theorem sz_108 : szOf Tryz.prog 108 = some 1 := by kernel_rfl
@[go_sem] theorem ag_108 : isAggT Tryz.prog 108 = some false := by kernel_rfl
@[go_sem] theorem ze_108 : zeroL Tryz.prog 108 = some [.nilFunc] := by kernel_rfl
@[go_sem] theorem isl_108 : isSliceT Tryz.prog 108 = false := by kernel_rfl
@[go_sem] theorem ist_108 : isStrT Tryz.prog 108 = false := by kernel_rfl
@[go_sem] theorem isp_108 : isPtrT Tryz.prog 108 = false := by kernel_rfl
@[go_sem] theorem isb_108 : isBoolT Tryz.prog 108 = false := by kernel_rfl
@[go_sem] theorem isi_108 : isIfaceT Tryz.prog 108 = false := by kernel_rfl
@[go_sem] theorem isn_108 : isIntT Tryz.prog 108 = none := by kernel_rfl
@[go_sem] theorem by_108 : bytesT Tryz.prog 108 = 8 := by kernel_rfl
@[go_sem] theorem sz_109 : szOf Tryz.prog 109 = some 1 := by kernel_rfl
@[go_sem] theorem ag_109 : isAggT Tryz.prog 109 = some false := by kernel_rfl
@[go_sem] theorem ze_109 : zeroL Tryz.prog 109 = some [.nilFunc] := by kernel_rfl
@[go_sem] theorem isl_109 : isSliceT Tryz.prog 109 = false := by kernel_rfl
@[go_sem] theorem ist_109 : isStrT Tryz.prog 109 = false := by kernel_rfl
@[go_sem] theorem isp_109 : isPtrT Tryz.prog 109 = false := by kernel_rfl
@[go_sem] theorem isb_109 : isBoolT Tryz.prog 109 = false := by kernel_rfl
@[go_sem] theorem isi_109 : isIfaceT Tryz.prog 109 = false := by kernel_rfl
@[go_sem] theorem isn_109 : isIntT Tryz.prog 109 = none := by kernel_rfl
@[go_sem] theorem by_109 : bytesT Tryz.prog 109 = 8 := by kernel_rfl
@[go_sem] theorem sz_110 : szOf Tryz.prog 110 = some 1 := by kernel_rfl
@[go_sem] theorem ag_110 : isAggT Tryz.prog 110 = some false := by kernel_rfl
@[go_sem] theorem ze_110 : zeroL Tryz.prog 110 = some [.nilFunc] := by kernel_rfl
@[go_sem] theorem isl_110 : isSliceT Tryz.prog 110 = false := by kernel_rfl
@[go_sem] theorem ist_110 : isStrT Tryz.prog 110 = false := by kernel_rfl
@[go_sem] theorem isp_110 : isPtrT Tryz.prog 110 = false := by kernel_rfl
@[go_sem] theorem isb_110 : isBoolT Tryz.prog 110 = false := by kernel_rfl
@[go_sem] theorem isi_110 : isIfaceT Tryz.prog 110 = false := by kernel_rfl
@[go_sem] theorem isn_110 : isIntT Tryz.prog 110 = none := by kernel_rfl
@[go_sem] theorem by_110 : bytesT Tryz.prog 110 = 8 := by kernel_rfl
@[go_sem] theorem sz_111 : szOf Tryz.prog 111 = some 1 := by kernel_rfl
@[go_sem] theorem ag_111 : isAggT Tryz.prog 111 = some false := by kernel_rfl
@[go_sem] theorem ze_111 : zeroL Tryz.prog 111 = some [.slice none 0 0] := by kernel_rfl
@[go_sem] theorem un_111 : Tryz.prog.underlying 111 = some (.slice 9) := by kernel_rfl
@[go_sem] theorem el_111 : elT Tryz.prog 111 = some 9 := by kernel_rfl
@[go_sem] theorem es_111 : elSz Tryz.prog 111 = some 1 := by kernel_rfl
@[go_sem] theorem isl_111 : isSliceT Tryz.prog 111 = true := by kernel_rfl
@[go_sem] theorem ist_111 : isStrT Tryz.prog 111 = false := by kernel_rfl
@[go_sem] theorem isp_111 : isPtrT Tryz.prog 111 = false := by kernel_rfl
@[go_sem] theorem isb_111 : isBoolT Tryz.prog 111 = false := by kernel_rfl
@[go_sem] theorem isi_111 : isIfaceT Tryz.prog 111 = false := by kernel_rfl
@[go_sem] theorem isn_111 : isIntT Tryz.prog 111 = none := by kernel_rfl
@[go_sem] theorem by_111 : bytesT Tryz.prog 111 = 24 := by kernel_rfl
@[go_sem] theorem sz_112 : szOf Tryz.prog 112 = some 1 := by kernel_rfl
@[go_sem] theorem ag_112 : isAggT Tryz.prog 112 = some false := by kernel_rfl
@[go_sem] theorem ze_112 : zeroL Tryz.prog 112 = some [.nilFunc] := by kernel_rfl
@[go_sem] theorem isl_112 : isSliceT Tryz.prog 112 = false := by kernel_rfl
@[go_sem] theorem ist_112 : isStrT Tryz.prog 112 = false := by kernel_rfl
@[go_sem] theorem isp_112 : isPtrT Tryz.prog 112 = false := by kernel_rfl
@[go_sem] theorem isb_112 : isBoolT Tryz.prog 112 = false := by kernel_rfl
@[go_sem] theorem isi_112 : isIfaceT Tryz.prog 112 = false := by kernel_rfl
@[go_sem] theorem isn_112 : isIntT Tryz.prog 112 = none := by kernel_rfl
@[go_sem] theorem by_112 : bytesT Tryz.prog 112 = 8 := by kernel_rfl
@[go_sem] theorem sz_113 : szOf Tryz.prog 113 = some 1 := by kernel_rfl
@[go_sem] theorem ag_113 : isAggT Tryz.prog 113 = some false := by kernel_rfl
@[go_sem] theorem ze_113 : zeroL Tryz.prog 113 = some [.nilFunc] := by kernel_rfl
@[go_sem] theorem isl_113 : isSliceT Tryz.prog 113 = false := by kernel_rfl
@[go_sem] theorem ist_113 : isStrT Tryz.prog 113 = false := by kernel_rfl
@[go_sem] theorem isp_113 : isPtrT Tryz.prog 113 = false := by kernel_rfl
@[go_sem] theorem isb_113 : isBoolT Tryz.prog 113 = false := by kernel_rfl
@[go_sem] theorem isi_113 : isIfaceT Tryz.prog 113 = false := by kernel_rfl
@[go_sem] theorem isn_113 : isIntT Tryz.prog 113 = none := by kernel_rfl
@[go_sem] theorem by_113 : bytesT Tryz.prog 113 = 8 := by kernel_rfl
@[go_sem] theorem sz_114 : szOf Tryz.prog 114 = some 1 := by kernel_rfl
@[go_sem] theorem ag_114 : isAggT Tryz.prog 114 = some false := by kernel_rfl
@[go_sem] theorem ze_114 : zeroL Tryz.prog 114 = some [.nilFunc] := by kernel_rfl
@[go_sem] theorem isl_114 : isSliceT Tryz.prog 114 = false := by kernel_rfl
@[go_sem] theorem ist_114 : isStrT Tryz.prog 114 = false := by kernel_rfl
@[go_sem] theorem isp_114 : isPtrT Tryz.prog 114 = false := by kernel_rfl
@[go_sem] theorem isb_114 : isBoolT Tryz.prog 114 = false := by kernel_rfl
@[go_sem] theorem isi_114 : isIfaceT Tryz.prog 114 = false := by kernel_rfl
@[go_sem] theorem isn_114 : isIntT Tryz.prog 114 = none := by kernel_rfl
@[go_sem] theorem by_114 : bytesT Tryz.prog 114 = 8 := by kernel_rfl
@[go_sem] theorem sz_115 : szOf Tryz.prog 115 = some 1 := by kernel_rfl
@[go_sem] theorem ag_115 : isAggT Tryz.prog 115 = some false := by kernel_rfl
@[go_sem] theorem ze_115 : zeroL Tryz.prog 115 = some [.nilFunc] := by kernel_rfl
@[go_sem] theorem isl_115 : isSliceT Tryz.prog 115 = false := by kernel_rfl
@[go_sem] theorem ist_115 : isStrT Tryz.prog 115 = false := by kernel_rfl
@[go_sem] theorem isp_115 : isPtrT Tryz.prog 115 = false := by kernel_rfl
@[go_sem] theorem isb_115 : isBoolT Tryz.prog 115 = false := by kernel_rfl
@[go_sem] theorem isi_115 : isIfaceT Tryz.prog 115 = false := by kernel_rfl
@[go_sem] theorem isn_115 : isIntT Tryz.prog 115 = none := by kernel_rfl
@[go_sem] theorem by_115 : bytesT Tryz.prog 115 = 8 := by kernel_rfl
@[go_sem] theorem sz_116 : szOf Tryz.prog 116 = some 1 := by kernel_rfl
@[go_sem] theorem ag_116 : isAggT Tryz.prog 116 = some false := by kernel_rfl
@[go_sem] theorem ze_116 : zeroL Tryz.prog 116 = some [.nilFunc] := by kernel_rfl
@[go_sem] theorem isl_116 : isSliceT Tryz.prog 116 = false := by kernel_rfl
@[go_sem] theorem ist_116 : isStrT Tryz.prog 116 = false := by kernel_rfl
@[go_sem] theorem isp_116 : isPtrT Tryz.prog 116 = false := by kernel_rfl
@[go_sem] theorem isb_116 : isBoolT Tryz.prog 116 = false := by kernel_rfl
@[go_sem] theorem isi_116 : isIfaceT Tryz.prog 116 = false := by kernel_rfl
@[go_sem] theorem isn_116 : isIntT Tryz.prog 116 = none := by kernel_rfl
@[go_sem] theorem by_116 : bytesT Tryz.prog 116 = 8 := by kernel_rfl
@[go_sem] theorem sz_117 : szOf Tryz.prog 117 = some 1 := by kernel_rfl
@[go_sem] theorem ag_117 : isAggT Tryz.prog 117 = some false := by kernel_rfl
@[go_sem] theorem ze_117 : zeroL Tryz.prog 117 = some [.nilIface] := by kernel_rfl
@[go_sem] theorem isl_117 : isSliceT Tryz.prog 117 = false := by kernel_rfl
@[go_sem] theorem ist_117 : isStrT Tryz.prog 117 = false := by kernel_rfl
@[go_sem] theorem isp_117 : isPtrT Tryz.prog 117 = false := by kernel_rfl
@[go_sem] theorem isb_117 : isBoolT Tryz.prog 117 = false := by kernel_rfl
@[go_sem] theorem isi_117 : isIfaceT Tryz.prog 117 = true := by kernel_rfl
@[go_sem] theorem isn_117 : isIntT Tryz.prog 117 = none := by kernel_rfl
@[go_sem] theorem by_117 : bytesT Tryz.prog 117 = 16 := by kernel_rfl
@[go_sem] theorem sz_118 : szOf Tryz.prog 118 = some 1 := by kernel_rfl
@[go_sem] theorem ag_118 : isAggT Tryz.prog 118 = some false := by kernel_rfl
@[go_sem] theorem ze_118 : zeroL Tryz.prog 118 = some [.nilIface] := by kernel_rfl
@[go_sem] theorem isl_118 : isSliceT Tryz.prog 118 = false := by kernel_rfl
@[go_sem] theorem ist_118 : isStrT Tryz.prog 118 = false := by kernel_rfl
@[go_sem] theorem isp_118 : isPtrT Tryz.prog 118 = false := by kernel_rfl
@[go_sem] theorem isb_118 : isBoolT Tryz.prog 118 = false := by kernel_rfl
@[go_sem] theorem isi_118 : isIfaceT Tryz.prog 118 = true := by kernel_rfl
@[go_sem] theorem isn_118 : isIntT Tryz.prog 118 = none := by kernel_rfl
@[go_sem] theorem by_118 : bytesT Tryz.prog 118 = 16 := by kernel_rfl
@[go_sem] theorem sz_120 : szOf Tryz.prog 120 = some 1 := by kernel_rfl
@[go_sem] theorem ag_120 : isAggT Tryz.prog 120 = some false := by kernel_rfl
@[go_sem] theorem ze_120 : zeroL Tryz.prog 120 = some [.nilFunc] := by kernel_rfl
@[go_sem] theorem isl_120 : isSliceT Tryz.prog 120 = false := by kernel_rfl
@[go_sem] theorem ist_120 : isStrT Tryz.prog 120 = false := by kernel_rfl
@[go_sem] theorem isp_120 : isPtrT Tryz.prog 120 = false := by kernel_rfl
@[go_sem] theorem isb_120 : isBoolT Tryz.prog 120 = false := by kernel_rfl
@[go_sem] theorem isi_120 : isIfaceT Tryz.prog 120 = false := by kernel_rfl
@[go_sem] theorem isn_120 : isIntT Tryz.prog 120 = none := by kernel_rfl
@[go_sem] theorem by_120 : bytesT Tryz.prog 120 = 8 := by kernel_rfl
@[go_sem] theorem sz_121 : szOf Tryz.prog 121 = some 1 := by kernel_rfl
@[go_sem] theorem ag_121 : isAggT Tryz.prog 121 = some false := by kernel_rfl
@[go_sem] theorem ze_121 : zeroL Tryz.prog 121 = some [.nilFunc] := by kernel_rfl
@[go_sem] theorem isl_121 : isSliceT Tryz.prog 121 = false := by kernel_rfl
@[go_sem] theorem ist_121 : isStrT Tryz.prog 121 = false := by kernel_rfl
@[go_sem] theorem isp_121 : isPtrT Tryz.prog 121 = false := by kernel_rfl
@[go_sem] theorem isb_121 : isBoolT Tryz.prog 121 = false := by kernel_rfl
@[go_sem] theorem isi_121 : isIfaceT Tryz.prog 121 = false := by kernel_rfl
@[go_sem] theorem isn_121 : isIntT Tryz.prog 121 = none := by kernel_rfl
@[go_sem] theorem by_121 : bytesT Tryz.prog 121 = 8 := by kernel_rfl
@[go_sem] theorem sz_122 : szOf Tryz.prog 122 = some 1 := by kernel_rfl
@[go_sem] theorem ag_122 : isAggT Tryz.prog 122 = some false := by kernel_rfl
@[go_sem] theorem ze_122 : zeroL Tryz.prog 122 = some [.int .i64 0] := by kernel_rfl
@[go_sem] theorem isl_122 : isSliceT Tryz.prog 122 = false := by kernel_rfl
@[go_sem] theorem ist_122 : isStrT Tryz.prog 122 = false := by kernel_rfl
@[go_sem] theorem isp_122 : isPtrT Tryz.prog 122 = false := by kernel_rfl
@[go_sem] theorem isb_122 : isBoolT Tryz.prog 122 = false := by kernel_rfl
@[go_sem] theorem isi_122 : isIfaceT Tryz.prog 122 = false := by kernel_rfl
@[go_sem] theorem isn_122 : isIntT Tryz.prog 122 = some .i64 := by kernel_rfl
@[go_sem] theorem by_122 : bytesT Tryz.prog 122 = 8 := by kernel_rfl
@[go_sem] theorem sz_123 : szOf Tryz.prog 123 = some 1 := by kernel_rfl
@[go_sem] theorem ag_123 : isAggT Tryz.prog 123 = some false := by kernel_rfl
@[go_sem] theorem ze_123 : zeroL Tryz.prog 123 = some [.slice none 0 0] := by kernel_rfl
@[go_sem] theorem un_123 : Tryz.prog.underlying 123 = some (.slice 5) := by kernel_rfl
@[go_sem] theorem el_123 : elT Tryz.prog 123 = some 5 := by kernel_rfl
@[go_sem] theorem es_123 : elSz Tryz.prog 123 = some 1 := by kernel_rfl
@[go_sem] theorem isl_123 : isSliceT Tryz.prog 123 = true := by kernel_rfl
@[go_sem] theorem ist_123 : isStrT Tryz.prog 123 = false := by kernel_rfl
@[go_sem] theorem isp_123 : isPtrT Tryz.prog 123 = false := by kernel_rfl
@[go_sem] theorem isb_123 : isBoolT Tryz.prog 123 = false := by kernel_rfl
@[go_sem] theorem isi_123 : isIfaceT Tryz.prog 123 = false := by kernel_rfl
@[go_sem] theorem isn_123 : isIntT Tryz.prog 123 = none := by kernel_rfl
@[go_sem] theorem by_123 : bytesT Tryz.prog 123 = 24 := by kernel_rfl
@[go_sem] theorem sz_125 : szOf Tryz.prog 125 = some 1 := by kernel_rfl
@[go_sem] theorem ag_125 : isAggT Tryz.prog 125 = some false := by kernel_rfl
@[go_sem] theorem ze_125 : zeroL Tryz.prog 125 = some [.nilFunc] := by kernel_rfl
@[go_sem] theorem isl_125 : isSliceT Tryz.prog 125 = false := by kernel_rfl
@[go_sem] theorem ist_125 : isStrT Tryz.prog 125 = false := by kernel_rfl
@[go_sem] theorem isp_125 : isPtrT Tryz.prog 125 = false := by kernel_rfl
@[go_sem] theorem isb_125 : isBoolT Tryz.prog 125 = false := by kernel_rfl
@[go_sem] theorem isi_125 : isIfaceT Tryz.prog 125 = false := by kernel_rfl
@[go_sem] theorem isn_125 : isIntT Tryz.prog 125 = none := by kernel_rfl
@[go_sem] theorem by_125 : bytesT Tryz.prog 125 = 8 := by kernel_rfl
@[go_sem] theorem sz_126 : szOf Tryz.prog 126 = some 1 := by kernel_rfl
@[go_sem] theorem ag_126 : isAggT Tryz.prog 126 = some false := by kernel_rfl
@[go_sem] theorem ze_126 : zeroL Tryz.prog 126 = some [.pointer none] := by kernel_rfl
@[go_sem] theorem isl_126 : isSliceT Tryz.prog 126 = false := by kernel_rfl
@[go_sem] theorem ist_126 : isStrT Tryz.prog 126 = false := by kernel_rfl
@[go_sem] theorem isp_126 : isPtrT Tryz.prog 126 = true := by kernel_rfl
@[go_sem] theorem isb_126 : isBoolT Tryz.prog 126 = false := by kernel_rfl
@[go_sem] theorem isi_126 : isIfaceT Tryz.prog 126 = false := by kernel_rfl
@[go_sem] theorem isn_126 : isIntT Tryz.prog 126 = none := by kernel_rfl
@[go_sem] theorem by_126 : bytesT Tryz.prog 126 = 8 := by kernel_rfl
@[go_sem] theorem sz_127 : szOf Tryz.prog 127 = some 1 := by kernel_rfl
@[go_sem] theorem ag_127 : isAggT Tryz.prog 127 = some false := by kernel_rfl
@[go_sem] theorem ze_127 : zeroL Tryz.prog 127 = some [.nilFunc] := by kernel_rfl
@[go_sem] theorem isl_127 : isSliceT Tryz.prog 127 = false := by kernel_rfl
@[go_sem] theorem ist_127 : isStrT Tryz.prog 127 = false := by kernel_rfl
@[go_sem] theorem isp_127 : isPtrT Tryz.prog 127 = false := by kernel_rfl
@[go_sem] theorem isb_127 : isBoolT Tryz.prog 127 = false := by kernel_rfl
@[go_sem] theorem isi_127 : isIfaceT Tryz.prog 127 = false := by kernel_rfl
@[go_sem] theorem isn_127 : isIntT Tryz.prog 127 = none := by kernel_rfl
@[go_sem] theorem by_127 : bytesT Tryz.prog 127 = 8 := by kernel_rfl
@[go_sem] theorem sz_128 : szOf Tryz.prog 128 = some 1 := by kernel_rfl
@[go_sem] theorem ag_128 : isAggT Tryz.prog 128 = some false := by kernel_rfl
@[go_sem] theorem ze_128 : zeroL Tryz.prog 128 = some [.nilFunc] := by kernel_rfl
@[go_sem] theorem isl_128 : isSliceT Tryz.prog 128 = false := by kernel_rfl
@[go_sem] theorem ist_128 : isStrT Tryz.prog 128 = false := by kernel_rfl
@[go_sem] theorem isp_128 : isPtrT Tryz.prog 128 = false := by kernel_rfl
@[go_sem] theorem isb_128 : isBoolT Tryz.prog 128 = false := by kernel_rfl
@[go_sem] theorem isi_128 : isIfaceT Tryz.prog 128 = false := by kernel_rfl
@[go_sem] theorem isn_128 : isIntT Tryz.prog 128 = none := by kernel_rfl
@[go_sem] theorem by_128 : bytesT Tryz.prog 128 = 8 := by kernel_rfl
@[go_sem] theorem sz_129 : szOf Tryz.prog 129 = some 1 := by kernel_rfl
@[go_sem] theorem ag_129 : isAggT Tryz.prog 129 = some false := by kernel_rfl
@[go_sem] theorem ze_129 : zeroL Tryz.prog 129 = some [.int .u64 0] := by kernel_rfl
@[go_sem] theorem isl_129 : isSliceT Tryz.prog 129 = false := by kernel_rfl
@[go_sem] theorem ist_129 : isStrT Tryz.prog 129 = false := by kernel_rfl
@[go_sem] theorem isp_129 : isPtrT Tryz.prog 129 = false := by kernel_rfl
@[go_sem] theorem isb_129 : isBoolT Tryz.prog 129 = false := by kernel_rfl
@[go_sem] theorem isi_129 : isIfaceT Tryz.prog 129 = false := by kernel_rfl
@[go_sem] theorem isn_129 : isIntT Tryz.prog 129 = some .u64 := by kernel_rfl
@[go_sem] theorem by_129 : bytesT Tryz.prog 129 = 8 := by kernel_rfl
@[go_sem] theorem sz_131 : szOf Tryz.prog 131 = some 1 := by kernel_rfl
@[go_sem] theorem ag_131 : isAggT Tryz.prog 131 = some false := by kernel_rfl
@[go_sem] theorem ze_131 : zeroL Tryz.prog 131 = some [.nilFunc] := by kernel_rfl
@[go_sem] theorem isl_131 : isSliceT Tryz.prog 131 = false := by kernel_rfl
@[go_sem] theorem ist_131 : isStrT Tryz.prog 131 = false := by kernel_rfl
@[go_sem] theorem isp_131 : isPtrT Tryz.prog 131 = false := by kernel_rfl
@[go_sem] theorem isb_131 : isBoolT Tryz.prog 131 = false := by kernel_rfl
@[go_sem] theorem isi_131 : isIfaceT Tryz.prog 131 = false := by kernel_rfl
@[go_sem] theorem isn_131 : isIntT Tryz.prog 131 = none := by kernel_rfl
@[go_sem] theorem by_131 : bytesT Tryz.prog 131 = 8 := by kernel_rfl
@[go_sem] theorem sz_132 : szOf Tryz.prog 132 = some 1 := by kernel_rfl
@[go_sem] theorem ag_132 : isAggT Tryz.prog 132 = some false := by kernel_rfl
@[go_sem] theorem ze_132 : zeroL Tryz.prog 132 = some [.int .u64 0] := by kernel_rfl
@[go_sem] theorem isl_132 : isSliceT Tryz.prog 132 = false := by kernel_rfl
@[go_sem] theorem ist_132 : isStrT Tryz.prog 132 = false := by kernel_rfl
@[go_sem] theorem isp_132 : isPtrT Tryz.prog 132 = false := by kernel_rfl
@[go_sem] theorem isb_132 : isBoolT Tryz.prog 132 = false := by kernel_rfl
@[go_sem] theorem isi_132 : isIfaceT Tryz.prog 132 = false := by kernel_rfl
@[go_sem] theorem isn_132 : isIntT Tryz.prog 132 = some .u64 := by kernel_rfl
@[go_sem] theorem by_132 : bytesT Tryz.prog 132 = 8 := by kernel_rfl
@[go_sem] theorem sz_133 : szOf Tryz.prog 133 = some 3 := by kernel_rfl
@[go_sem] theorem ag_133 : isAggT Tryz.prog 133 = some true := by kernel_rfl
@[go_sem] theorem ze_133 : zeroL Tryz.prog 133 = some [.string ⟨#[]⟩, .string ⟨#[]⟩, .nilIface] := by kernel_rfl
@[go_sem] theorem fo_133_0 : fOff Tryz.prog 133 0 = some 0 := by kernel_rfl
@[go_sem] theorem ft_133_0 : fTy Tryz.prog 133 0 = some (9, 0) := by kernel_rfl
@[go_sem] theorem fo_133_1 : fOff Tryz.prog 133 1 = some 1 := by kernel_rfl
@[go_sem] theorem ft_133_1 : fTy Tryz.prog 133 1 = some (9, 1) := by kernel_rfl
@[go_sem] theorem fo_133_2 : fOff Tryz.prog 133 2 = some 2 := by kernel_rfl
@[go_sem] theorem ft_133_2 : fTy Tryz.prog 133 2 = some (118, 2) := by kernel_rfl
@[go_sem] theorem pl_133 : places Tryz.prog 133 = some [(0, 1), (1, 1), (2, 1)] := by kernel_rfl
@[go_sem] theorem isl_133 : isSliceT Tryz.prog 133 = false := by kernel_rfl
@[go_sem] theorem ist_133 : isStrT Tryz.prog 133 = false := by kernel_rfl
@[go_sem] theorem isp_133 : isPtrT Tryz.prog 133 = false := by kernel_rfl
@[go_sem] theorem isb_133 : isBoolT Tryz.prog 133 = false := by kernel_rfl
@[go_sem] theorem isi_133 : isIfaceT Tryz.prog 133 = false := by kernel_rfl
@[go_sem] theorem isn_133 : isIntT Tryz.prog 133 = none := by kernel_rfl
@[go_sem] theorem by_133 : bytesT Tryz.prog 133 = 48 := by kernel_rfl
@[go_sem] theorem sz_134 : szOf Tryz.prog 134 = some 3 := by kernel_rfl
@[go_sem] theorem ag_134 : isAggT Tryz.prog 134 = some true := by kernel_rfl
@[go_sem] theorem ze_134 : zeroL Tryz.prog 134 = some [.string ⟨#[]⟩, .string ⟨#[]⟩, .nilIface] := by kernel_rfl
@[go_sem] theorem fo_134_0 : fOff Tryz.prog 134 0 = some 0 := by kernel_rfl
@[go_sem] theorem ft_134_0 : fTy Tryz.prog 134 0 = some (9, 0) := by kernel_rfl
@[go_sem] theorem fo_134_1 : fOff Tryz.prog 134 1 = some 1 := by kernel_rfl
@[go_sem] theorem ft_134_1 : fTy Tryz.prog 134 1 = some (9, 1) := by kernel_rfl
@[go_sem] theorem fo_134_2 : fOff Tryz.prog 134 2 = some 2 := by kernel_rfl
@[go_sem] theorem ft_134_2 : fTy Tryz.prog 134 2 = some (118, 2) := by kernel_rfl
@[go_sem] theorem pl_134 : places Tryz.prog 134 = some [(0, 1), (1, 1), (2, 1)] := by kernel_rfl
@[go_sem] theorem isl_134 : isSliceT Tryz.prog 134 = false := by kernel_rfl
@[go_sem] theorem ist_134 : isStrT Tryz.prog 134 = false := by kernel_rfl
@[go_sem] theorem isp_134 : isPtrT Tryz.prog 134 = false := by kernel_rfl
@[go_sem] theorem isb_134 : isBoolT Tryz.prog 134 = false := by kernel_rfl
@[go_sem] theorem isi_134 : isIfaceT Tryz.prog 134 = false := by kernel_rfl
@[go_sem] theorem isn_134 : isIntT Tryz.prog 134 = none := by kernel_rfl
@[go_sem] theorem by_134 : bytesT Tryz.prog 134 = 48 := by kernel_rfl
@[go_sem] theorem sz_135 : szOf Tryz.prog 135 = some 1 := by kernel_rfl
@[go_sem] theorem ag_135 : isAggT Tryz.prog 135 = some false := by kernel_rfl
@[go_sem] theorem ze_135 : zeroL Tryz.prog 135 = some [.nilFunc] := by kernel_rfl
@[go_sem] theorem isl_135 : isSliceT Tryz.prog 135 = false := by kernel_rfl
@[go_sem] theorem ist_135 : isStrT Tryz.prog 135 = false := by kernel_rfl
@[go_sem] theorem isp_135 : isPtrT Tryz.prog 135 = false := by kernel_rfl
@[go_sem] theorem isb_135 : isBoolT Tryz.prog 135 = false := by kernel_rfl
@[go_sem] theorem isi_135 : isIfaceT Tryz.prog 135 = false := by kernel_rfl
@[go_sem] theorem isn_135 : isIntT Tryz.prog 135 = none := by kernel_rfl
@[go_sem] theorem by_135 : bytesT Tryz.prog 135 = 8 := by kernel_rfl
@[go_sem] theorem sz_136 : szOf Tryz.prog 136 = some 1 := by kernel_rfl
@[go_sem] theorem ag_136 : isAggT Tryz.prog 136 = some false := by kernel_rfl
@[go_sem] theorem ze_136 : zeroL Tryz.prog 136 = some [.nilFunc] := by kernel_rfl
@[go_sem] theorem isl_136 : isSliceT Tryz.prog 136 = false := by kernel_rfl
@[go_sem] theorem ist_136 : isStrT Tryz.prog 136 = false := by kernel_rfl
@[go_sem] theorem isp_136 : isPtrT Tryz.prog 136 = false := by kernel_rfl
@[go_sem] theorem isb_136 : isBoolT Tryz.prog 136 = false := by kernel_rfl
@[go_sem] theorem isi_136 : isIfaceT Tryz.prog 136 = false := by kernel_rfl
@[go_sem] theorem isn_136 : isIntT Tryz.prog 136 = none := by kernel_rfl
@[go_sem] theorem by_136 : bytesT Tryz.prog 136 = 8 := by kernel_rfl
@[go_sem] theorem sz_137 : szOf Tryz.prog 137 = some 1 := by kernel_rfl
@[go_sem] theorem ag_137 : isAggT Tryz.prog 137 = some false := by kernel_rfl
@[go_sem] theorem ze_137 : zeroL Tryz.prog 137 = some [.pointer none] := by kernel_rfl
@[go_sem] theorem isl_137 : isSliceT Tryz.prog 137 = false := by kernel_rfl
@[go_sem] theorem ist_137 : isStrT Tryz.prog 137 = false := by kernel_rfl
@[go_sem] theorem isp_137 : isPtrT Tryz.prog 137 = true := by kernel_rfl
@[go_sem] theorem isb_137 : isBoolT Tryz.prog 137 = false := by kernel_rfl
@[go_sem] theorem isi_137 : isIfaceT Tryz.prog 137 = false := by kernel_rfl
@[go_sem] theorem isn_137 : isIntT Tryz.prog 137 = none := by kernel_rfl
@[go_sem] theorem by_137 : bytesT Tryz.prog 137 = 8 := by kernel_rfl
@[go_sem] theorem sz_138 : szOf Tryz.prog 138 = some 1 := by kernel_rfl
@[go_sem] theorem ag_138 : isAggT Tryz.prog 138 = some false := by kernel_rfl
@[go_sem] theorem ze_138 : zeroL Tryz.prog 138 = some [.pointer none] := by kernel_rfl
@[go_sem] theorem isl_138 : isSliceT Tryz.prog 138 = false := by kernel_rfl
@[go_sem] theorem ist_138 : isStrT Tryz.prog 138 = false := by kernel_rfl
@[go_sem] theorem isp_138 : isPtrT Tryz.prog 138 = true := by kernel_rfl
@[go_sem] theorem isb_138 : isBoolT Tryz.prog 138 = false := by kernel_rfl
@[go_sem] theorem isi_138 : isIfaceT Tryz.prog 138 = false := by kernel_rfl
@[go_sem] theorem isn_138 : isIntT Tryz.prog 138 = none := by kernel_rfl
@[go_sem] theorem by_138 : bytesT Tryz.prog 138 = 8 := by kernel_rfl
@[go_sem] theorem sz_139 : szOf Tryz.prog 139 = some 1 := by kernel_rfl
@[go_sem] theorem ag_139 : isAggT Tryz.prog 139 = some true := by kernel_rfl
@[go_sem] theorem ze_139 : zeroL Tryz.prog 139 = some [.string ⟨#[]⟩] := by kernel_rfl
@[go_sem] theorem fo_139_0 : fOff Tryz.prog 139 0 = some 0 := by kernel_rfl
@[go_sem] theorem ft_139_0 : fTy Tryz.prog 139 0 = some (9, 0) := by kernel_rfl
@[go_sem] theorem pl_139 : places Tryz.prog 139 = some [(0, 1)] := by kernel_rfl
@[go_sem] theorem eqk_139 : eqKinds Tryz.prog 139 = some [.str] := by kernel_rfl
@[go_sem] theorem isl_139 : isSliceT Tryz.prog 139 = false := by kernel_rfl
@[go_sem] theorem ist_139 : isStrT Tryz.prog 139 = false := by kernel_rfl
@[go_sem] theorem isp_139 : isPtrT Tryz.prog 139 = false := by kernel_rfl
@[go_sem] theorem isb_139 : isBoolT Tryz.prog 139 = false := by kernel_rfl
@[go_sem] theorem isi_139 : isIfaceT Tryz.prog 139 = false := by kernel_rfl
@[go_sem] theorem isn_139 : isIntT Tryz.prog 139 = none := by kernel_rfl
@[go_sem] theorem by_139 : bytesT Tryz.prog 139 = 16 := by kernel_rfl
@[go_sem] theorem sz_140 : szOf Tryz.prog 140 = some 1 := by kernel_rfl
@[go_sem] theorem ag_140 : isAggT Tryz.prog 140 = some true := by kernel_rfl
@[go_sem] theorem ze_140 : zeroL Tryz.prog 140 = some [.string ⟨#[]⟩] := by kernel_rfl
@[go_sem] theorem fo_140_0 : fOff Tryz.prog 140 0 = some 0 := by kernel_rfl
@[go_sem] theorem ft_140_0 : fTy Tryz.prog 140 0 = some (9, 0) := by kernel_rfl
@[go_sem] theorem pl_140 : places Tryz.prog 140 = some [(0, 1)] := by kernel_rfl
@[go_sem] theorem eqk_140 : eqKinds Tryz.prog 140 = some [.str] := by kernel_rfl
@[go_sem] theorem isl_140 : isSliceT Tryz.prog 140 = false := by kernel_rfl
@[go_sem] theorem ist_140 : isStrT Tryz.prog 140 = false := by kernel_rfl
@[go_sem] theorem isp_140 : isPtrT Tryz.prog 140 = false := by kernel_rfl
@[go_sem] theorem isb_140 : isBoolT Tryz.prog 140 = false := by kernel_rfl
@[go_sem] theorem isi_140 : isIfaceT Tryz.prog 140 = false := by kernel_rfl
@[go_sem] theorem isn_140 : isIntT Tryz.prog 140 = none := by kernel_rfl
@[go_sem] theorem by_140 : bytesT Tryz.prog 140 = 16 := by kernel_rfl
@[go_sem] theorem sz_141 : szOf Tryz.prog 141 = some 1 := by kernel_rfl
@[go_sem] theorem ag_141 : isAggT Tryz.prog 141 = some false := by kernel_rfl
@[go_sem] theorem ze_141 : zeroL Tryz.prog 141 = some [.nilFunc] := by kernel_rfl
@[go_sem] theorem isl_141 : isSliceT Tryz.prog 141 = false := by kernel_rfl
@[go_sem] theorem ist_141 : isStrT Tryz.prog 141 = false := by kernel_rfl
@[go_sem] theorem isp_141 : isPtrT Tryz.prog 141 = false := by kernel_rfl
@[go_sem] theorem isb_141 : isBoolT Tryz.prog 141 = false := by kernel_rfl
@[go_sem] theorem isi_141 : isIfaceT Tryz.prog 141 = false := by kernel_rfl
@[go_sem] theorem isn_141 : isIntT Tryz.prog 141 = none := by kernel_rfl
@[go_sem] theorem by_141 : bytesT Tryz.prog 141 = 8 := by kernel_rfl
@[go_sem] theorem sz_142 : szOf Tryz.prog 142 = some 24 := by kernel_rfl
@[go_sem] theorem ag_142 : isAggT Tryz.prog 142 = some true := by kernel_rfl
@[go_sem] theorem ze_142 : zeroL Tryz.prog 142 = some [.int .u8 0, .int .u8 0, .int .u8 0, .int .u8 0, .int .u8 0, .int .u8 0, .int .u8 0, .int .u8 0, .int .u8 0, .int .u8 0, .int .u8 0, .int .u8 0, .int .u8 0, .int .u8 0, .int .u8 0, .int .u8 0, .int .u8 0, .int .u8 0, .int .u8 0, .int .u8 0, .int .u8 0, .int .u8 0, .int .u8 0, .int .u8 0] := by kernel_rfl
@[go_sem] theorem ar_142 : arrSz Tryz.prog 142 = some (24, 1) := by kernel_rfl
@[go_sem] theorem isl_142 : isSliceT Tryz.prog 142 = false := by kernel_rfl
@[go_sem] theorem ist_142 : isStrT Tryz.prog 142 = false := by kernel_rfl
@[go_sem] theorem isp_142 : isPtrT Tryz.prog 142 = false := by kernel_rfl
@[go_sem] theorem isb_142 : isBoolT Tryz.prog 142 = false := by kernel_rfl
@[go_sem] theorem isi_142 : isIfaceT Tryz.prog 142 = false := by kernel_rfl
@[go_sem] theorem isn_142 : isIntT Tryz.prog 142 = none := by kernel_rfl
@[go_sem] theorem by_142 : bytesT Tryz.prog 142 = 24 := by kernel_rfl
@[go_sem] theorem sz_143 : szOf Tryz.prog 143 = some 1 := by kernel_rfl
@[go_sem] theorem ag_143 : isAggT Tryz.prog 143 = some false := by kernel_rfl
@[go_sem] theorem ze_143 : zeroL Tryz.prog 143 = some [.nilFunc] := by kernel_rfl
@[go_sem] theorem isl_143 : isSliceT Tryz.prog 143 = false := by kernel_rfl
@[go_sem] theorem ist_143 : isStrT Tryz.prog 143 = false := by kernel_rfl
@[go_sem] theorem isp_143 : isPtrT Tryz.prog 143 = false := by kernel_rfl
@[go_sem] theorem isb_143 : isBoolT Tryz.prog 143 = false := by kernel_rfl
@[go_sem] theorem isi_143 : isIfaceT Tryz.prog 143 = false := by kernel_rfl
@[go_sem] theorem isn_143 : isIntT Tryz.prog 143 = none := by kernel_rfl
@[go_sem] theorem by_143 : bytesT Tryz.prog 143 = 8 := by kernel_rfl
@[go_sem] theorem sz_144 : szOf Tryz.prog 144 = some 1 := by kernel_rfl
@[go_sem] theorem ag_144 : isAggT Tryz.prog 144 = some false := by kernel_rfl
@[go_sem] theorem ze_144 : zeroL Tryz.prog 144 = some [.nilFunc] := by kernel_rfl
@[go_sem] theorem isl_144 : isSliceT Tryz.prog 144 = false := by kernel_rfl
@[go_sem] theorem ist_144 : isStrT Tryz.prog 144 = false := by kernel_rfl
@[go_sem] theorem isp_144 : isPtrT Tryz.prog 144 = false := by kernel_rfl
@[go_sem] theorem isb_144 : isBoolT Tryz.prog 144 = false := by kernel_rfl
@[go_sem] theorem isi_144 : isIfaceT Tryz.prog 144 = false := by kernel_rfl
@[go_sem] theorem isn_144 : isIntT Tryz.prog 144 = none := by kernel_rfl
@[go_sem] theorem by_144 : bytesT Tryz.prog 144 = 8 := by kernel_rfl
@[go_sem] theorem sz_146 : szOf Tryz.prog 146 = some 1 := by kernel_rfl
@[go_sem] theorem ag_146 : isAggT Tryz.prog 146 = some false := by kernel_rfl
@[go_sem] theorem ze_146 : zeroL Tryz.prog 146 = some [.nilFunc] := by kernel_rfl
@[go_sem] theorem isl_146 : isSliceT Tryz.prog 146 = false := by kernel_rfl
@[go_sem] theorem ist_146 : isStrT Tryz.prog 146 = false := by kernel_rfl
@[go_sem] theorem isp_146 : isPtrT Tryz.prog 146 = false := by kernel_rfl
@[go_sem] theorem isb_146 : isBoolT Tryz.prog 146 = false := by kernel_rfl
@[go_sem] theorem isi_146 : isIfaceT Tryz.prog 146 = false := by kernel_rfl
@[go_sem] theorem isn_146 : isIntT Tryz.prog 146 = none := by kernel_rfl
@[go_sem] theorem by_146 : bytesT Tryz.prog 146 = 8 := by kernel_rfl
@[go_sem] theorem sz_147 : szOf Tryz.prog 147 = some 1 := by kernel_rfl
@[go_sem] theorem ag_147 : isAggT Tryz.prog 147 = some false := by kernel_rfl
@[go_sem] theorem ze_147 : zeroL Tryz.prog 147 = some [.nilFunc] := by kernel_rfl
@[go_sem] theorem isl_147 : isSliceT Tryz.prog 147 = false := by kernel_rfl
@[go_sem] theorem ist_147 : isStrT Tryz.prog 147 = false := by kernel_rfl
@[go_sem] theorem isp_147 : isPtrT Tryz.prog 147 = false := by kernel_rfl
@[go_sem] theorem isb_147 : isBoolT Tryz.prog 147 = false := by kernel_rfl
@[go_sem] theorem isi_147 : isIfaceT Tryz.prog 147 = false := by kernel_rfl
@[go_sem] theorem isn_147 : isIntT Tryz.prog 147 = none := by kernel_rfl
@[go_sem] theorem by_147 : bytesT Tryz.prog 147 = 8 := by kernel_rfl
@[go_sem] theorem sz_148 : szOf Tryz.prog 148 = some 20 := by kernel_rfl
@[go_sem] theorem ag_148 : isAggT Tryz.prog 148 = some true := by kernel_rfl
@[go_sem] theorem ze_148 : zeroL Tryz.prog 148 = some [.int .u64 0, .int .u64 0, .int .u64 0, .int .u64 0, .int .u64 0, .int .u64 0, .int .u64 0, .int .u64 0, .int .u64 0, .int .u64 0, .int .u64 0, .int .u64 0, .int .u64 0, .int .u64 0, .int .u64 0, .int .u64 0, .int .u64 0, .int .u64 0, .int .u64 0, .int .u64 0] := by kernel_rfl
@[go_sem] theorem ar_148 : arrSz Tryz.prog 148 = some (20, 1) := by kernel_rfl
@[go_sem] theorem isl_148 : isSliceT Tryz.prog 148 = false := by kernel_rfl
@[go_sem] theorem ist_148 : isStrT Tryz.prog 148 = false := by kernel_rfl
@[go_sem] theorem isp_148 : isPtrT Tryz.prog 148 = false := by kernel_rfl
@[go_sem] theorem isb_148 : isBoolT Tryz.prog 148 = false := by kernel_rfl
@[go_sem] theorem isi_148 : isIfaceT Tryz.prog 148 = false := by kernel_rfl
@[go_sem] theorem isn_148 : isIntT Tryz.prog 148 = none := by kernel_rfl
@[go_sem] theorem by_148 : bytesT Tryz.prog 148 = 160 := by kernel_rfl
@[go_sem] theorem sz_149 : szOf Tryz.prog 149 = some 1 := by kernel_rfl
@[go_sem] theorem ag_149 : isAggT Tryz.prog 149 = some false := by kernel_rfl
@[go_sem] theorem ze_149 : zeroL Tryz.prog 149 = some [.int .u32 0] := by kernel_rfl
@[go_sem] theorem isl_149 : isSliceT Tryz.prog 149 = false := by kernel_rfl
@[go_sem] theorem ist_149 : isStrT Tryz.prog 149 = false := by kernel_rfl
@[go_sem] theorem isp_149 : isPtrT Tryz.prog 149 = false := by kernel_rfl
@[go_sem] theorem isb_149 : isBoolT Tryz.prog 149 = false := by kernel_rfl
@[go_sem] theorem isi_149 : isIfaceT Tryz.prog 149 = false := by kernel_rfl
@[go_sem] theorem isn_149 : isIntT Tryz.prog 149 = some .u32 := by kernel_rfl
@[go_sem] theorem by_149 : bytesT Tryz.prog 149 = 4 := by kernel_rfl
@[go_sem] theorem sz_150 : szOf Tryz.prog 150 = some 65 := by kernel_rfl
@[go_sem] theorem ag_150 : isAggT Tryz.prog 150 = some true := by kernel_rfl
@[go_sem] theorem ar_150 : arrSz Tryz.prog 150 = some (65, 1) := by kernel_rfl
@[go_sem] theorem isl_150 : isSliceT Tryz.prog 150 = false := by kernel_rfl
@[go_sem] theorem ist_150 : isStrT Tryz.prog 150 = false := by kernel_rfl
@[go_sem] theorem isp_150 : isPtrT Tryz.prog 150 = false := by kernel_rfl
@[go_sem] theorem isb_150 : isBoolT Tryz.prog 150 = false := by kernel_rfl
@[go_sem] theorem isi_150 : isIfaceT Tryz.prog 150 = false := by kernel_rfl
@[go_sem] theorem isn_150 : isIntT Tryz.prog 150 = none := by kernel_rfl
@[go_sem] theorem by_150 : bytesT Tryz.prog 150 = 65 := by kernel_rfl
@[go_sem] theorem sz_151 : szOf Tryz.prog 151 = some 1 := by kernel_rfl
@[go_sem] theorem ag_151 : isAggT Tryz.prog 151 = some false := by kernel_rfl
@[go_sem] theorem ze_151 : zeroL Tryz.prog 151 = some [.nilFunc] := by kernel_rfl
@[go_sem] theorem isl_151 : isSliceT Tryz.prog 151 = false := by kernel_rfl
@[go_sem] theorem ist_151 : isStrT Tryz.prog 151 = false := by kernel_rfl
@[go_sem] theorem isp_151 : isPtrT Tryz.prog 151 = false := by kernel_rfl
@[go_sem] theorem isb_151 : isBoolT Tryz.prog 151 = false := by kernel_rfl
@[go_sem] theorem isi_151 : isIfaceT Tryz.prog 151 = false := by kernel_rfl
@[go_sem] theorem isn_151 : isIntT Tryz.prog 151 = none := by kernel_rfl
@[go_sem] theorem by_151 : bytesT Tryz.prog 151 = 8 := by kernel_rfl
@[go_sem] theorem sz_152 : szOf Tryz.prog 152 = some 1 := by kernel_rfl
@[go_sem] theorem ag_152 : isAggT Tryz.prog 152 = some false := by kernel_rfl
@[go_sem] theorem ze_152 : zeroL Tryz.prog 152 = some [.nilFunc] := by kernel_rfl
@[go_sem] theorem isl_152 : isSliceT Tryz.prog 152 = false := by kernel_rfl
@[go_sem] theorem ist_152 : isStrT Tryz.prog 152 = false := by kernel_rfl
@[go_sem] theorem isp_152 : isPtrT Tryz.prog 152 = false := by kernel_rfl
@[go_sem] theorem isb_152 : isBoolT Tryz.prog 152 = false := by kernel_rfl
@[go_sem] theorem isi_152 : isIfaceT Tryz.prog 152 = false := by kernel_rfl
@[go_sem] theorem isn_152 : isIntT Tryz.prog 152 = none := by kernel_rfl
@[go_sem] theorem by_152 : bytesT Tryz.prog 152 = 8 := by kernel_rfl
@[go_sem] theorem sz_153 : szOf Tryz.prog 153 = some 32 := by kernel_rfl
@[go_sem] theorem ag_153 : isAggT Tryz.prog 153 = some true := by kernel_rfl
@[go_sem] theorem ze_153 : zeroL Tryz.prog 153 = some [.int .u8 0, .int .u8 0, .int .u8 0, .int .u8 0, .int .u8 0, .int .u8 0, .int .u8 0, .int .u8 0, .int .u8 0, .int .u8 0, .int .u8 0, .int .u8 0, .int .u8 0, .int .u8 0, .int .u8 0, .int .u8 0, .int .u8 0, .int .u8 0, .int .u8 0, .int .u8 0, .int .u8 0, .int .u8 0, .int .u8 0, .int .u8 0, .int .u8 0, .int .u8 0, .int .u8 0, .int .u8 0, .int .u8 0, .int .u8 0, .int .u8 0, .int .u8 0] := by kernel_rfl
@[go_sem] theorem ar_153 : arrSz Tryz.prog 153 = some (32, 1) := by kernel_rfl
@[go_sem] theorem isl_153 : isSliceT Tryz.prog 153 = false := by kernel_rfl
@[go_sem] theorem ist_153 : isStrT Tryz.prog 153 = false := by kernel_rfl
@[go_sem] theorem isp_153 : isPtrT Tryz.prog 153 = false := by kernel_rfl
@[go_sem] theorem isb_153 : isBoolT Tryz.prog 153 = false := by kernel_rfl
@[go_sem] theorem isi_153 : isIfaceT Tryz.prog 153 = false := by kernel_rfl
@[go_sem] theorem isn_153 : isIntT Tryz.prog 153 = none := by kernel_rfl
@[go_sem] theorem by_153 : bytesT Tryz.prog 153 = 32 := by kernel_rfl
@[go_sem] theorem sz_154 : szOf Tryz.prog 154 = some 64 := by kernel_rfl
@[go_sem] theorem ag_154 : isAggT Tryz.prog 154 = some true := by kernel_rfl
@[go_sem] theorem ar_154 : arrSz Tryz.prog 154 = some (64, 1) := by kernel_rfl
@[go_sem] theorem isl_154 : isSliceT Tryz.prog 154 = false := by kernel_rfl
@[go_sem] theorem ist_154 : isStrT Tryz.prog 154 = false := by kernel_rfl
@[go_sem] theorem isp_154 : isPtrT Tryz.prog 154 = false := by kernel_rfl
@[go_sem] theorem isb_154 : isBoolT Tryz.prog 154 = false := by kernel_rfl
@[go_sem] theorem isi_154 : isIfaceT Tryz.prog 154 = false := by kernel_rfl
@[go_sem] theorem isn_154 : isIntT Tryz.prog 154 = none := by kernel_rfl
@[go_sem] theorem by_154 : bytesT Tryz.prog 154 = 64 := by kernel_rfl
@[go_sem] theorem sz_155 : szOf Tryz.prog 155 = some 4 := by kernel_rfl
@[go_sem] theorem ag_155 : isAggT Tryz.prog 155 = some true := by kernel_rfl
@[go_sem] theorem ze_155 : zeroL Tryz.prog 155 = some [.pointer none, .pointer none, .pointer none, .string ⟨#[]⟩] := by kernel_rfl
@[go_sem] theorem fo_155_0 : fOff Tryz.prog 155 0 = some 0 := by kernel_rfl
@[go_sem] theorem ft_155_0 : fTy Tryz.prog 155 0 = some (17, 0) := by kernel_rfl
@[go_sem] theorem fo_155_1 : fOff Tryz.prog 155 1 = some 1 := by kernel_rfl
@[go_sem] theorem ft_155_1 : fTy Tryz.prog 155 1 = some (17, 1) := by kernel_rfl
@[go_sem] theorem fo_155_2 : fOff Tryz.prog 155 2 = some 2 := by kernel_rfl
@[go_sem] theorem ft_155_2 : fTy Tryz.prog 155 2 = some (17, 2) := by kernel_rfl
@[go_sem] theorem fo_155_3 : fOff Tryz.prog 155 3 = some 3 := by kernel_rfl
@[go_sem] theorem ft_155_3 : fTy Tryz.prog 155 3 = some (9, 3) := by kernel_rfl
@[go_sem] theorem pl_155 : places Tryz.prog 155 = some [(0, 1), (1, 1), (2, 1), (3, 1)] := by kernel_rfl
@[go_sem] theorem isl_155 : isSliceT Tryz.prog 155 = false := by kernel_rfl
@[go_sem] theorem ist_155 : isStrT Tryz.prog 155 = false := by kernel_rfl
@[go_sem] theorem isp_155 : isPtrT Tryz.prog 155 = false := by kernel_rfl
@[go_sem] theorem isb_155 : isBoolT Tryz.prog 155 = false := by kernel_rfl
@[go_sem] theorem isi_155 : isIfaceT Tryz.prog 155 = false := by kernel_rfl
@[go_sem] theorem isn_155 : isIntT Tryz.prog 155 = none := by kernel_rfl
@[go_sem] theorem by_155 : bytesT Tryz.prog 155 = 40 := by kernel_rfl
@[go_sem] theorem sz_156 : szOf Tryz.prog 156 = some 4 := by kernel_rfl
@[go_sem] theorem ag_156 : isAggT Tryz.prog 156 = some true := by kernel_rfl
@[go_sem] theorem ze_156 : zeroL Tryz.prog 156 = some [.pointer none, .pointer none, .pointer none, .string ⟨#[]⟩] := by kernel_rfl
@[go_sem] theorem fo_156_0 : fOff Tryz.prog 156 0 = some 0 := by kernel_rfl
@[go_sem] theorem ft_156_0 : fTy Tryz.prog 156 0 = some (17, 0) := by kernel_rfl
@[go_sem] theorem fo_156_1 : fOff Tryz.prog 156 1 = some 1 := by kernel_rfl
@[go_sem] theorem ft_156_1 : fTy Tryz.prog 156 1 = some (17, 1) := by kernel_rfl
@[go_sem] theorem fo_156_2 : fOff Tryz.prog 156 2 = some 2 := by kernel_rfl
@[go_sem] theorem ft_156_2 : fTy Tryz.prog 156 2 = some (17, 2) := by kernel_rfl
@[go_sem] theorem fo_156_3 : fOff Tryz.prog 156 3 = some 3 := by kernel_rfl
@[go_sem] theorem ft_156_3 : fTy Tryz.prog 156 3 = some (9, 3) := by kernel_rfl
@[go_sem] theorem pl_156 : places Tryz.prog 156 = some [(0, 1), (1, 1), (2, 1), (3, 1)] := by kernel_rfl
@[go_sem] theorem isl_156 : isSliceT Tryz.prog 156 = false := by kernel_rfl
@[go_sem] theorem ist_156 : isStrT Tryz.prog 156 = false := by kernel_rfl
@[go_sem] theorem isp_156 : isPtrT Tryz.prog 156 = false := by kernel_rfl
@[go_sem] theorem isb_156 : isBoolT Tryz.prog 156 = false := by kernel_rfl
@[go_sem] theorem isi_156 : isIfaceT Tryz.prog 156 = false := by kernel_rfl
@[go_sem] theorem isn_156 : isIntT Tryz.prog 156 = none := by kernel_rfl
@[go_sem] theorem by_156 : bytesT Tryz.prog 156 = 40 := by kernel_rfl
@[go_sem] theorem sz_157 : szOf Tryz.prog 157 = some 0 := by kernel_rfl
@[go_sem] theorem ag_157 : isAggT Tryz.prog 157 = some true := by kernel_rfl
@[go_sem] theorem ze_157 : zeroL Tryz.prog 157 = some [] := by kernel_rfl
@[go_sem] theorem ar_157 : arrSz Tryz.prog 157 = some (0, 1) := by kernel_rfl
@[go_sem] theorem isl_157 : isSliceT Tryz.prog 157 = false := by kernel_rfl
@[go_sem] theorem ist_157 : isStrT Tryz.prog 157 = false := by kernel_rfl
@[go_sem] theorem isp_157 : isPtrT Tryz.prog 157 = false := by kernel_rfl
@[go_sem] theorem isb_157 : isBoolT Tryz.prog 157 = false := by kernel_rfl
@[go_sem] theorem isi_157 : isIfaceT Tryz.prog 157 = false := by kernel_rfl
@[go_sem] theorem isn_157 : isIntT Tryz.prog 157 = none := by kernel_rfl
@[go_sem] theorem by_157 : bytesT Tryz.prog 157 = 0 := by kernel_rfl
@[go_sem] theorem sz_158 : szOf Tryz.prog 158 = some 0 := by kernel_rfl
@[go_sem] theorem ag_158 : isAggT Tryz.prog 158 = some true := by kernel_rfl
@[go_sem] theorem ze_158 : zeroL Tryz.prog 158 = some [] := by kernel_rfl
@[go_sem] theorem ft_158_0 : fTy Tryz.prog 158 0 = some (157, 0) := by kernel_rfl
@[go_sem] theorem pl_158 : places Tryz.prog 158 = some [(0, 0)] := by kernel_rfl
@[go_sem] theorem isl_158 : isSliceT Tryz.prog 158 = false := by kernel_rfl
@[go_sem] theorem ist_158 : isStrT Tryz.prog 158 = false := by kernel_rfl
@[go_sem] theorem isp_158 : isPtrT Tryz.prog 158 = false := by kernel_rfl
@[go_sem] theorem isb_158 : isBoolT Tryz.prog 158 = false := by kernel_rfl
@[go_sem] theorem isi_158 : isIfaceT Tryz.prog 158 = false := by kernel_rfl
@[go_sem] theorem isn_158 : isIntT Tryz.prog 158 = none := by kernel_rfl
@[go_sem] theorem by_158 : bytesT Tryz.prog 158 = 0 := by kernel_rfl
@[go_sem] theorem sz_159 : szOf Tryz.prog 159 = some 0 := by kernel_rfl
@[go_sem] theorem ag_159 : isAggT Tryz.prog 159 = some true := by kernel_rfl
@[go_sem] theorem ze_159 : zeroL Tryz.prog 159 = some [] := by kernel_rfl
@[go_sem] theorem ft_159_0 : fTy Tryz.prog 159 0 = some (157, 0) := by kernel_rfl
@[go_sem] theorem pl_159 : places Tryz.prog 159 = some [(0, 0)] := by kernel_rfl
@[go_sem] theorem isl_159 : isSliceT Tryz.prog 159 = false := by kernel_rfl
@[go_sem] theorem ist_159 : isStrT Tryz.prog 159 = false := by kernel_rfl
@[go_sem] theorem isp_159 : isPtrT Tryz.prog 159 = false := by kernel_rfl
@[go_sem] theorem isb_159 : isBoolT Tryz.prog 159 = false := by kernel_rfl
@[go_sem] theorem isi_159 : isIfaceT Tryz.prog 159 = false := by kernel_rfl
@[go_sem] theorem isn_159 : isIntT Tryz.prog 159 = none := by kernel_rfl
@[go_sem] theorem by_159 : bytesT Tryz.prog 159 = 0 := by kernel_rfl
@[go_sem] theorem sz_160 : szOf Tryz.prog 160 = some 1 := by kernel_rfl
@[go_sem] theorem ag_160 : isAggT Tryz.prog 160 = some false := by kernel_rfl
@[go_sem] theorem ze_160 : zeroL Tryz.prog 160 = some [.int .u8 0] := by kernel_rfl
@[go_sem] theorem isl_160 : isSliceT Tryz.prog 160 = false := by kernel_rfl
@[go_sem] theorem ist_160 : isStrT Tryz.prog 160 = false := by kernel_rfl
@[go_sem] theorem isp_160 : isPtrT Tryz.prog 160 = false := by kernel_rfl
@[go_sem] theorem isb_160 : isBoolT Tryz.prog 160 = false := by kernel_rfl
@[go_sem] theorem isi_160 : isIfaceT Tryz.prog 160 = false := by kernel_rfl
@[go_sem] theorem isn_160 : isIntT Tryz.prog 160 = some .u8 := by kernel_rfl
@[go_sem] theorem by_160 : bytesT Tryz.prog 160 = 1 := by kernel_rfl
@[go_sem] theorem sz_161 : szOf Tryz.prog 161 = some 1 := by kernel_rfl
@[go_sem] theorem ag_161 : isAggT Tryz.prog 161 = some false := by kernel_rfl
@[go_sem] theorem ze_161 : zeroL Tryz.prog 161 = some [.int .u8 0] := by kernel_rfl
@[go_sem] theorem isl_161 : isSliceT Tryz.prog 161 = false := by kernel_rfl
@[go_sem] theorem ist_161 : isStrT Tryz.prog 161 = false := by kernel_rfl
@[go_sem] theorem isp_161 : isPtrT Tryz.prog 161 = false := by kernel_rfl
@[go_sem] theorem isb_161 : isBoolT Tryz.prog 161 = false := by kernel_rfl
@[go_sem] theorem isi_161 : isIfaceT Tryz.prog 161 = false := by kernel_rfl
@[go_sem] theorem isn_161 : isIntT Tryz.prog 161 = some .u8 := by kernel_rfl
@[go_sem] theorem by_161 : bytesT Tryz.prog 161 = 1 := by kernel_rfl
@[go_sem] theorem sz_162 : szOf Tryz.prog 162 = some 1 := by kernel_rfl
@[go_sem] theorem ag_162 : isAggT Tryz.prog 162 = some false := by kernel_rfl
@[go_sem] theorem ze_162 : zeroL Tryz.prog 162 = some [.nilFunc] := by kernel_rfl
@[go_sem] theorem isl_162 : isSliceT Tryz.prog 162 = false := by kernel_rfl
@[go_sem] theorem ist_162 : isStrT Tryz.prog 162 = false := by kernel_rfl
@[go_sem] theorem isp_162 : isPtrT Tryz.prog 162 = false := by kernel_rfl
@[go_sem] theorem isb_162 : isBoolT Tryz.prog 162 = false := by kernel_rfl
@[go_sem] theorem isi_162 : isIfaceT Tryz.prog 162 = false := by kernel_rfl
@[go_sem] theorem isn_162 : isIntT Tryz.prog 162 = none := by kernel_rfl
@[go_sem] theorem by_162 : bytesT Tryz.prog 162 = 8 := by kernel_rfl
@[go_sem] theorem sz_163 : szOf Tryz.prog 163 = some 1 := by kernel_rfl
@[go_sem] theorem ag_163 : isAggT Tryz.prog 163 = some false := by kernel_rfl
@[go_sem] theorem ze_163 : zeroL Tryz.prog 163 = some [.int .i32 0] := by kernel_rfl
@[go_sem] theorem isl_163 : isSliceT Tryz.prog 163 = false := by kernel_rfl
@[go_sem] theorem ist_163 : isStrT Tryz.prog 163 = false := by kernel_rfl
@[go_sem] theorem isp_163 : isPtrT Tryz.prog 163 = false := by kernel_rfl
@[go_sem] theorem isb_163 : isBoolT Tryz.prog 163 = false := by kernel_rfl
@[go_sem] theorem isi_163 : isIfaceT Tryz.prog 163 = false := by kernel_rfl
@[go_sem] theorem isn_163 : isIntT Tryz.prog 163 = some .i32 := by kernel_rfl
@[go_sem] theorem by_163 : bytesT Tryz.prog 163 = 4 := by kernel_rfl
@[go_sem] theorem sz_164 : szOf Tryz.prog 164 = some 1 := by kernel_rfl
@[go_sem] theorem ag_164 : isAggT Tryz.prog 164 = some false := by kernel_rfl
@[go_sem] theorem ze_164 : zeroL Tryz.prog 164 = some [.int .i32 0] := by kernel_rfl
@[go_sem] theorem isl_164 : isSliceT Tryz.prog 164 = false := by kernel_rfl
@[go_sem] theorem ist_164 : isStrT Tryz.prog 164 = false := by kernel_rfl
@[go_sem] theorem isp_164 : isPtrT Tryz.prog 164 = false := by kernel_rfl
@[go_sem] theorem isb_164 : isBoolT Tryz.prog 164 = false := by kernel_rfl
@[go_sem] theorem isi_164 : isIfaceT Tryz.prog 164 = false := by kernel_rfl
@[go_sem] theorem isn_164 : isIntT Tryz.prog 164 = some .i32 := by kernel_rfl
@[go_sem] theorem by_164 : bytesT Tryz.prog 164 = 4 := by kernel_rfl
@[go_sem] theorem sz_165 : szOf Tryz.prog 165 = some 11 := by kernel_rfl
@[go_sem] theorem ag_165 : isAggT Tryz.prog 165 = some true := by kernel_rfl
@[go_sem] theorem ze_165 : zeroL Tryz.prog 165 = some [.int .u64 0, .int .u64 0, .int .u32 0, .int .u8 0, .int .u8 0, .int .u8 0, .int .u8 0, .nilFunc, .pointer none, .int .i32 0, .int .i32 0] := by kernel_rfl
@[go_sem] theorem fo_165_0 : fOff Tryz.prog 165 0 = some 0 := by kernel_rfl
@[go_sem] theorem ft_165_0 : fTy Tryz.prog 165 0 = some (12, 0) := by kernel_rfl
@[go_sem] theorem fo_165_1 : fOff Tryz.prog 165 1 = some 1 := by kernel_rfl
@[go_sem] theorem ft_165_1 : fTy Tryz.prog 165 1 = some (12, 1) := by kernel_rfl
@[go_sem] theorem fo_165_2 : fOff Tryz.prog 165 2 = some 2 := by kernel_rfl
@[go_sem] theorem ft_165_2 : fTy Tryz.prog 165 2 = some (149, 2) := by kernel_rfl
@[go_sem] theorem fo_165_3 : fOff Tryz.prog 165 3 = some 3 := by kernel_rfl
@[go_sem] theorem ft_165_3 : fTy Tryz.prog 165 3 = some (160, 3) := by kernel_rfl
@[go_sem] theorem fo_165_4 : fOff Tryz.prog 165 4 = some 4 := by kernel_rfl
@[go_sem] theorem ft_165_4 : fTy Tryz.prog 165 4 = some (5, 4) := by kernel_rfl
@[go_sem] theorem fo_165_5 : fOff Tryz.prog 165 5 = some 5 := by kernel_rfl
@[go_sem] theorem ft_165_5 : fTy Tryz.prog 165 5 = some (5, 5) := by kernel_rfl
@[go_sem] theorem fo_165_6 : fOff Tryz.prog 165 6 = some 6 := by kernel_rfl
@[go_sem] theorem ft_165_6 : fTy Tryz.prog 165 6 = some (161, 6) := by kernel_rfl
@[go_sem] theorem fo_165_7 : fOff Tryz.prog 165 7 = some 7 := by kernel_rfl
@[go_sem] theorem ft_165_7 : fTy Tryz.prog 165 7 = some (162, 7) := by kernel_rfl
@[go_sem] theorem fo_165_8 : fOff Tryz.prog 165 8 = some 8 := by kernel_rfl
@[go_sem] theorem ft_165_8 : fTy Tryz.prog 165 8 = some (137, 8) := by kernel_rfl
@[go_sem] theorem fo_165_9 : fOff Tryz.prog 165 9 = some 9 := by kernel_rfl
@[go_sem] theorem ft_165_9 : fTy Tryz.prog 165 9 = some (163, 9) := by kernel_rfl
@[go_sem] theorem fo_165_10 : fOff Tryz.prog 165 10 = some 10 := by kernel_rfl
@[go_sem] theorem ft_165_10 : fTy Tryz.prog 165 10 = some (164, 10) := by kernel_rfl
@[go_sem] theorem pl_165 : places Tryz.prog 165 = some [(0, 1), (1, 1), (2, 1), (3, 1), (4, 1), (5, 1), (6, 1), (7, 1), (8, 1), (9, 1), (10, 1)] := by kernel_rfl
@[go_sem] theorem isl_165 : isSliceT Tryz.prog 165 = false := by kernel_rfl
@[go_sem] theorem ist_165 : isStrT Tryz.prog 165 = false := by kernel_rfl
@[go_sem] theorem isp_165 : isPtrT Tryz.prog 165 = false := by kernel_rfl
@[go_sem] theorem isb_165 : isBoolT Tryz.prog 165 = false := by kernel_rfl
@[go_sem] theorem isi_165 : isIfaceT Tryz.prog 165 = false := by kernel_rfl
@[go_sem] theorem isn_165 : isIntT Tryz.prog 165 = none := by kernel_rfl
@[go_sem] theorem by_165 : bytesT Tryz.prog 165 = 48 := by kernel_rfl
@[go_sem] theorem sz_166 : szOf Tryz.prog 166 = some 11 := by kernel_rfl
@[go_sem] theorem ag_166 : isAggT Tryz.prog 166 = some true := by kernel_rfl
@[go_sem] theorem ze_166 : zeroL Tryz.prog 166 = some [.int .u64 0, .int .u64 0, .int .u32 0, .int .u8 0, .int .u8 0, .int .u8 0, .int .u8 0, .nilFunc, .pointer none, .int .i32 0, .int .i32 0] := by kernel_rfl
@[go_sem] theorem fo_166_0 : fOff Tryz.prog 166 0 = some 0 := by kernel_rfl
@[go_sem] theorem ft_166_0 : fTy Tryz.prog 166 0 = some (12, 0) := by kernel_rfl
@[go_sem] theorem fo_166_1 : fOff Tryz.prog 166 1 = some 1 := by kernel_rfl
@[go_sem] theorem ft_166_1 : fTy Tryz.prog 166 1 = some (12, 1) := by kernel_rfl
@[go_sem] theorem fo_166_2 : fOff Tryz.prog 166 2 = some 2 := by kernel_rfl
@[go_sem] theorem ft_166_2 : fTy Tryz.prog 166 2 = some (149, 2) := by kernel_rfl
@[go_sem] theorem fo_166_3 : fOff Tryz.prog 166 3 = some 3 := by kernel_rfl
@[go_sem] theorem ft_166_3 : fTy Tryz.prog 166 3 = some (160, 3) := by kernel_rfl
@[go_sem] theorem fo_166_4 : fOff Tryz.prog 166 4 = some 4 := by kernel_rfl
@[go_sem] theorem ft_166_4 : fTy Tryz.prog 166 4 = some (5, 4) := by kernel_rfl
@[go_sem] theorem fo_166_5 : fOff Tryz.prog 166 5 = some 5 := by kernel_rfl
@[go_sem] theorem ft_166_5 : fTy Tryz.prog 166 5 = some (5, 5) := by kernel_rfl
@[go_sem] theorem fo_166_6 : fOff Tryz.prog 166 6 = some 6 := by kernel_rfl
@[go_sem] theorem ft_166_6 : fTy Tryz.prog 166 6 = some (161, 6) := by kernel_rfl
@[go_sem] theorem fo_166_7 : fOff Tryz.prog 166 7 = some 7 := by kernel_rfl
@[go_sem] theorem ft_166_7 : fTy Tryz.prog 166 7 = some (162, 7) := by kernel_rfl
@[go_sem] theorem fo_166_8 : fOff Tryz.prog 166 8 = some 8 := by kernel_rfl
@[go_sem] theorem ft_166_8 : fTy Tryz.prog 166 8 = some (137, 8) := by kernel_rfl
@[go_sem] theorem fo_166_9 : fOff Tryz.prog 166 9 = some 9 := by kernel_rfl
@[go_sem] theorem ft_166_9 : fTy Tryz.prog 166 9 = some (163, 9) := by kernel_rfl
@[go_sem] theorem fo_166_10 : fOff Tryz.prog 166 10 = some 10 := by kernel_rfl
@[go_sem] theorem ft_166_10 : fTy Tryz.prog 166 10 = some (164, 10) := by kernel_rfl
@[go_sem] theorem pl_166 : places Tryz.prog 166 = some [(0, 1), (1, 1), (2, 1), (3, 1), (4, 1), (5, 1), (6, 1), (7, 1), (8, 1), (9, 1), (10, 1)] := by kernel_rfl
@[go_sem] theorem isl_166 : isSliceT Tryz.prog 166 = false := by kernel_rfl
@[go_sem] theorem ist_166 : isStrT Tryz.prog 166 = false := by kernel_rfl
@[go_sem] theorem isp_166 : isPtrT Tryz.prog 166 = false := by kernel_rfl
@[go_sem] theorem isb_166 : isBoolT Tryz.prog 166 = false := by kernel_rfl
@[go_sem] theorem isi_166 : isIfaceT Tryz.prog 166 = false := by kernel_rfl
@[go_sem] theorem isn_166 : isIntT Tryz.prog 166 = none := by kernel_rfl
@[go_sem] theorem by_166 : bytesT Tryz.prog 166 = 48 := by kernel_rfl
@[go_sem] theorem sz_167 : szOf Tryz.prog 167 = some 1 := by kernel_rfl
@[go_sem] theorem ag_167 : isAggT Tryz.prog 167 = some false := by kernel_rfl
@[go_sem] theorem isl_167 : isSliceT Tryz.prog 167 = false := by kernel_rfl
@[go_sem] theorem ist_167 : isStrT Tryz.prog 167 = false := by kernel_rfl
@[go_sem] theorem isp_167 : isPtrT Tryz.prog 167 = false := by kernel_rfl
@[go_sem] theorem isb_167 : isBoolT Tryz.prog 167 = false := by kernel_rfl
@[go_sem] theorem isi_167 : isIfaceT Tryz.prog 167 = false := by kernel_rfl
@[go_sem] theorem isn_167 : isIntT Tryz.prog 167 = none := by kernel_rfl
@[go_sem] theorem by_167 : bytesT Tryz.prog 167 = 8 := by kernel_rfl
@[go_sem] theorem cb_2 : callable Tryz.prog 2 = true := by kernel_rfl
@[go_sem] theorem cb_3 : callable Tryz.prog 3 = true := by kernel_rfl
@[go_sem] theorem cb_4 : callable Tryz.prog 4 = true := by kernel_rfl
@[go_sem] theorem cb_5 : callable Tryz.prog 5 = true := by kernel_rfl
@[go_sem] theorem cb_6 : callable Tryz.prog 6 = true := by kernel_rfl
@[go_sem] theorem cb_7 : callable Tryz.prog 7 = true := by kernel_rfl
@[go_sem] theorem cb_8 : callable Tryz.prog 8 = true := by kernel_rfl
@[go_sem] theorem cb_9 : callable Tryz.prog 9 = true := by kernel_rfl
@[go_sem] theorem cb_10 : callable Tryz.prog 10 = true := by kernel_rfl
@[go_sem] theorem cb_11 : callable Tryz.prog 11 = true := by kernel_rfl
@[go_sem] theorem cb_12 : callable Tryz.prog 12 = true := by kernel_rfl
@[go_sem] theorem cb_13 : callable Tryz.prog 13 = true := by kernel_rfl
@[go_sem] theorem cb_14 : callable Tryz.prog 14 = true := by kernel_rfl
@[go_sem] theorem cb_15 : callable Tryz.prog 15 = true := by kernel_rfl
@[go_sem] theorem cb_16 : callable Tryz.prog 16 = true := by kernel_rfl
@[go_sem] theorem cb_17 : callable Tryz.prog 17 = true := by kernel_rfl
@[go_sem] theorem cb_18 : callable Tryz.prog 18 = true := by kernel_rfl
@[go_sem] theorem cb_19 : callable Tryz.prog 19 = true := by kernel_rfl
@[go_sem] theorem cb_20 : callable Tryz.prog 20 = true := by kernel_rfl
@[go_sem] theorem cb_21 : callable Tryz.prog 21 = true := by kernel_rfl
@[go_sem] theorem cb_22 : callable Tryz.prog 22 = true := by kernel_rfl
@[go_sem] theorem cb_23 : callable Tryz.prog 23 = true := by kernel_rfl
@[go_sem] theorem cb_24 : callable Tryz.prog 24 = true := by kernel_rfl
@[go_sem] theorem cb_25 : callable Tryz.prog 25 = true := by kernel_rfl
@[go_sem] theorem cb_26 : callable Tryz.prog 26 = true := by kernel_rfl
@[go_sem] theorem cb_27 : callable Tryz.prog 27 = true := by kernel_rfl
@[go_sem] theorem cb_28 : callable Tryz.prog 28 = true := by kernel_rfl
@[go_sem] theorem cb_29 : callable Tryz.prog 29 = true := by kernel_rfl
@[go_sem] theorem cb_30 : callable Tryz.prog 30 = true := by kernel_rfl
@[go_sem] theorem cb_31 : callable Tryz.prog 31 = true := by kernel_rfl
@[go_sem] theorem cb_32 : callable Tryz.prog 32 = true := by kernel_rfl
@[go_sem] theorem cb_33 : callable Tryz.prog 33 = true := by kernel_rfl
@[go_sem] theorem cb_34 : callable Tryz.prog 34 = true := by kernel_rfl
@[go_sem] theorem cb_35 : callable Tryz.prog 35 = true := by kernel_rfl
@[go_sem] theorem cb_36 : callable Tryz.prog 36 = true := by kernel_rfl
@[go_sem] theorem cb_37 : callable Tryz.prog 37 = true := by kernel_rfl
@[go_sem] theorem cb_38 : callable Tryz.prog 38 = true := by kernel_rfl
@[go_sem] theorem cb_39 : callable Tryz.prog 39 = true := by kernel_rfl
@[go_sem] theorem cb_40 : callable Tryz.prog 40 = true := by kernel_rfl
@[go_sem] theorem cb_41 : callable Tryz.prog 41 = true := by kernel_rfl
@[go_sem] theorem cb_42 : callable Tryz.prog 42 = true := by kernel_rfl
@[go_sem] theorem cb_43 : callable Tryz.prog 43 = true := by kernel_rfl
@[go_sem] theorem cb_44 : callable Tryz.prog 44 = true := by kernel_rfl
@[go_sem] theorem cb_45 : callable Tryz.prog 45 = true := by kernel_rfl
@[go_sem] theorem cb_46 : callable Tryz.prog 46 = true := by kernel_rfl
@[go_sem] theorem cb_47 : callable Tryz.prog 47 = true := by kernel_rfl
@[go_sem] theorem cb_48 : callable Tryz.prog 48 = true := by kernel_rfl
@[go_sem] theorem cb_49 : callable Tryz.prog 49 = true := by kernel_rfl
@[go_sem] theorem cb_50 : callable Tryz.prog 50 = true := by kernel_rfl
@[go_sem] theorem cb_51 : callable Tryz.prog 51 = true := by kernel_rfl
@[go_sem] theorem cb_52 : callable Tryz.prog 52 = true := by kernel_rfl
@[go_sem] theorem cb_53 : callable Tryz.prog 53 = true := by kernel_rfl
@[go_sem] theorem cb_54 : callable Tryz.prog 54 = true := by kernel_rfl
@[go_sem] theorem cb_55 : callable Tryz.prog 55 = true := by kernel_rfl
@[go_sem] theorem cb_56 : callable Tryz.prog 56 = true := by kernel_rfl
@[go_sem] theorem cb_57 : callable Tryz.prog 57 = true := by kernel_rfl
@[go_sem] theorem cb_58 : callable Tryz.prog 58 = true := by kernel_rfl
@[go_sem] theorem cb_59 : callable Tryz.prog 59 = true := by kernel_rfl
@[go_sem] theorem cb_60 : callable Tryz.prog 60 = true := by kernel_rfl
@[go_sem] theorem cb_61 : callable Tryz.prog 61 = true := by kernel_rfl
@[go_sem] theorem cb_62 : callable Tryz.prog 62 = true := by kernel_rfl
@[go_sem] theorem cb_63 : callable Tryz.prog 63 = true := by kernel_rfl
@[go_sem] theorem cb_64 : callable Tryz.prog 64 = true := by kernel_rfl
@[go_sem] theorem cb_65 : callable Tryz.prog 65 = true := by kernel_rfl
@[go_sem] theorem cb_66 : callable Tryz.prog 66 = true := by kernel_rfl
@[go_sem] theorem cb_67 : callable Tryz.prog 67 = true := by kernel_rfl
@[go_sem] theorem cb_68 : callable Tryz.prog 68 = true := by kernel_rfl
@[go_sem] theorem cb_69 : callable Tryz.prog 69 = true := by kernel_rfl
@[go_sem] theorem cb_70 : callable Tryz.prog 70 = true := by kernel_rfl
@[go_sem] theorem cb_71 : callable Tryz.prog 71 = true := by kernel_rfl
@[go_sem] theorem cb_72 : callable Tryz.prog 72 = true := by kernel_rfl
@[go_sem] theorem cb_73 : callable Tryz.prog 73 = true := by kernel_rfl
@[go_sem] theorem cb_74 : callable Tryz.prog 74 = true := by kernel_rfl
@[go_sem] theorem cb_75 : callable Tryz.prog 75 = true := by kernel_rfl
@[go_sem] theorem cb_76 : callable Tryz.prog 76 = true := by kernel_rfl
@[go_sem] theorem cb_77 : callable Tryz.prog 77 = true := by kernel_rfl
@[go_sem] theorem cb_78 : callable Tryz.prog 78 = true := by kernel_rfl
@[go_sem] theorem cb_79 : callable Tryz.prog 79 = true := by kernel_rfl
@[go_sem] theorem cb_80 : callable Tryz.prog 80 = true := by kernel_rfl
@[go_sem] theorem cb_81 : callable Tryz.prog 81 = true := by kernel_rfl
@[go_sem] theorem cb_82 : callable Tryz.prog 82 = true := by kernel_rfl
@[go_sem] theorem cb_83 : callable Tryz.prog 83 = true := by kernel_rfl
@[go_sem] theorem cb_84 : callable Tryz.prog 84 = true := by kernel_rfl
@[go_sem] theorem cb_85 : callable Tryz.prog 85 = true := by kernel_rfl
@[go_sem] theorem cb_86 : callable Tryz.prog 86 = true := by kernel_rfl
@[go_sem] theorem cb_87 : callable Tryz.prog 87 = true := by kernel_rfl
@[go_sem] theorem cb_88 : callable Tryz.prog 88 = true := by kernel_rfl
@[go_sem] theorem cb_89 : callable Tryz.prog 89 = true := by kernel_rfl
@[go_sem] theorem cb_90 : callable Tryz.prog 90 = true := by kernel_rfl
@[go_sem] theorem cb_91 : callable Tryz.prog 91 = true := by kernel_rfl
@[go_sem] theorem cb_92 : callable Tryz.prog 92 = true := by kernel_rfl
@[go_sem] theorem cb_93 : callable Tryz.prog 93 = true := by kernel_rfl
@[go_sem] theorem cb_94 : callable Tryz.prog 94 = true := by kernel_rfl
@[go_sem] theorem cb_95 : callable Tryz.prog 95 = true := by kernel_rfl
@[go_sem] theorem cb_96 : callable Tryz.prog 96 = true := by kernel_rfl
@[go_sem] theorem cb_97 : callable Tryz.prog 97 = true := by kernel_rfl
@[go_sem] theorem cb_98 : callable Tryz.prog 98 = true := by kernel_rfl
@[go_sem] theorem cb_99 : callable Tryz.prog 99 = true := by kernel_rfl
@[go_sem] theorem cb_100 : callable Tryz.prog 100 = true := by kernel_rfl
@[go_sem] theorem cb_101 : callable Tryz.prog 101 = true := by kernel_rfl
@[go_sem] theorem cb_102 : callable Tryz.prog 102 = true := by kernel_rfl
@[go_sem] theorem cb_103 : callable Tryz.prog 103 = true := by kernel_rfl
@[go_sem] theorem cb_104 : callable Tryz.prog 104 = true := by kernel_rfl
@[go_sem] theorem cb_105 : callable Tryz.prog 105 = true := by kernel_rfl
@[go_sem] theorem cb_106 : callable Tryz.prog 106 = true := by kernel_rfl
@[go_sem] theorem cb_107 : callable Tryz.prog 107 = true := by kernel_rfl
@[go_sem] theorem cb_108 : callable Tryz.prog 108 = true := by kernel_rfl
@[go_sem] theorem cb_109 : callable Tryz.prog 109 = true := by kernel_rfl
@[go_sem] theorem cb_110 : callable Tryz.prog 110 = true := by kernel_rfl
@[go_sem] theorem cb_111 : callable Tryz.prog 111 = true := by kernel_rfl
@[go_sem] theorem cb_112 : callable Tryz.prog 112 = true := by kernel_rfl
@[go_sem] theorem cb_113 : callable Tryz.prog 113 = true := by kernel_rfl
@[go_sem] theorem cb_114 : callable Tryz.prog 114 = true := by kernel_rfl
@[go_sem] theorem cb_115 : callable Tryz.prog 115 = true := by kernel_rfl
@[go_sem] theorem cb_116 : callable Tryz.prog 116 = true := by kernel_rfl
@[go_sem] theorem cb_117 : callable Tryz.prog 117 = true := by kernel_rfl
@[go_sem] theorem cb_118 : callable Tryz.prog 118 = true := by kernel_rfl
@[go_sem] theorem cb_119 : callable Tryz.prog 119 = true := by kernel_rfl
@[go_sem] theorem cb_120 : callable Tryz.prog 120 = true := by kernel_rfl
@[go_sem] theorem cb_121 : callable Tryz.prog 121 = true := by kernel_rfl
@[go_sem] theorem cb_122 : callable Tryz.prog 122 = true := by kernel_rfl
@[go_sem] theorem cb_123 : callable Tryz.prog 123 = true := by kernel_rfl
@[go_sem] theorem cb_124 : callable Tryz.prog 124 = true := by kernel_rfl
@[go_sem] theorem cb_125 : callable Tryz.prog 125 = true := by kernel_rfl
@[go_sem] theorem cb_126 : callable Tryz.prog 126 = true := by kernel_rfl
@[go_sem] theorem cb_127 : callable Tryz.prog 127 = true := by kernel_rfl
@[go_sem] theorem cb_154 : callable Tryz.prog 154 = true := by kernel_rfl
theorem mixed : Tryz.prog.follows .mixedOrders = true := by kernel_rfl
end Go.Proofs.YtbpmikjlfgfbmaaGreatDoor
