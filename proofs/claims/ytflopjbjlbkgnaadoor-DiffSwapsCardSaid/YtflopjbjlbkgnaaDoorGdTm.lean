/- The facts on the types and functions of the translation, as the kernel reckons them. The facts on the map types of the translation, as the kernel reckons them. No conditions. -/
import Derived.Test.YtflopjbjlbkgnaaDoorGdJ
import Derived.Test.YtflopjbjlbkgnaaDoorProg
import Derived.KernelRfl
import Derived.Test.YtflopjbjlbkgnaaDoorGdQ
set_option linter.all false
namespace Go.Proofs.YtflopjbjlbkgnaaDoor
open Go Go.Gd
@[go_sem] theorem sz_1 : szOf Tryd.prog 1 = some 1 := by kernel_rfl
@[go_sem] theorem ag_1 : isAggT Tryd.prog 1 = some false := by kernel_rfl
@[go_sem] theorem ze_1 : zeroL Tryd.prog 1 = some [.nilFunc] := by kernel_rfl
@[go_sem] theorem isl_1 : isSliceT Tryd.prog 1 = false := by kernel_rfl
@[go_sem] theorem ist_1 : isStrT Tryd.prog 1 = false := by kernel_rfl
@[go_sem] theorem isp_1 : isPtrT Tryd.prog 1 = false := by kernel_rfl
@[go_sem] theorem isb_1 : isBoolT Tryd.prog 1 = false := by kernel_rfl
@[go_sem] theorem isi_1 : isIfaceT Tryd.prog 1 = false := by kernel_rfl
@[go_sem] theorem isn_1 : isIntT Tryd.prog 1 = none := by kernel_rfl
@[go_sem] theorem by_1 : bytesT Tryd.prog 1 = 8 := by kernel_rfl
@[go_sem] theorem sz_2 : szOf Tryd.prog 2 = some 1 := by kernel_rfl
@[go_sem] theorem ag_2 : isAggT Tryd.prog 2 = some false := by kernel_rfl
@[go_sem] theorem ze_2 : zeroL Tryd.prog 2 = some [.int .i64 0] := by kernel_rfl
@[go_sem] theorem isl_2 : isSliceT Tryd.prog 2 = false := by kernel_rfl
@[go_sem] theorem ist_2 : isStrT Tryd.prog 2 = false := by kernel_rfl
@[go_sem] theorem isp_2 : isPtrT Tryd.prog 2 = false := by kernel_rfl
@[go_sem] theorem isb_2 : isBoolT Tryd.prog 2 = false := by kernel_rfl
@[go_sem] theorem isi_2 : isIfaceT Tryd.prog 2 = false := by kernel_rfl
@[go_sem] theorem isn_2 : isIntT Tryd.prog 2 = some .i64 := by kernel_rfl
@[go_sem] theorem by_2 : bytesT Tryd.prog 2 = 8 := by kernel_rfl
@[go_sem] theorem sz_3 : szOf Tryd.prog 3 = some 1 := by kernel_rfl
@[go_sem] theorem ag_3 : isAggT Tryd.prog 3 = some false := by kernel_rfl
@[go_sem] theorem ze_3 : zeroL Tryd.prog 3 = some [.int .i64 0] := by kernel_rfl
@[go_sem] theorem isl_3 : isSliceT Tryd.prog 3 = false := by kernel_rfl
@[go_sem] theorem ist_3 : isStrT Tryd.prog 3 = false := by kernel_rfl
@[go_sem] theorem isp_3 : isPtrT Tryd.prog 3 = false := by kernel_rfl
@[go_sem] theorem isb_3 : isBoolT Tryd.prog 3 = false := by kernel_rfl
@[go_sem] theorem isi_3 : isIfaceT Tryd.prog 3 = false := by kernel_rfl
@[go_sem] theorem isn_3 : isIntT Tryd.prog 3 = some .i64 := by kernel_rfl
@[go_sem] theorem by_3 : bytesT Tryd.prog 3 = 8 := by kernel_rfl
@[go_sem] theorem sz_4 : szOf Tryd.prog 4 = some 1 := by kernel_rfl
@[go_sem] theorem ag_4 : isAggT Tryd.prog 4 = some false := by kernel_rfl
@[go_sem] theorem ze_4 : zeroL Tryd.prog 4 = some [.bool false] := by kernel_rfl
@[go_sem] theorem isl_4 : isSliceT Tryd.prog 4 = false := by kernel_rfl
@[go_sem] theorem ist_4 : isStrT Tryd.prog 4 = false := by kernel_rfl
@[go_sem] theorem isp_4 : isPtrT Tryd.prog 4 = false := by kernel_rfl
@[go_sem] theorem isb_4 : isBoolT Tryd.prog 4 = true := by kernel_rfl
@[go_sem] theorem isi_4 : isIfaceT Tryd.prog 4 = false := by kernel_rfl
@[go_sem] theorem isn_4 : isIntT Tryd.prog 4 = none := by kernel_rfl
@[go_sem] theorem by_4 : bytesT Tryd.prog 4 = 1 := by kernel_rfl
@[go_sem] theorem sz_5 : szOf Tryd.prog 5 = some 1 := by kernel_rfl
@[go_sem] theorem ag_5 : isAggT Tryd.prog 5 = some false := by kernel_rfl
@[go_sem] theorem ze_5 : zeroL Tryd.prog 5 = some [.int .u8 0] := by kernel_rfl
@[go_sem] theorem isl_5 : isSliceT Tryd.prog 5 = false := by kernel_rfl
@[go_sem] theorem ist_5 : isStrT Tryd.prog 5 = false := by kernel_rfl
@[go_sem] theorem isp_5 : isPtrT Tryd.prog 5 = false := by kernel_rfl
@[go_sem] theorem isb_5 : isBoolT Tryd.prog 5 = false := by kernel_rfl
@[go_sem] theorem isi_5 : isIfaceT Tryd.prog 5 = false := by kernel_rfl
@[go_sem] theorem isn_5 : isIntT Tryd.prog 5 = some .u8 := by kernel_rfl
@[go_sem] theorem by_5 : bytesT Tryd.prog 5 = 1 := by kernel_rfl
@[go_sem] theorem sz_6 : szOf Tryd.prog 6 = some 1 := by kernel_rfl
@[go_sem] theorem ag_6 : isAggT Tryd.prog 6 = some false := by kernel_rfl
@[go_sem] theorem ze_6 : zeroL Tryd.prog 6 = some [.int .u8 0] := by kernel_rfl
@[go_sem] theorem isl_6 : isSliceT Tryd.prog 6 = false := by kernel_rfl
@[go_sem] theorem ist_6 : isStrT Tryd.prog 6 = false := by kernel_rfl
@[go_sem] theorem isp_6 : isPtrT Tryd.prog 6 = false := by kernel_rfl
@[go_sem] theorem isb_6 : isBoolT Tryd.prog 6 = false := by kernel_rfl
@[go_sem] theorem isi_6 : isIfaceT Tryd.prog 6 = false := by kernel_rfl
@[go_sem] theorem isn_6 : isIntT Tryd.prog 6 = some .u8 := by kernel_rfl
@[go_sem] theorem by_6 : bytesT Tryd.prog 6 = 1 := by kernel_rfl
@[go_sem] theorem sz_7 : szOf Tryd.prog 7 = some 4 := by kernel_rfl
@[go_sem] theorem ag_7 : isAggT Tryd.prog 7 = some true := by kernel_rfl
@[go_sem] theorem ze_7 : zeroL Tryd.prog 7 = some [.int .i64 0, .int .i64 0, .bool false, .int .u8 0] := by kernel_rfl
@[go_sem] theorem fo_7_0 : fOff Tryd.prog 7 0 = some 0 := by kernel_rfl
@[go_sem] theorem ft_7_0 : fTy Tryd.prog 7 0 = some (2, 0) := by kernel_rfl
@[go_sem] theorem fo_7_1 : fOff Tryd.prog 7 1 = some 1 := by kernel_rfl
@[go_sem] theorem ft_7_1 : fTy Tryd.prog 7 1 = some (3, 1) := by kernel_rfl
@[go_sem] theorem fo_7_2 : fOff Tryd.prog 7 2 = some 2 := by kernel_rfl
@[go_sem] theorem ft_7_2 : fTy Tryd.prog 7 2 = some (4, 2) := by kernel_rfl
@[go_sem] theorem fo_7_3 : fOff Tryd.prog 7 3 = some 3 := by kernel_rfl
@[go_sem] theorem ft_7_3 : fTy Tryd.prog 7 3 = some (6, 3) := by kernel_rfl
@[go_sem] theorem pl_7 : places Tryd.prog 7 = some [(0, 1), (1, 1), (2, 1), (3, 1)] := by kernel_rfl
@[go_sem] theorem eqk_7 : eqKinds Tryd.prog 7 = some [.int .i64, .int .i64, .bool, .int .u8] := by kernel_rfl
@[go_sem] theorem isl_7 : isSliceT Tryd.prog 7 = false := by kernel_rfl
@[go_sem] theorem ist_7 : isStrT Tryd.prog 7 = false := by kernel_rfl
@[go_sem] theorem isp_7 : isPtrT Tryd.prog 7 = false := by kernel_rfl
@[go_sem] theorem isb_7 : isBoolT Tryd.prog 7 = false := by kernel_rfl
@[go_sem] theorem isi_7 : isIfaceT Tryd.prog 7 = false := by kernel_rfl
@[go_sem] theorem isn_7 : isIntT Tryd.prog 7 = none := by kernel_rfl
@[go_sem] theorem by_7 : bytesT Tryd.prog 7 = 24 := by kernel_rfl
@[go_sem] theorem sz_8 : szOf Tryd.prog 8 = some 4 := by kernel_rfl
@[go_sem] theorem ag_8 : isAggT Tryd.prog 8 = some true := by kernel_rfl
@[go_sem] theorem ze_8 : zeroL Tryd.prog 8 = some [.int .i64 0, .int .i64 0, .bool false, .int .u8 0] := by kernel_rfl
@[go_sem] theorem fo_8_0 : fOff Tryd.prog 8 0 = some 0 := by kernel_rfl
@[go_sem] theorem ft_8_0 : fTy Tryd.prog 8 0 = some (2, 0) := by kernel_rfl
@[go_sem] theorem fo_8_1 : fOff Tryd.prog 8 1 = some 1 := by kernel_rfl
@[go_sem] theorem ft_8_1 : fTy Tryd.prog 8 1 = some (3, 1) := by kernel_rfl
@[go_sem] theorem fo_8_2 : fOff Tryd.prog 8 2 = some 2 := by kernel_rfl
@[go_sem] theorem ft_8_2 : fTy Tryd.prog 8 2 = some (4, 2) := by kernel_rfl
@[go_sem] theorem fo_8_3 : fOff Tryd.prog 8 3 = some 3 := by kernel_rfl
@[go_sem] theorem ft_8_3 : fTy Tryd.prog 8 3 = some (6, 3) := by kernel_rfl
@[go_sem] theorem pl_8 : places Tryd.prog 8 = some [(0, 1), (1, 1), (2, 1), (3, 1)] := by kernel_rfl
@[go_sem] theorem isl_8 : isSliceT Tryd.prog 8 = false := by kernel_rfl
@[go_sem] theorem ist_8 : isStrT Tryd.prog 8 = false := by kernel_rfl
@[go_sem] theorem isp_8 : isPtrT Tryd.prog 8 = false := by kernel_rfl
@[go_sem] theorem isb_8 : isBoolT Tryd.prog 8 = false := by kernel_rfl
@[go_sem] theorem isi_8 : isIfaceT Tryd.prog 8 = false := by kernel_rfl
@[go_sem] theorem isn_8 : isIntT Tryd.prog 8 = none := by kernel_rfl
@[go_sem] theorem by_8 : bytesT Tryd.prog 8 = 24 := by kernel_rfl
@[go_sem] theorem sz_9 : szOf Tryd.prog 9 = some 1 := by kernel_rfl
@[go_sem] theorem ag_9 : isAggT Tryd.prog 9 = some false := by kernel_rfl
@[go_sem] theorem ze_9 : zeroL Tryd.prog 9 = some [.string ⟨#[]⟩] := by kernel_rfl
@[go_sem] theorem isl_9 : isSliceT Tryd.prog 9 = false := by kernel_rfl
@[go_sem] theorem ist_9 : isStrT Tryd.prog 9 = true := by kernel_rfl
@[go_sem] theorem isp_9 : isPtrT Tryd.prog 9 = false := by kernel_rfl
@[go_sem] theorem isb_9 : isBoolT Tryd.prog 9 = false := by kernel_rfl
@[go_sem] theorem isi_9 : isIfaceT Tryd.prog 9 = false := by kernel_rfl
@[go_sem] theorem isn_9 : isIntT Tryd.prog 9 = none := by kernel_rfl
@[go_sem] theorem by_9 : bytesT Tryd.prog 9 = 16 := by kernel_rfl
@[go_sem] theorem sz_10 : szOf Tryd.prog 10 = some 1 := by kernel_rfl
@[go_sem] theorem ag_10 : isAggT Tryd.prog 10 = some false := by kernel_rfl
@[go_sem] theorem ze_10 : zeroL Tryd.prog 10 = some [.string ⟨#[]⟩] := by kernel_rfl
@[go_sem] theorem isl_10 : isSliceT Tryd.prog 10 = false := by kernel_rfl
@[go_sem] theorem ist_10 : isStrT Tryd.prog 10 = true := by kernel_rfl
@[go_sem] theorem isp_10 : isPtrT Tryd.prog 10 = false := by kernel_rfl
@[go_sem] theorem isb_10 : isBoolT Tryd.prog 10 = false := by kernel_rfl
@[go_sem] theorem isi_10 : isIfaceT Tryd.prog 10 = false := by kernel_rfl
@[go_sem] theorem isn_10 : isIntT Tryd.prog 10 = none := by kernel_rfl
@[go_sem] theorem by_10 : bytesT Tryd.prog 10 = 16 := by kernel_rfl
@[go_sem] theorem sz_11 : szOf Tryd.prog 11 = some 1 := by kernel_rfl
@[go_sem] theorem ag_11 : isAggT Tryd.prog 11 = some false := by kernel_rfl
@[go_sem] theorem ze_11 : zeroL Tryd.prog 11 = some [.string ⟨#[]⟩] := by kernel_rfl
@[go_sem] theorem isl_11 : isSliceT Tryd.prog 11 = false := by kernel_rfl
@[go_sem] theorem ist_11 : isStrT Tryd.prog 11 = true := by kernel_rfl
@[go_sem] theorem isp_11 : isPtrT Tryd.prog 11 = false := by kernel_rfl
@[go_sem] theorem isb_11 : isBoolT Tryd.prog 11 = false := by kernel_rfl
@[go_sem] theorem isi_11 : isIfaceT Tryd.prog 11 = false := by kernel_rfl
@[go_sem] theorem isn_11 : isIntT Tryd.prog 11 = none := by kernel_rfl
@[go_sem] theorem by_11 : bytesT Tryd.prog 11 = 16 := by kernel_rfl
@[go_sem] theorem sz_12 : szOf Tryd.prog 12 = some 1 := by kernel_rfl
@[go_sem] theorem ag_12 : isAggT Tryd.prog 12 = some false := by kernel_rfl
@[go_sem] theorem ze_12 : zeroL Tryd.prog 12 = some [.int .u64 0] := by kernel_rfl
@[go_sem] theorem isl_12 : isSliceT Tryd.prog 12 = false := by kernel_rfl
@[go_sem] theorem ist_12 : isStrT Tryd.prog 12 = false := by kernel_rfl
@[go_sem] theorem isp_12 : isPtrT Tryd.prog 12 = false := by kernel_rfl
@[go_sem] theorem isb_12 : isBoolT Tryd.prog 12 = false := by kernel_rfl
@[go_sem] theorem isi_12 : isIfaceT Tryd.prog 12 = false := by kernel_rfl
@[go_sem] theorem isn_12 : isIntT Tryd.prog 12 = some .u64 := by kernel_rfl
@[go_sem] theorem by_12 : bytesT Tryd.prog 12 = 8 := by kernel_rfl
@[go_sem] theorem sz_13 : szOf Tryd.prog 13 = some 2 := by kernel_rfl
@[go_sem] theorem ag_13 : isAggT Tryd.prog 13 = some true := by kernel_rfl
@[go_sem] theorem ze_13 : zeroL Tryd.prog 13 = some [.string ⟨#[]⟩, .int .u64 0] := by kernel_rfl
@[go_sem] theorem fo_13_0 : fOff Tryd.prog 13 0 = some 0 := by kernel_rfl
@[go_sem] theorem ft_13_0 : fTy Tryd.prog 13 0 = some (9, 0) := by kernel_rfl
@[go_sem] theorem fo_13_1 : fOff Tryd.prog 13 1 = some 1 := by kernel_rfl
@[go_sem] theorem ft_13_1 : fTy Tryd.prog 13 1 = some (12, 1) := by kernel_rfl
@[go_sem] theorem pl_13 : places Tryd.prog 13 = some [(0, 1), (1, 1)] := by kernel_rfl
@[go_sem] theorem isl_13 : isSliceT Tryd.prog 13 = false := by kernel_rfl
@[go_sem] theorem ist_13 : isStrT Tryd.prog 13 = false := by kernel_rfl
@[go_sem] theorem isp_13 : isPtrT Tryd.prog 13 = false := by kernel_rfl
@[go_sem] theorem isb_13 : isBoolT Tryd.prog 13 = false := by kernel_rfl
@[go_sem] theorem isi_13 : isIfaceT Tryd.prog 13 = false := by kernel_rfl
@[go_sem] theorem isn_13 : isIntT Tryd.prog 13 = none := by kernel_rfl
@[go_sem] theorem by_13 : bytesT Tryd.prog 13 = 24 := by kernel_rfl
@[go_sem] theorem sz_14 : szOf Tryd.prog 14 = some 2 := by kernel_rfl
@[go_sem] theorem ag_14 : isAggT Tryd.prog 14 = some true := by kernel_rfl
@[go_sem] theorem ze_14 : zeroL Tryd.prog 14 = some [.string ⟨#[]⟩, .int .u64 0] := by kernel_rfl
@[go_sem] theorem fo_14_0 : fOff Tryd.prog 14 0 = some 0 := by kernel_rfl
@[go_sem] theorem ft_14_0 : fTy Tryd.prog 14 0 = some (9, 0) := by kernel_rfl
@[go_sem] theorem fo_14_1 : fOff Tryd.prog 14 1 = some 1 := by kernel_rfl
@[go_sem] theorem ft_14_1 : fTy Tryd.prog 14 1 = some (12, 1) := by kernel_rfl
@[go_sem] theorem pl_14 : places Tryd.prog 14 = some [(0, 1), (1, 1)] := by kernel_rfl
@[go_sem] theorem isl_14 : isSliceT Tryd.prog 14 = false := by kernel_rfl
@[go_sem] theorem ist_14 : isStrT Tryd.prog 14 = false := by kernel_rfl
@[go_sem] theorem isp_14 : isPtrT Tryd.prog 14 = false := by kernel_rfl
@[go_sem] theorem isb_14 : isBoolT Tryd.prog 14 = false := by kernel_rfl
@[go_sem] theorem isi_14 : isIfaceT Tryd.prog 14 = false := by kernel_rfl
@[go_sem] theorem isn_14 : isIntT Tryd.prog 14 = none := by kernel_rfl
@[go_sem] theorem by_14 : bytesT Tryd.prog 14 = 24 := by kernel_rfl
@[go_sem] theorem sz_15 : szOf Tryd.prog 15 = some 1 := by kernel_rfl
@[go_sem] theorem ag_15 : isAggT Tryd.prog 15 = some false := by kernel_rfl
@[go_sem] theorem ze_15 : zeroL Tryd.prog 15 = some [.pointer none] := by kernel_rfl
@[go_sem] theorem isl_15 : isSliceT Tryd.prog 15 = false := by kernel_rfl
@[go_sem] theorem ist_15 : isStrT Tryd.prog 15 = false := by kernel_rfl
@[go_sem] theorem isp_15 : isPtrT Tryd.prog 15 = true := by kernel_rfl
@[go_sem] theorem isb_15 : isBoolT Tryd.prog 15 = false := by kernel_rfl
@[go_sem] theorem isi_15 : isIfaceT Tryd.prog 15 = false := by kernel_rfl
@[go_sem] theorem isn_15 : isIntT Tryd.prog 15 = none := by kernel_rfl
@[go_sem] theorem by_15 : bytesT Tryd.prog 15 = 8 := by kernel_rfl
@[go_sem] theorem sz_16 : szOf Tryd.prog 16 = some 1 := by kernel_rfl
@[go_sem] theorem ag_16 : isAggT Tryd.prog 16 = some false := by kernel_rfl
@[go_sem] theorem ze_16 : zeroL Tryd.prog 16 = some [.pointer none] := by kernel_rfl
@[go_sem] theorem isl_16 : isSliceT Tryd.prog 16 = false := by kernel_rfl
@[go_sem] theorem ist_16 : isStrT Tryd.prog 16 = false := by kernel_rfl
@[go_sem] theorem isp_16 : isPtrT Tryd.prog 16 = true := by kernel_rfl
@[go_sem] theorem isb_16 : isBoolT Tryd.prog 16 = false := by kernel_rfl
@[go_sem] theorem isi_16 : isIfaceT Tryd.prog 16 = false := by kernel_rfl
@[go_sem] theorem isn_16 : isIntT Tryd.prog 16 = none := by kernel_rfl
@[go_sem] theorem by_16 : bytesT Tryd.prog 16 = 8 := by kernel_rfl
@[go_sem] theorem sz_17 : szOf Tryd.prog 17 = some 1 := by kernel_rfl
@[go_sem] theorem ag_17 : isAggT Tryd.prog 17 = some false := by kernel_rfl
@[go_sem] theorem ze_17 : zeroL Tryd.prog 17 = some [.pointer none] := by kernel_rfl
@[go_sem] theorem isl_17 : isSliceT Tryd.prog 17 = false := by kernel_rfl
@[go_sem] theorem ist_17 : isStrT Tryd.prog 17 = false := by kernel_rfl
@[go_sem] theorem isp_17 : isPtrT Tryd.prog 17 = true := by kernel_rfl
@[go_sem] theorem isb_17 : isBoolT Tryd.prog 17 = false := by kernel_rfl
@[go_sem] theorem isi_17 : isIfaceT Tryd.prog 17 = false := by kernel_rfl
@[go_sem] theorem isn_17 : isIntT Tryd.prog 17 = none := by kernel_rfl
@[go_sem] theorem by_17 : bytesT Tryd.prog 17 = 8 := by kernel_rfl
@[go_sem] theorem sz_18 : szOf Tryd.prog 18 = some 1 := by kernel_rfl
@[go_sem] theorem ag_18 : isAggT Tryd.prog 18 = some true := by kernel_rfl
@[go_sem] theorem ze_18 : zeroL Tryd.prog 18 = some [.pointer none] := by kernel_rfl
@[go_sem] theorem fo_18_0 : fOff Tryd.prog 18 0 = some 0 := by kernel_rfl
@[go_sem] theorem ft_18_0 : fTy Tryd.prog 18 0 = some (17, 0) := by kernel_rfl
@[go_sem] theorem pl_18 : places Tryd.prog 18 = some [(0, 1)] := by kernel_rfl
@[go_sem] theorem isl_18 : isSliceT Tryd.prog 18 = false := by kernel_rfl
@[go_sem] theorem ist_18 : isStrT Tryd.prog 18 = false := by kernel_rfl
@[go_sem] theorem isp_18 : isPtrT Tryd.prog 18 = false := by kernel_rfl
@[go_sem] theorem isb_18 : isBoolT Tryd.prog 18 = false := by kernel_rfl
@[go_sem] theorem isi_18 : isIfaceT Tryd.prog 18 = false := by kernel_rfl
@[go_sem] theorem isn_18 : isIntT Tryd.prog 18 = none := by kernel_rfl
@[go_sem] theorem by_18 : bytesT Tryd.prog 18 = 8 := by kernel_rfl
@[go_sem] theorem sz_19 : szOf Tryd.prog 19 = some 1 := by kernel_rfl
@[go_sem] theorem ag_19 : isAggT Tryd.prog 19 = some true := by kernel_rfl
@[go_sem] theorem ze_19 : zeroL Tryd.prog 19 = some [.pointer none] := by kernel_rfl
@[go_sem] theorem fo_19_0 : fOff Tryd.prog 19 0 = some 0 := by kernel_rfl
@[go_sem] theorem ft_19_0 : fTy Tryd.prog 19 0 = some (17, 0) := by kernel_rfl
@[go_sem] theorem pl_19 : places Tryd.prog 19 = some [(0, 1)] := by kernel_rfl
@[go_sem] theorem isl_19 : isSliceT Tryd.prog 19 = false := by kernel_rfl
@[go_sem] theorem ist_19 : isStrT Tryd.prog 19 = false := by kernel_rfl
@[go_sem] theorem isp_19 : isPtrT Tryd.prog 19 = false := by kernel_rfl
@[go_sem] theorem isb_19 : isBoolT Tryd.prog 19 = false := by kernel_rfl
@[go_sem] theorem isi_19 : isIfaceT Tryd.prog 19 = false := by kernel_rfl
@[go_sem] theorem isn_19 : isIntT Tryd.prog 19 = none := by kernel_rfl
@[go_sem] theorem by_19 : bytesT Tryd.prog 19 = 8 := by kernel_rfl
@[go_sem] theorem sz_20 : szOf Tryd.prog 20 = some 1 := by kernel_rfl
@[go_sem] theorem ag_20 : isAggT Tryd.prog 20 = some false := by kernel_rfl
@[go_sem] theorem ze_20 : zeroL Tryd.prog 20 = some [.nilIface] := by kernel_rfl
@[go_sem] theorem isl_20 : isSliceT Tryd.prog 20 = false := by kernel_rfl
@[go_sem] theorem ist_20 : isStrT Tryd.prog 20 = false := by kernel_rfl
@[go_sem] theorem isp_20 : isPtrT Tryd.prog 20 = false := by kernel_rfl
@[go_sem] theorem isb_20 : isBoolT Tryd.prog 20 = false := by kernel_rfl
@[go_sem] theorem isi_20 : isIfaceT Tryd.prog 20 = true := by kernel_rfl
@[go_sem] theorem isn_20 : isIntT Tryd.prog 20 = none := by kernel_rfl
@[go_sem] theorem by_20 : bytesT Tryd.prog 20 = 16 := by kernel_rfl
@[go_sem] theorem sz_21 : szOf Tryd.prog 21 = some 1 := by kernel_rfl
@[go_sem] theorem ag_21 : isAggT Tryd.prog 21 = some false := by kernel_rfl
@[go_sem] theorem ze_21 : zeroL Tryd.prog 21 = some [.int .i32 0] := by kernel_rfl
@[go_sem] theorem isl_21 : isSliceT Tryd.prog 21 = false := by kernel_rfl
@[go_sem] theorem ist_21 : isStrT Tryd.prog 21 = false := by kernel_rfl
@[go_sem] theorem isp_21 : isPtrT Tryd.prog 21 = false := by kernel_rfl
@[go_sem] theorem isb_21 : isBoolT Tryd.prog 21 = false := by kernel_rfl
@[go_sem] theorem isi_21 : isIfaceT Tryd.prog 21 = false := by kernel_rfl
@[go_sem] theorem isn_21 : isIntT Tryd.prog 21 = some .i32 := by kernel_rfl
@[go_sem] theorem by_21 : bytesT Tryd.prog 21 = 4 := by kernel_rfl
@[go_sem] theorem sz_22 : szOf Tryd.prog 22 = some 1 := by kernel_rfl
@[go_sem] theorem ag_22 : isAggT Tryd.prog 22 = some false := by kernel_rfl
@[go_sem] theorem ze_22 : zeroL Tryd.prog 22 = some [.slice none 0 0] := by kernel_rfl
@[go_sem] theorem un_22 : Tryd.prog.underlying 22 = some (.slice 36) := by kernel_rfl
@[go_sem] theorem el_22 : elT Tryd.prog 22 = some 36 := by kernel_rfl
@[go_sem] theorem es_22 : elSz Tryd.prog 22 = some 3 := by kernel_rfl
@[go_sem] theorem isl_22 : isSliceT Tryd.prog 22 = true := by kernel_rfl
@[go_sem] theorem ist_22 : isStrT Tryd.prog 22 = false := by kernel_rfl
@[go_sem] theorem isp_22 : isPtrT Tryd.prog 22 = false := by kernel_rfl
@[go_sem] theorem isb_22 : isBoolT Tryd.prog 22 = false := by kernel_rfl
@[go_sem] theorem isi_22 : isIfaceT Tryd.prog 22 = false := by kernel_rfl
@[go_sem] theorem isn_22 : isIntT Tryd.prog 22 = none := by kernel_rfl
@[go_sem] theorem by_22 : bytesT Tryd.prog 22 = 24 := by kernel_rfl
@[go_sem] theorem sz_23 : szOf Tryd.prog 23 = some 1 := by kernel_rfl
@[go_sem] theorem ag_23 : isAggT Tryd.prog 23 = some false := by kernel_rfl
@[go_sem] theorem ze_23 : zeroL Tryd.prog 23 = some [.slice none 0 0] := by kernel_rfl
@[go_sem] theorem un_23 : Tryd.prog.underlying 23 = some (.slice 9) := by kernel_rfl
@[go_sem] theorem el_23 : elT Tryd.prog 23 = some 9 := by kernel_rfl
@[go_sem] theorem es_23 : elSz Tryd.prog 23 = some 1 := by kernel_rfl
@[go_sem] theorem isl_23 : isSliceT Tryd.prog 23 = true := by kernel_rfl
@[go_sem] theorem ist_23 : isStrT Tryd.prog 23 = false := by kernel_rfl
@[go_sem] theorem isp_23 : isPtrT Tryd.prog 23 = false := by kernel_rfl
@[go_sem] theorem isb_23 : isBoolT Tryd.prog 23 = false := by kernel_rfl
@[go_sem] theorem isi_23 : isIfaceT Tryd.prog 23 = false := by kernel_rfl
@[go_sem] theorem isn_23 : isIntT Tryd.prog 23 = none := by kernel_rfl
@[go_sem] theorem by_23 : bytesT Tryd.prog 23 = 24 := by kernel_rfl
@[go_sem] theorem sz_24 : szOf Tryd.prog 24 = some 5 := by kernel_rfl
@[go_sem] theorem ag_24 : isAggT Tryd.prog 24 = some true := by kernel_rfl
@[go_sem] theorem ze_24 : zeroL Tryd.prog 24 = some [.slice none 0 0, .slice none 0 0, .int .i64 0, .int .i64 0, .int .i64 0] := by kernel_rfl
@[go_sem] theorem fo_24_0 : fOff Tryd.prog 24 0 = some 0 := by kernel_rfl
@[go_sem] theorem ft_24_0 : fTy Tryd.prog 24 0 = some (22, 0) := by kernel_rfl
@[go_sem] theorem fo_24_1 : fOff Tryd.prog 24 1 = some 1 := by kernel_rfl
@[go_sem] theorem ft_24_1 : fTy Tryd.prog 24 1 = some (23, 1) := by kernel_rfl
@[go_sem] theorem fo_24_2 : fOff Tryd.prog 24 2 = some 2 := by kernel_rfl
@[go_sem] theorem ft_24_2 : fTy Tryd.prog 24 2 = some (3, 2) := by kernel_rfl
@[go_sem] theorem fo_24_3 : fOff Tryd.prog 24 3 = some 3 := by kernel_rfl
@[go_sem] theorem ft_24_3 : fTy Tryd.prog 24 3 = some (3, 3) := by kernel_rfl
@[go_sem] theorem fo_24_4 : fOff Tryd.prog 24 4 = some 4 := by kernel_rfl
@[go_sem] theorem ft_24_4 : fTy Tryd.prog 24 4 = some (3, 4) := by kernel_rfl
@[go_sem] theorem pl_24 : places Tryd.prog 24 = some [(0, 1), (1, 1), (2, 1), (3, 1), (4, 1)] := by kernel_rfl
@[go_sem] theorem isl_24 : isSliceT Tryd.prog 24 = false := by kernel_rfl
@[go_sem] theorem ist_24 : isStrT Tryd.prog 24 = false := by kernel_rfl
@[go_sem] theorem isp_24 : isPtrT Tryd.prog 24 = false := by kernel_rfl
@[go_sem] theorem isb_24 : isBoolT Tryd.prog 24 = false := by kernel_rfl
@[go_sem] theorem isi_24 : isIfaceT Tryd.prog 24 = false := by kernel_rfl
@[go_sem] theorem isn_24 : isIntT Tryd.prog 24 = none := by kernel_rfl
@[go_sem] theorem by_24 : bytesT Tryd.prog 24 = 72 := by kernel_rfl
@[go_sem] theorem sz_25 : szOf Tryd.prog 25 = some 5 := by kernel_rfl
@[go_sem] theorem ag_25 : isAggT Tryd.prog 25 = some true := by kernel_rfl
@[go_sem] theorem ze_25 : zeroL Tryd.prog 25 = some [.slice none 0 0, .slice none 0 0, .int .i64 0, .int .i64 0, .int .i64 0] := by kernel_rfl
@[go_sem] theorem fo_25_0 : fOff Tryd.prog 25 0 = some 0 := by kernel_rfl
@[go_sem] theorem ft_25_0 : fTy Tryd.prog 25 0 = some (22, 0) := by kernel_rfl
@[go_sem] theorem fo_25_1 : fOff Tryd.prog 25 1 = some 1 := by kernel_rfl
@[go_sem] theorem ft_25_1 : fTy Tryd.prog 25 1 = some (23, 1) := by kernel_rfl
@[go_sem] theorem fo_25_2 : fOff Tryd.prog 25 2 = some 2 := by kernel_rfl
@[go_sem] theorem ft_25_2 : fTy Tryd.prog 25 2 = some (3, 2) := by kernel_rfl
@[go_sem] theorem fo_25_3 : fOff Tryd.prog 25 3 = some 3 := by kernel_rfl
@[go_sem] theorem ft_25_3 : fTy Tryd.prog 25 3 = some (3, 3) := by kernel_rfl
@[go_sem] theorem fo_25_4 : fOff Tryd.prog 25 4 = some 4 := by kernel_rfl
@[go_sem] theorem ft_25_4 : fTy Tryd.prog 25 4 = some (3, 4) := by kernel_rfl
@[go_sem] theorem pl_25 : places Tryd.prog 25 = some [(0, 1), (1, 1), (2, 1), (3, 1), (4, 1)] := by kernel_rfl
@[go_sem] theorem isl_25 : isSliceT Tryd.prog 25 = false := by kernel_rfl
@[go_sem] theorem ist_25 : isStrT Tryd.prog 25 = false := by kernel_rfl
@[go_sem] theorem isp_25 : isPtrT Tryd.prog 25 = false := by kernel_rfl
@[go_sem] theorem isb_25 : isBoolT Tryd.prog 25 = false := by kernel_rfl
@[go_sem] theorem isi_25 : isIfaceT Tryd.prog 25 = false := by kernel_rfl
@[go_sem] theorem isn_25 : isIntT Tryd.prog 25 = none := by kernel_rfl
@[go_sem] theorem by_25 : bytesT Tryd.prog 25 = 72 := by kernel_rfl
@[go_sem] theorem sz_26 : szOf Tryd.prog 26 = some 1 := by kernel_rfl
@[go_sem] theorem ag_26 : isAggT Tryd.prog 26 = some false := by kernel_rfl
@[go_sem] theorem ze_26 : zeroL Tryd.prog 26 = some [.nilFunc] := by kernel_rfl
@[go_sem] theorem isl_26 : isSliceT Tryd.prog 26 = false := by kernel_rfl
@[go_sem] theorem ist_26 : isStrT Tryd.prog 26 = false := by kernel_rfl
@[go_sem] theorem isp_26 : isPtrT Tryd.prog 26 = false := by kernel_rfl
@[go_sem] theorem isb_26 : isBoolT Tryd.prog 26 = false := by kernel_rfl
@[go_sem] theorem isi_26 : isIfaceT Tryd.prog 26 = false := by kernel_rfl
@[go_sem] theorem isn_26 : isIntT Tryd.prog 26 = none := by kernel_rfl
@[go_sem] theorem by_26 : bytesT Tryd.prog 26 = 8 := by kernel_rfl
@[go_sem] theorem sz_27 : szOf Tryd.prog 27 = some 1 := by kernel_rfl
@[go_sem] theorem ag_27 : isAggT Tryd.prog 27 = some false := by kernel_rfl
@[go_sem] theorem ze_27 : zeroL Tryd.prog 27 = some [.nilFunc] := by kernel_rfl
@[go_sem] theorem isl_27 : isSliceT Tryd.prog 27 = false := by kernel_rfl
@[go_sem] theorem ist_27 : isStrT Tryd.prog 27 = false := by kernel_rfl
@[go_sem] theorem isp_27 : isPtrT Tryd.prog 27 = false := by kernel_rfl
@[go_sem] theorem isb_27 : isBoolT Tryd.prog 27 = false := by kernel_rfl
@[go_sem] theorem isi_27 : isIfaceT Tryd.prog 27 = false := by kernel_rfl
@[go_sem] theorem isn_27 : isIntT Tryd.prog 27 = none := by kernel_rfl
@[go_sem] theorem by_27 : bytesT Tryd.prog 27 = 8 := by kernel_rfl
@[go_sem] theorem sz_28 : szOf Tryd.prog 28 = some 1 := by kernel_rfl
@[go_sem] theorem ag_28 : isAggT Tryd.prog 28 = some false := by kernel_rfl
@[go_sem] theorem ze_28 : zeroL Tryd.prog 28 = some [.nilFunc] := by kernel_rfl
@[go_sem] theorem isl_28 : isSliceT Tryd.prog 28 = false := by kernel_rfl
@[go_sem] theorem ist_28 : isStrT Tryd.prog 28 = false := by kernel_rfl
@[go_sem] theorem isp_28 : isPtrT Tryd.prog 28 = false := by kernel_rfl
@[go_sem] theorem isb_28 : isBoolT Tryd.prog 28 = false := by kernel_rfl
@[go_sem] theorem isi_28 : isIfaceT Tryd.prog 28 = false := by kernel_rfl
@[go_sem] theorem isn_28 : isIntT Tryd.prog 28 = none := by kernel_rfl
@[go_sem] theorem by_28 : bytesT Tryd.prog 28 = 8 := by kernel_rfl
@[go_sem] theorem sz_29 : szOf Tryd.prog 29 = some 1 := by kernel_rfl
@[go_sem] theorem ag_29 : isAggT Tryd.prog 29 = some false := by kernel_rfl
@[go_sem] theorem ze_29 : zeroL Tryd.prog 29 = some [.nilFunc] := by kernel_rfl
@[go_sem] theorem isl_29 : isSliceT Tryd.prog 29 = false := by kernel_rfl
@[go_sem] theorem ist_29 : isStrT Tryd.prog 29 = false := by kernel_rfl
@[go_sem] theorem isp_29 : isPtrT Tryd.prog 29 = false := by kernel_rfl
@[go_sem] theorem isb_29 : isBoolT Tryd.prog 29 = false := by kernel_rfl
@[go_sem] theorem isi_29 : isIfaceT Tryd.prog 29 = false := by kernel_rfl
@[go_sem] theorem isn_29 : isIntT Tryd.prog 29 = none := by kernel_rfl
@[go_sem] theorem by_29 : bytesT Tryd.prog 29 = 8 := by kernel_rfl
@[go_sem] theorem sz_30 : szOf Tryd.prog 30 = some 1 := by kernel_rfl
@[go_sem] theorem ag_30 : isAggT Tryd.prog 30 = some false := by kernel_rfl
@[go_sem] theorem ze_30 : zeroL Tryd.prog 30 = some [.nilFunc] := by kernel_rfl
@[go_sem] theorem isl_30 : isSliceT Tryd.prog 30 = false := by kernel_rfl
@[go_sem] theorem ist_30 : isStrT Tryd.prog 30 = false := by kernel_rfl
@[go_sem] theorem isp_30 : isPtrT Tryd.prog 30 = false := by kernel_rfl
@[go_sem] theorem isb_30 : isBoolT Tryd.prog 30 = false := by kernel_rfl
@[go_sem] theorem isi_30 : isIfaceT Tryd.prog 30 = false := by kernel_rfl
@[go_sem] theorem isn_30 : isIntT Tryd.prog 30 = none := by kernel_rfl
@[go_sem] theorem by_30 : bytesT Tryd.prog 30 = 8 := by kernel_rfl
@[go_sem] theorem sz_31 : szOf Tryd.prog 31 = some 1 := by kernel_rfl
@[go_sem] theorem ag_31 : isAggT Tryd.prog 31 = some false := by kernel_rfl
@[go_sem] theorem ze_31 : zeroL Tryd.prog 31 = some [.nilFunc] := by kernel_rfl
@[go_sem] theorem isl_31 : isSliceT Tryd.prog 31 = false := by kernel_rfl
@[go_sem] theorem ist_31 : isStrT Tryd.prog 31 = false := by kernel_rfl
@[go_sem] theorem isp_31 : isPtrT Tryd.prog 31 = false := by kernel_rfl
@[go_sem] theorem isb_31 : isBoolT Tryd.prog 31 = false := by kernel_rfl
@[go_sem] theorem isi_31 : isIfaceT Tryd.prog 31 = false := by kernel_rfl
@[go_sem] theorem isn_31 : isIntT Tryd.prog 31 = none := by kernel_rfl
@[go_sem] theorem by_31 : bytesT Tryd.prog 31 = 8 := by kernel_rfl
@[go_sem] theorem sz_32 : szOf Tryd.prog 32 = some 1 := by kernel_rfl
@[go_sem] theorem ag_32 : isAggT Tryd.prog 32 = some false := by kernel_rfl
@[go_sem] theorem ze_32 : zeroL Tryd.prog 32 = some [.nilFunc] := by kernel_rfl
@[go_sem] theorem isl_32 : isSliceT Tryd.prog 32 = false := by kernel_rfl
@[go_sem] theorem ist_32 : isStrT Tryd.prog 32 = false := by kernel_rfl
@[go_sem] theorem isp_32 : isPtrT Tryd.prog 32 = false := by kernel_rfl
@[go_sem] theorem isb_32 : isBoolT Tryd.prog 32 = false := by kernel_rfl
@[go_sem] theorem isi_32 : isIfaceT Tryd.prog 32 = false := by kernel_rfl
@[go_sem] theorem isn_32 : isIntT Tryd.prog 32 = none := by kernel_rfl
@[go_sem] theorem by_32 : bytesT Tryd.prog 32 = 8 := by kernel_rfl
@[go_sem] theorem sz_33 : szOf Tryd.prog 33 = some 1 := by kernel_rfl
@[go_sem] theorem ag_33 : isAggT Tryd.prog 33 = some false := by kernel_rfl
@[go_sem] theorem ze_33 : zeroL Tryd.prog 33 = some [.nilFunc] := by kernel_rfl
@[go_sem] theorem isl_33 : isSliceT Tryd.prog 33 = false := by kernel_rfl
@[go_sem] theorem ist_33 : isStrT Tryd.prog 33 = false := by kernel_rfl
@[go_sem] theorem isp_33 : isPtrT Tryd.prog 33 = false := by kernel_rfl
@[go_sem] theorem isb_33 : isBoolT Tryd.prog 33 = false := by kernel_rfl
@[go_sem] theorem isi_33 : isIfaceT Tryd.prog 33 = false := by kernel_rfl
@[go_sem] theorem isn_33 : isIntT Tryd.prog 33 = none := by kernel_rfl
@[go_sem] theorem by_33 : bytesT Tryd.prog 33 = 8 := by kernel_rfl
@[go_sem] theorem sz_34 : szOf Tryd.prog 34 = some 1 := by kernel_rfl
@[go_sem] theorem ag_34 : isAggT Tryd.prog 34 = some false := by kernel_rfl
@[go_sem] theorem ze_34 : zeroL Tryd.prog 34 = some [.slice none 0 0] := by kernel_rfl
@[go_sem] theorem un_34 : Tryd.prog.underlying 34 = some (.slice 38) := by kernel_rfl
@[go_sem] theorem el_34 : elT Tryd.prog 34 = some 38 := by kernel_rfl
@[go_sem] theorem es_34 : elSz Tryd.prog 34 = some 2 := by kernel_rfl
@[go_sem] theorem isl_34 : isSliceT Tryd.prog 34 = true := by kernel_rfl
@[go_sem] theorem ist_34 : isStrT Tryd.prog 34 = false := by kernel_rfl
@[go_sem] theorem isp_34 : isPtrT Tryd.prog 34 = false := by kernel_rfl
@[go_sem] theorem isb_34 : isBoolT Tryd.prog 34 = false := by kernel_rfl
@[go_sem] theorem isi_34 : isIfaceT Tryd.prog 34 = false := by kernel_rfl
@[go_sem] theorem isn_34 : isIntT Tryd.prog 34 = none := by kernel_rfl
@[go_sem] theorem by_34 : bytesT Tryd.prog 34 = 24 := by kernel_rfl
@[go_sem] theorem sz_35 : szOf Tryd.prog 35 = some 3 := by kernel_rfl
@[go_sem] theorem ag_35 : isAggT Tryd.prog 35 = some true := by kernel_rfl
@[go_sem] theorem ze_35 : zeroL Tryd.prog 35 = some [.string ⟨#[]⟩, .int .i64 0, .slice none 0 0] := by kernel_rfl
@[go_sem] theorem fo_35_0 : fOff Tryd.prog 35 0 = some 0 := by kernel_rfl
@[go_sem] theorem ft_35_0 : fTy Tryd.prog 35 0 = some (9, 0) := by kernel_rfl
@[go_sem] theorem fo_35_1 : fOff Tryd.prog 35 1 = some 1 := by kernel_rfl
@[go_sem] theorem ft_35_1 : fTy Tryd.prog 35 1 = some (3, 1) := by kernel_rfl
@[go_sem] theorem fo_35_2 : fOff Tryd.prog 35 2 = some 2 := by kernel_rfl
@[go_sem] theorem ft_35_2 : fTy Tryd.prog 35 2 = some (34, 2) := by kernel_rfl
@[go_sem] theorem pl_35 : places Tryd.prog 35 = some [(0, 1), (1, 1), (2, 1)] := by kernel_rfl
@[go_sem] theorem isl_35 : isSliceT Tryd.prog 35 = false := by kernel_rfl
@[go_sem] theorem ist_35 : isStrT Tryd.prog 35 = false := by kernel_rfl
@[go_sem] theorem isp_35 : isPtrT Tryd.prog 35 = false := by kernel_rfl
@[go_sem] theorem isb_35 : isBoolT Tryd.prog 35 = false := by kernel_rfl
@[go_sem] theorem isi_35 : isIfaceT Tryd.prog 35 = false := by kernel_rfl
@[go_sem] theorem isn_35 : isIntT Tryd.prog 35 = none := by kernel_rfl
@[go_sem] theorem by_35 : bytesT Tryd.prog 35 = 48 := by kernel_rfl
@[go_sem] theorem sz_36 : szOf Tryd.prog 36 = some 3 := by kernel_rfl
@[go_sem] theorem ag_36 : isAggT Tryd.prog 36 = some true := by kernel_rfl
@[go_sem] theorem ze_36 : zeroL Tryd.prog 36 = some [.string ⟨#[]⟩, .int .i64 0, .slice none 0 0] := by kernel_rfl
@[go_sem] theorem fo_36_0 : fOff Tryd.prog 36 0 = some 0 := by kernel_rfl
@[go_sem] theorem ft_36_0 : fTy Tryd.prog 36 0 = some (9, 0) := by kernel_rfl
@[go_sem] theorem fo_36_1 : fOff Tryd.prog 36 1 = some 1 := by kernel_rfl
@[go_sem] theorem ft_36_1 : fTy Tryd.prog 36 1 = some (3, 1) := by kernel_rfl
@[go_sem] theorem fo_36_2 : fOff Tryd.prog 36 2 = some 2 := by kernel_rfl
@[go_sem] theorem ft_36_2 : fTy Tryd.prog 36 2 = some (34, 2) := by kernel_rfl
@[go_sem] theorem pl_36 : places Tryd.prog 36 = some [(0, 1), (1, 1), (2, 1)] := by kernel_rfl
@[go_sem] theorem isl_36 : isSliceT Tryd.prog 36 = false := by kernel_rfl
@[go_sem] theorem ist_36 : isStrT Tryd.prog 36 = false := by kernel_rfl
@[go_sem] theorem isp_36 : isPtrT Tryd.prog 36 = false := by kernel_rfl
@[go_sem] theorem isb_36 : isBoolT Tryd.prog 36 = false := by kernel_rfl
@[go_sem] theorem isi_36 : isIfaceT Tryd.prog 36 = false := by kernel_rfl
@[go_sem] theorem isn_36 : isIntT Tryd.prog 36 = none := by kernel_rfl
@[go_sem] theorem by_36 : bytesT Tryd.prog 36 = 48 := by kernel_rfl
@[go_sem] theorem sz_37 : szOf Tryd.prog 37 = some 2 := by kernel_rfl
@[go_sem] theorem ag_37 : isAggT Tryd.prog 37 = some true := by kernel_rfl
@[go_sem] theorem ze_37 : zeroL Tryd.prog 37 = some [.string ⟨#[]⟩, .string ⟨#[]⟩] := by kernel_rfl
@[go_sem] theorem fo_37_0 : fOff Tryd.prog 37 0 = some 0 := by kernel_rfl
@[go_sem] theorem ft_37_0 : fTy Tryd.prog 37 0 = some (9, 0) := by kernel_rfl
@[go_sem] theorem fo_37_1 : fOff Tryd.prog 37 1 = some 1 := by kernel_rfl
@[go_sem] theorem ft_37_1 : fTy Tryd.prog 37 1 = some (9, 1) := by kernel_rfl
@[go_sem] theorem pl_37 : places Tryd.prog 37 = some [(0, 1), (1, 1)] := by kernel_rfl
@[go_sem] theorem eqk_37 : eqKinds Tryd.prog 37 = some [.str, .str] := by kernel_rfl
@[go_sem] theorem isl_37 : isSliceT Tryd.prog 37 = false := by kernel_rfl
@[go_sem] theorem ist_37 : isStrT Tryd.prog 37 = false := by kernel_rfl
@[go_sem] theorem isp_37 : isPtrT Tryd.prog 37 = false := by kernel_rfl
@[go_sem] theorem isb_37 : isBoolT Tryd.prog 37 = false := by kernel_rfl
@[go_sem] theorem isi_37 : isIfaceT Tryd.prog 37 = false := by kernel_rfl
@[go_sem] theorem isn_37 : isIntT Tryd.prog 37 = none := by kernel_rfl
@[go_sem] theorem by_37 : bytesT Tryd.prog 37 = 32 := by kernel_rfl
@[go_sem] theorem sz_38 : szOf Tryd.prog 38 = some 2 := by kernel_rfl
@[go_sem] theorem ag_38 : isAggT Tryd.prog 38 = some true := by kernel_rfl
@[go_sem] theorem ze_38 : zeroL Tryd.prog 38 = some [.string ⟨#[]⟩, .string ⟨#[]⟩] := by kernel_rfl
@[go_sem] theorem fo_38_0 : fOff Tryd.prog 38 0 = some 0 := by kernel_rfl
@[go_sem] theorem ft_38_0 : fTy Tryd.prog 38 0 = some (9, 0) := by kernel_rfl
@[go_sem] theorem fo_38_1 : fOff Tryd.prog 38 1 = some 1 := by kernel_rfl
@[go_sem] theorem ft_38_1 : fTy Tryd.prog 38 1 = some (9, 1) := by kernel_rfl
@[go_sem] theorem pl_38 : places Tryd.prog 38 = some [(0, 1), (1, 1)] := by kernel_rfl
@[go_sem] theorem eqk_38 : eqKinds Tryd.prog 38 = some [.str, .str] := by kernel_rfl
@[go_sem] theorem isl_38 : isSliceT Tryd.prog 38 = false := by kernel_rfl
@[go_sem] theorem ist_38 : isStrT Tryd.prog 38 = false := by kernel_rfl
@[go_sem] theorem isp_38 : isPtrT Tryd.prog 38 = false := by kernel_rfl
@[go_sem] theorem isb_38 : isBoolT Tryd.prog 38 = false := by kernel_rfl
@[go_sem] theorem isi_38 : isIfaceT Tryd.prog 38 = false := by kernel_rfl
@[go_sem] theorem isn_38 : isIntT Tryd.prog 38 = none := by kernel_rfl
@[go_sem] theorem by_38 : bytesT Tryd.prog 38 = 32 := by kernel_rfl
@[go_sem] theorem sz_39 : szOf Tryd.prog 39 = some 1 := by kernel_rfl
@[go_sem] theorem ag_39 : isAggT Tryd.prog 39 = some false := by kernel_rfl
@[go_sem] theorem ze_39 : zeroL Tryd.prog 39 = some [.pointer none] := by kernel_rfl
@[go_sem] theorem isl_39 : isSliceT Tryd.prog 39 = false := by kernel_rfl
@[go_sem] theorem ist_39 : isStrT Tryd.prog 39 = false := by kernel_rfl
@[go_sem] theorem isp_39 : isPtrT Tryd.prog 39 = true := by kernel_rfl
@[go_sem] theorem isb_39 : isBoolT Tryd.prog 39 = false := by kernel_rfl
@[go_sem] theorem isi_39 : isIfaceT Tryd.prog 39 = false := by kernel_rfl
@[go_sem] theorem isn_39 : isIntT Tryd.prog 39 = none := by kernel_rfl
@[go_sem] theorem by_39 : bytesT Tryd.prog 39 = 8 := by kernel_rfl
@[go_sem] theorem sz_40 : szOf Tryd.prog 40 = some 1 := by kernel_rfl
@[go_sem] theorem ag_40 : isAggT Tryd.prog 40 = some true := by kernel_rfl
@[go_sem] theorem ze_40 : zeroL Tryd.prog 40 = some [.slice none 0 0] := by kernel_rfl
@[go_sem] theorem fo_40_0 : fOff Tryd.prog 40 0 = some 0 := by kernel_rfl
@[go_sem] theorem ft_40_0 : fTy Tryd.prog 40 0 = some (23, 0) := by kernel_rfl
@[go_sem] theorem pl_40 : places Tryd.prog 40 = some [(0, 1)] := by kernel_rfl
@[go_sem] theorem isl_40 : isSliceT Tryd.prog 40 = false := by kernel_rfl
@[go_sem] theorem ist_40 : isStrT Tryd.prog 40 = false := by kernel_rfl
@[go_sem] theorem isp_40 : isPtrT Tryd.prog 40 = false := by kernel_rfl
@[go_sem] theorem isb_40 : isBoolT Tryd.prog 40 = false := by kernel_rfl
@[go_sem] theorem isi_40 : isIfaceT Tryd.prog 40 = false := by kernel_rfl
@[go_sem] theorem isn_40 : isIntT Tryd.prog 40 = none := by kernel_rfl
@[go_sem] theorem by_40 : bytesT Tryd.prog 40 = 24 := by kernel_rfl
@[go_sem] theorem sz_41 : szOf Tryd.prog 41 = some 1 := by kernel_rfl
@[go_sem] theorem ag_41 : isAggT Tryd.prog 41 = some true := by kernel_rfl
@[go_sem] theorem ze_41 : zeroL Tryd.prog 41 = some [.slice none 0 0] := by kernel_rfl
@[go_sem] theorem fo_41_0 : fOff Tryd.prog 41 0 = some 0 := by kernel_rfl
@[go_sem] theorem ft_41_0 : fTy Tryd.prog 41 0 = some (23, 0) := by kernel_rfl
@[go_sem] theorem pl_41 : places Tryd.prog 41 = some [(0, 1)] := by kernel_rfl
@[go_sem] theorem isl_41 : isSliceT Tryd.prog 41 = false := by kernel_rfl
@[go_sem] theorem ist_41 : isStrT Tryd.prog 41 = false := by kernel_rfl
@[go_sem] theorem isp_41 : isPtrT Tryd.prog 41 = false := by kernel_rfl
@[go_sem] theorem isb_41 : isBoolT Tryd.prog 41 = false := by kernel_rfl
@[go_sem] theorem isi_41 : isIfaceT Tryd.prog 41 = false := by kernel_rfl
@[go_sem] theorem isn_41 : isIntT Tryd.prog 41 = none := by kernel_rfl
@[go_sem] theorem by_41 : bytesT Tryd.prog 41 = 24 := by kernel_rfl
@[go_sem] theorem sz_42 : szOf Tryd.prog 42 = some 1 := by kernel_rfl
@[go_sem] theorem ag_42 : isAggT Tryd.prog 42 = some false := by kernel_rfl
@[go_sem] theorem ze_42 : zeroL Tryd.prog 42 = some [.nilFunc] := by kernel_rfl
@[go_sem] theorem isl_42 : isSliceT Tryd.prog 42 = false := by kernel_rfl
@[go_sem] theorem ist_42 : isStrT Tryd.prog 42 = false := by kernel_rfl
@[go_sem] theorem isp_42 : isPtrT Tryd.prog 42 = false := by kernel_rfl
@[go_sem] theorem isb_42 : isBoolT Tryd.prog 42 = false := by kernel_rfl
@[go_sem] theorem isi_42 : isIfaceT Tryd.prog 42 = false := by kernel_rfl
@[go_sem] theorem isn_42 : isIntT Tryd.prog 42 = none := by kernel_rfl
@[go_sem] theorem by_42 : bytesT Tryd.prog 42 = 8 := by kernel_rfl
@[go_sem] theorem sz_43 : szOf Tryd.prog 43 = some 1 := by kernel_rfl
@[go_sem] theorem ag_43 : isAggT Tryd.prog 43 = some false := by kernel_rfl
@[go_sem] theorem ze_43 : zeroL Tryd.prog 43 = some [.nilFunc] := by kernel_rfl
@[go_sem] theorem isl_43 : isSliceT Tryd.prog 43 = false := by kernel_rfl
@[go_sem] theorem ist_43 : isStrT Tryd.prog 43 = false := by kernel_rfl
@[go_sem] theorem isp_43 : isPtrT Tryd.prog 43 = false := by kernel_rfl
@[go_sem] theorem isb_43 : isBoolT Tryd.prog 43 = false := by kernel_rfl
@[go_sem] theorem isi_43 : isIfaceT Tryd.prog 43 = false := by kernel_rfl
@[go_sem] theorem isn_43 : isIntT Tryd.prog 43 = none := by kernel_rfl
@[go_sem] theorem by_43 : bytesT Tryd.prog 43 = 8 := by kernel_rfl
@[go_sem] theorem sz_44 : szOf Tryd.prog 44 = some 1 := by kernel_rfl
@[go_sem] theorem ag_44 : isAggT Tryd.prog 44 = some false := by kernel_rfl
@[go_sem] theorem ze_44 : zeroL Tryd.prog 44 = some [.nilFunc] := by kernel_rfl
@[go_sem] theorem isl_44 : isSliceT Tryd.prog 44 = false := by kernel_rfl
@[go_sem] theorem ist_44 : isStrT Tryd.prog 44 = false := by kernel_rfl
@[go_sem] theorem isp_44 : isPtrT Tryd.prog 44 = false := by kernel_rfl
@[go_sem] theorem isb_44 : isBoolT Tryd.prog 44 = false := by kernel_rfl
@[go_sem] theorem isi_44 : isIfaceT Tryd.prog 44 = false := by kernel_rfl
@[go_sem] theorem isn_44 : isIntT Tryd.prog 44 = none := by kernel_rfl
@[go_sem] theorem by_44 : bytesT Tryd.prog 44 = 8 := by kernel_rfl
@[go_sem] theorem sz_45 : szOf Tryd.prog 45 = some 1 := by kernel_rfl
@[go_sem] theorem ag_45 : isAggT Tryd.prog 45 = some false := by kernel_rfl
@[go_sem] theorem ze_45 : zeroL Tryd.prog 45 = some [.nilFunc] := by kernel_rfl
@[go_sem] theorem isl_45 : isSliceT Tryd.prog 45 = false := by kernel_rfl
@[go_sem] theorem ist_45 : isStrT Tryd.prog 45 = false := by kernel_rfl
@[go_sem] theorem isp_45 : isPtrT Tryd.prog 45 = false := by kernel_rfl
@[go_sem] theorem isb_45 : isBoolT Tryd.prog 45 = false := by kernel_rfl
@[go_sem] theorem isi_45 : isIfaceT Tryd.prog 45 = false := by kernel_rfl
@[go_sem] theorem isn_45 : isIntT Tryd.prog 45 = none := by kernel_rfl
@[go_sem] theorem by_45 : bytesT Tryd.prog 45 = 8 := by kernel_rfl
@[go_sem] theorem sz_46 : szOf Tryd.prog 46 = some 1 := by kernel_rfl
@[go_sem] theorem ag_46 : isAggT Tryd.prog 46 = some false := by kernel_rfl
@[go_sem] theorem ze_46 : zeroL Tryd.prog 46 = some [.nilFunc] := by kernel_rfl
@[go_sem] theorem isl_46 : isSliceT Tryd.prog 46 = false := by kernel_rfl
@[go_sem] theorem ist_46 : isStrT Tryd.prog 46 = false := by kernel_rfl
@[go_sem] theorem isp_46 : isPtrT Tryd.prog 46 = false := by kernel_rfl
@[go_sem] theorem isb_46 : isBoolT Tryd.prog 46 = false := by kernel_rfl
@[go_sem] theorem isi_46 : isIfaceT Tryd.prog 46 = false := by kernel_rfl
@[go_sem] theorem isn_46 : isIntT Tryd.prog 46 = none := by kernel_rfl
@[go_sem] theorem by_46 : bytesT Tryd.prog 46 = 8 := by kernel_rfl
@[go_sem] theorem sz_47 : szOf Tryd.prog 47 = some 1 := by kernel_rfl
@[go_sem] theorem ag_47 : isAggT Tryd.prog 47 = some false := by kernel_rfl
@[go_sem] theorem ze_47 : zeroL Tryd.prog 47 = some [.nilFunc] := by kernel_rfl
@[go_sem] theorem isl_47 : isSliceT Tryd.prog 47 = false := by kernel_rfl
@[go_sem] theorem ist_47 : isStrT Tryd.prog 47 = false := by kernel_rfl
@[go_sem] theorem isp_47 : isPtrT Tryd.prog 47 = false := by kernel_rfl
@[go_sem] theorem isb_47 : isBoolT Tryd.prog 47 = false := by kernel_rfl
@[go_sem] theorem isi_47 : isIfaceT Tryd.prog 47 = false := by kernel_rfl
@[go_sem] theorem isn_47 : isIntT Tryd.prog 47 = none := by kernel_rfl
@[go_sem] theorem by_47 : bytesT Tryd.prog 47 = 8 := by kernel_rfl
@[go_sem] theorem sz_49 : szOf Tryd.prog 49 = some 1 := by kernel_rfl
@[go_sem] theorem ag_49 : isAggT Tryd.prog 49 = some false := by kernel_rfl
@[go_sem] theorem ze_49 : zeroL Tryd.prog 49 = some [.nilFunc] := by kernel_rfl
@[go_sem] theorem isl_49 : isSliceT Tryd.prog 49 = false := by kernel_rfl
@[go_sem] theorem ist_49 : isStrT Tryd.prog 49 = false := by kernel_rfl
@[go_sem] theorem isp_49 : isPtrT Tryd.prog 49 = false := by kernel_rfl
@[go_sem] theorem isb_49 : isBoolT Tryd.prog 49 = false := by kernel_rfl
@[go_sem] theorem isi_49 : isIfaceT Tryd.prog 49 = false := by kernel_rfl
@[go_sem] theorem isn_49 : isIntT Tryd.prog 49 = none := by kernel_rfl
@[go_sem] theorem by_49 : bytesT Tryd.prog 49 = 8 := by kernel_rfl
@[go_sem] theorem sz_50 : szOf Tryd.prog 50 = some 1 := by kernel_rfl
@[go_sem] theorem ag_50 : isAggT Tryd.prog 50 = some false := by kernel_rfl
@[go_sem] theorem ze_50 : zeroL Tryd.prog 50 = some [.map none] := by kernel_rfl
@[go_sem] theorem isl_50 : isSliceT Tryd.prog 50 = false := by kernel_rfl
@[go_sem] theorem ist_50 : isStrT Tryd.prog 50 = false := by kernel_rfl
@[go_sem] theorem isp_50 : isPtrT Tryd.prog 50 = false := by kernel_rfl
@[go_sem] theorem isb_50 : isBoolT Tryd.prog 50 = false := by kernel_rfl
@[go_sem] theorem isi_50 : isIfaceT Tryd.prog 50 = false := by kernel_rfl
@[go_sem] theorem isn_50 : isIntT Tryd.prog 50 = none := by kernel_rfl
@[go_sem] theorem by_50 : bytesT Tryd.prog 50 = 8 := by kernel_rfl
@[go_sem] theorem sz_51 : szOf Tryd.prog 51 = some 1 := by kernel_rfl
@[go_sem] theorem ag_51 : isAggT Tryd.prog 51 = some false := by kernel_rfl
@[go_sem] theorem ze_51 : zeroL Tryd.prog 51 = some [.nilFunc] := by kernel_rfl
@[go_sem] theorem isl_51 : isSliceT Tryd.prog 51 = false := by kernel_rfl
@[go_sem] theorem ist_51 : isStrT Tryd.prog 51 = false := by kernel_rfl
@[go_sem] theorem isp_51 : isPtrT Tryd.prog 51 = false := by kernel_rfl
@[go_sem] theorem isb_51 : isBoolT Tryd.prog 51 = false := by kernel_rfl
@[go_sem] theorem isi_51 : isIfaceT Tryd.prog 51 = false := by kernel_rfl
@[go_sem] theorem isn_51 : isIntT Tryd.prog 51 = none := by kernel_rfl
@[go_sem] theorem by_51 : bytesT Tryd.prog 51 = 8 := by kernel_rfl
@[go_sem] theorem sz_52 : szOf Tryd.prog 52 = some 1 := by kernel_rfl
@[go_sem] theorem ag_52 : isAggT Tryd.prog 52 = some false := by kernel_rfl
@[go_sem] theorem ze_52 : zeroL Tryd.prog 52 = some [.nilFunc] := by kernel_rfl
@[go_sem] theorem isl_52 : isSliceT Tryd.prog 52 = false := by kernel_rfl
@[go_sem] theorem ist_52 : isStrT Tryd.prog 52 = false := by kernel_rfl
@[go_sem] theorem isp_52 : isPtrT Tryd.prog 52 = false := by kernel_rfl
@[go_sem] theorem isb_52 : isBoolT Tryd.prog 52 = false := by kernel_rfl
@[go_sem] theorem isi_52 : isIfaceT Tryd.prog 52 = false := by kernel_rfl
@[go_sem] theorem isn_52 : isIntT Tryd.prog 52 = none := by kernel_rfl
@[go_sem] theorem by_52 : bytesT Tryd.prog 52 = 8 := by kernel_rfl
@[go_sem] theorem sz_53 : szOf Tryd.prog 53 = some 1 := by kernel_rfl
@[go_sem] theorem ag_53 : isAggT Tryd.prog 53 = some false := by kernel_rfl
@[go_sem] theorem ze_53 : zeroL Tryd.prog 53 = some [.nilFunc] := by kernel_rfl
@[go_sem] theorem isl_53 : isSliceT Tryd.prog 53 = false := by kernel_rfl
@[go_sem] theorem ist_53 : isStrT Tryd.prog 53 = false := by kernel_rfl
@[go_sem] theorem isp_53 : isPtrT Tryd.prog 53 = false := by kernel_rfl
@[go_sem] theorem isb_53 : isBoolT Tryd.prog 53 = false := by kernel_rfl
@[go_sem] theorem isi_53 : isIfaceT Tryd.prog 53 = false := by kernel_rfl
@[go_sem] theorem isn_53 : isIntT Tryd.prog 53 = none := by kernel_rfl
@[go_sem] theorem by_53 : bytesT Tryd.prog 53 = 8 := by kernel_rfl
@[go_sem] theorem sz_54 : szOf Tryd.prog 54 = some 1 := by kernel_rfl
@[go_sem] theorem ag_54 : isAggT Tryd.prog 54 = some false := by kernel_rfl
@[go_sem] theorem ze_54 : zeroL Tryd.prog 54 = some [.map none] := by kernel_rfl
@[go_sem] theorem isl_54 : isSliceT Tryd.prog 54 = false := by kernel_rfl
@[go_sem] theorem ist_54 : isStrT Tryd.prog 54 = false := by kernel_rfl
@[go_sem] theorem isp_54 : isPtrT Tryd.prog 54 = false := by kernel_rfl
@[go_sem] theorem isb_54 : isBoolT Tryd.prog 54 = false := by kernel_rfl
@[go_sem] theorem isi_54 : isIfaceT Tryd.prog 54 = false := by kernel_rfl
@[go_sem] theorem isn_54 : isIntT Tryd.prog 54 = none := by kernel_rfl
@[go_sem] theorem by_54 : bytesT Tryd.prog 54 = 8 := by kernel_rfl
@[go_sem] theorem sz_55 : szOf Tryd.prog 55 = some 1 := by kernel_rfl
@[go_sem] theorem ag_55 : isAggT Tryd.prog 55 = some false := by kernel_rfl
@[go_sem] theorem ze_55 : zeroL Tryd.prog 55 = some [.nilFunc] := by kernel_rfl
@[go_sem] theorem isl_55 : isSliceT Tryd.prog 55 = false := by kernel_rfl
@[go_sem] theorem ist_55 : isStrT Tryd.prog 55 = false := by kernel_rfl
@[go_sem] theorem isp_55 : isPtrT Tryd.prog 55 = false := by kernel_rfl
@[go_sem] theorem isb_55 : isBoolT Tryd.prog 55 = false := by kernel_rfl
@[go_sem] theorem isi_55 : isIfaceT Tryd.prog 55 = false := by kernel_rfl
@[go_sem] theorem isn_55 : isIntT Tryd.prog 55 = none := by kernel_rfl
@[go_sem] theorem by_55 : bytesT Tryd.prog 55 = 8 := by kernel_rfl
@[go_sem] theorem sz_56 : szOf Tryd.prog 56 = some 1 := by kernel_rfl
@[go_sem] theorem ag_56 : isAggT Tryd.prog 56 = some false := by kernel_rfl
@[go_sem] theorem ze_56 : zeroL Tryd.prog 56 = some [.nilFunc] := by kernel_rfl
@[go_sem] theorem isl_56 : isSliceT Tryd.prog 56 = false := by kernel_rfl
@[go_sem] theorem ist_56 : isStrT Tryd.prog 56 = false := by kernel_rfl
@[go_sem] theorem isp_56 : isPtrT Tryd.prog 56 = false := by kernel_rfl
@[go_sem] theorem isb_56 : isBoolT Tryd.prog 56 = false := by kernel_rfl
@[go_sem] theorem isi_56 : isIfaceT Tryd.prog 56 = false := by kernel_rfl
@[go_sem] theorem isn_56 : isIntT Tryd.prog 56 = none := by kernel_rfl
@[go_sem] theorem by_56 : bytesT Tryd.prog 56 = 8 := by kernel_rfl
@[go_sem] theorem sz_57 : szOf Tryd.prog 57 = some 1 := by kernel_rfl
@[go_sem] theorem ag_57 : isAggT Tryd.prog 57 = some false := by kernel_rfl
@[go_sem] theorem ze_57 : zeroL Tryd.prog 57 = some [.nilFunc] := by kernel_rfl
@[go_sem] theorem isl_57 : isSliceT Tryd.prog 57 = false := by kernel_rfl
@[go_sem] theorem ist_57 : isStrT Tryd.prog 57 = false := by kernel_rfl
@[go_sem] theorem isp_57 : isPtrT Tryd.prog 57 = false := by kernel_rfl
@[go_sem] theorem isb_57 : isBoolT Tryd.prog 57 = false := by kernel_rfl
@[go_sem] theorem isi_57 : isIfaceT Tryd.prog 57 = false := by kernel_rfl
@[go_sem] theorem isn_57 : isIntT Tryd.prog 57 = none := by kernel_rfl
@[go_sem] theorem by_57 : bytesT Tryd.prog 57 = 8 := by kernel_rfl
@[go_sem] theorem sz_58 : szOf Tryd.prog 58 = some 1 := by kernel_rfl
@[go_sem] theorem ag_58 : isAggT Tryd.prog 58 = some false := by kernel_rfl
@[go_sem] theorem ze_58 : zeroL Tryd.prog 58 = some [.nilFunc] := by kernel_rfl
@[go_sem] theorem isl_58 : isSliceT Tryd.prog 58 = false := by kernel_rfl
@[go_sem] theorem ist_58 : isStrT Tryd.prog 58 = false := by kernel_rfl
@[go_sem] theorem isp_58 : isPtrT Tryd.prog 58 = false := by kernel_rfl
@[go_sem] theorem isb_58 : isBoolT Tryd.prog 58 = false := by kernel_rfl
@[go_sem] theorem isi_58 : isIfaceT Tryd.prog 58 = false := by kernel_rfl
@[go_sem] theorem isn_58 : isIntT Tryd.prog 58 = none := by kernel_rfl
@[go_sem] theorem by_58 : bytesT Tryd.prog 58 = 8 := by kernel_rfl
@[go_sem] theorem sz_60 : szOf Tryd.prog 60 = some 1 := by kernel_rfl
@[go_sem] theorem ag_60 : isAggT Tryd.prog 60 = some false := by kernel_rfl
@[go_sem] theorem ze_60 : zeroL Tryd.prog 60 = some [.nilFunc] := by kernel_rfl
@[go_sem] theorem isl_60 : isSliceT Tryd.prog 60 = false := by kernel_rfl
@[go_sem] theorem ist_60 : isStrT Tryd.prog 60 = false := by kernel_rfl
@[go_sem] theorem isp_60 : isPtrT Tryd.prog 60 = false := by kernel_rfl
@[go_sem] theorem isb_60 : isBoolT Tryd.prog 60 = false := by kernel_rfl
@[go_sem] theorem isi_60 : isIfaceT Tryd.prog 60 = false := by kernel_rfl
@[go_sem] theorem isn_60 : isIntT Tryd.prog 60 = none := by kernel_rfl
@[go_sem] theorem by_60 : bytesT Tryd.prog 60 = 8 := by kernel_rfl
@[go_sem] theorem sz_61 : szOf Tryd.prog 61 = some 24 := by kernel_rfl
@[go_sem] theorem ag_61 : isAggT Tryd.prog 61 = some true := by kernel_rfl
@[go_sem] theorem ze_61 : zeroL Tryd.prog 61 = some [.int .u8 0, .int .u8 0, .int .u8 0, .int .u8 0, .int .u8 0, .int .u8 0, .int .u8 0, .int .u8 0, .int .u8 0, .int .u8 0, .int .u8 0, .int .u8 0, .int .u8 0, .int .u8 0, .int .u8 0, .int .u8 0, .int .u8 0, .int .u8 0, .int .u8 0, .int .u8 0, .int .u8 0, .int .u8 0, .int .u8 0, .int .u8 0] := by kernel_rfl
@[go_sem] theorem ar_61 : arrSz Tryd.prog 61 = some (24, 1) := by kernel_rfl
@[go_sem] theorem isl_61 : isSliceT Tryd.prog 61 = false := by kernel_rfl
@[go_sem] theorem ist_61 : isStrT Tryd.prog 61 = false := by kernel_rfl
@[go_sem] theorem isp_61 : isPtrT Tryd.prog 61 = false := by kernel_rfl
@[go_sem] theorem isb_61 : isBoolT Tryd.prog 61 = false := by kernel_rfl
@[go_sem] theorem isi_61 : isIfaceT Tryd.prog 61 = false := by kernel_rfl
@[go_sem] theorem isn_61 : isIntT Tryd.prog 61 = none := by kernel_rfl
@[go_sem] theorem by_61 : bytesT Tryd.prog 61 = 24 := by kernel_rfl
@[go_sem] theorem sz_62 : szOf Tryd.prog 62 = some 1 := by kernel_rfl
@[go_sem] theorem ag_62 : isAggT Tryd.prog 62 = some false := by kernel_rfl
@[go_sem] theorem ze_62 : zeroL Tryd.prog 62 = some [.int .u64 0] := by kernel_rfl
@[go_sem] theorem isl_62 : isSliceT Tryd.prog 62 = false := by kernel_rfl
@[go_sem] theorem ist_62 : isStrT Tryd.prog 62 = false := by kernel_rfl
@[go_sem] theorem isp_62 : isPtrT Tryd.prog 62 = false := by kernel_rfl
@[go_sem] theorem isb_62 : isBoolT Tryd.prog 62 = false := by kernel_rfl
@[go_sem] theorem isi_62 : isIfaceT Tryd.prog 62 = false := by kernel_rfl
@[go_sem] theorem isn_62 : isIntT Tryd.prog 62 = some .u64 := by kernel_rfl
@[go_sem] theorem by_62 : bytesT Tryd.prog 62 = 8 := by kernel_rfl
@[go_sem] theorem sz_63 : szOf Tryd.prog 63 = some 1 := by kernel_rfl
@[go_sem] theorem ag_63 : isAggT Tryd.prog 63 = some false := by kernel_rfl
@[go_sem] theorem ze_63 : zeroL Tryd.prog 63 = some [.nilFunc] := by kernel_rfl
@[go_sem] theorem isl_63 : isSliceT Tryd.prog 63 = false := by kernel_rfl
@[go_sem] theorem ist_63 : isStrT Tryd.prog 63 = false := by kernel_rfl
@[go_sem] theorem isp_63 : isPtrT Tryd.prog 63 = false := by kernel_rfl
@[go_sem] theorem isb_63 : isBoolT Tryd.prog 63 = false := by kernel_rfl
@[go_sem] theorem isi_63 : isIfaceT Tryd.prog 63 = false := by kernel_rfl
@[go_sem] theorem isn_63 : isIntT Tryd.prog 63 = none := by kernel_rfl
@[go_sem] theorem by_63 : bytesT Tryd.prog 63 = 8 := by kernel_rfl
@[go_sem] theorem sz_64 : szOf Tryd.prog 64 = some 1 := by kernel_rfl
@[go_sem] theorem ag_64 : isAggT Tryd.prog 64 = some false := by kernel_rfl
@[go_sem] theorem ze_64 : zeroL Tryd.prog 64 = some [.nilFunc] := by kernel_rfl
@[go_sem] theorem isl_64 : isSliceT Tryd.prog 64 = false := by kernel_rfl
@[go_sem] theorem ist_64 : isStrT Tryd.prog 64 = false := by kernel_rfl
@[go_sem] theorem isp_64 : isPtrT Tryd.prog 64 = false := by kernel_rfl
@[go_sem] theorem isb_64 : isBoolT Tryd.prog 64 = false := by kernel_rfl
@[go_sem] theorem isi_64 : isIfaceT Tryd.prog 64 = false := by kernel_rfl
@[go_sem] theorem isn_64 : isIntT Tryd.prog 64 = none := by kernel_rfl
@[go_sem] theorem by_64 : bytesT Tryd.prog 64 = 8 := by kernel_rfl
@[go_sem] theorem sz_65 : szOf Tryd.prog 65 = some 1 := by kernel_rfl
@[go_sem] theorem ag_65 : isAggT Tryd.prog 65 = some false := by kernel_rfl
@[go_sem] theorem ze_65 : zeroL Tryd.prog 65 = some [.slice none 0 0] := by kernel_rfl
@[go_sem] theorem un_65 : Tryd.prog.underlying 65 = some (.slice 5) := by kernel_rfl
@[go_sem] theorem el_65 : elT Tryd.prog 65 = some 5 := by kernel_rfl
@[go_sem] theorem es_65 : elSz Tryd.prog 65 = some 1 := by kernel_rfl
@[go_sem] theorem isl_65 : isSliceT Tryd.prog 65 = true := by kernel_rfl
@[go_sem] theorem ist_65 : isStrT Tryd.prog 65 = false := by kernel_rfl
@[go_sem] theorem isp_65 : isPtrT Tryd.prog 65 = false := by kernel_rfl
@[go_sem] theorem isb_65 : isBoolT Tryd.prog 65 = false := by kernel_rfl
@[go_sem] theorem isi_65 : isIfaceT Tryd.prog 65 = false := by kernel_rfl
@[go_sem] theorem isn_65 : isIntT Tryd.prog 65 = none := by kernel_rfl
@[go_sem] theorem by_65 : bytesT Tryd.prog 65 = 24 := by kernel_rfl
@[go_sem] theorem sz_67 : szOf Tryd.prog 67 = some 1 := by kernel_rfl
@[go_sem] theorem ag_67 : isAggT Tryd.prog 67 = some false := by kernel_rfl
@[go_sem] theorem ze_67 : zeroL Tryd.prog 67 = some [.nilFunc] := by kernel_rfl
@[go_sem] theorem isl_67 : isSliceT Tryd.prog 67 = false := by kernel_rfl
@[go_sem] theorem ist_67 : isStrT Tryd.prog 67 = false := by kernel_rfl
@[go_sem] theorem isp_67 : isPtrT Tryd.prog 67 = false := by kernel_rfl
@[go_sem] theorem isb_67 : isBoolT Tryd.prog 67 = false := by kernel_rfl
@[go_sem] theorem isi_67 : isIfaceT Tryd.prog 67 = false := by kernel_rfl
@[go_sem] theorem isn_67 : isIntT Tryd.prog 67 = none := by kernel_rfl
@[go_sem] theorem by_67 : bytesT Tryd.prog 67 = 8 := by kernel_rfl
@[go_sem] theorem sz_68 : szOf Tryd.prog 68 = some 1 := by kernel_rfl
@[go_sem] theorem ag_68 : isAggT Tryd.prog 68 = some false := by kernel_rfl
@[go_sem] theorem ze_68 : zeroL Tryd.prog 68 = some [.nilFunc] := by kernel_rfl
@[go_sem] theorem isl_68 : isSliceT Tryd.prog 68 = false := by kernel_rfl
@[go_sem] theorem ist_68 : isStrT Tryd.prog 68 = false := by kernel_rfl
@[go_sem] theorem isp_68 : isPtrT Tryd.prog 68 = false := by kernel_rfl
@[go_sem] theorem isb_68 : isBoolT Tryd.prog 68 = false := by kernel_rfl
@[go_sem] theorem isi_68 : isIfaceT Tryd.prog 68 = false := by kernel_rfl
@[go_sem] theorem isn_68 : isIntT Tryd.prog 68 = none := by kernel_rfl
@[go_sem] theorem by_68 : bytesT Tryd.prog 68 = 8 := by kernel_rfl
@[go_sem] theorem sz_69 : szOf Tryd.prog 69 = some 1 := by kernel_rfl
@[go_sem] theorem ag_69 : isAggT Tryd.prog 69 = some false := by kernel_rfl
@[go_sem] theorem ze_69 : zeroL Tryd.prog 69 = some [.nilFunc] := by kernel_rfl
@[go_sem] theorem isl_69 : isSliceT Tryd.prog 69 = false := by kernel_rfl
@[go_sem] theorem ist_69 : isStrT Tryd.prog 69 = false := by kernel_rfl
@[go_sem] theorem isp_69 : isPtrT Tryd.prog 69 = false := by kernel_rfl
@[go_sem] theorem isb_69 : isBoolT Tryd.prog 69 = false := by kernel_rfl
@[go_sem] theorem isi_69 : isIfaceT Tryd.prog 69 = false := by kernel_rfl
@[go_sem] theorem isn_69 : isIntT Tryd.prog 69 = none := by kernel_rfl
@[go_sem] theorem by_69 : bytesT Tryd.prog 69 = 8 := by kernel_rfl
@[go_sem] theorem sz_70 : szOf Tryd.prog 70 = some 20 := by kernel_rfl
@[go_sem] theorem ag_70 : isAggT Tryd.prog 70 = some true := by kernel_rfl
@[go_sem] theorem ze_70 : zeroL Tryd.prog 70 = some [.int .u64 0, .int .u64 0, .int .u64 0, .int .u64 0, .int .u64 0, .int .u64 0, .int .u64 0, .int .u64 0, .int .u64 0, .int .u64 0, .int .u64 0, .int .u64 0, .int .u64 0, .int .u64 0, .int .u64 0, .int .u64 0, .int .u64 0, .int .u64 0, .int .u64 0, .int .u64 0] := by kernel_rfl
@[go_sem] theorem ar_70 : arrSz Tryd.prog 70 = some (20, 1) := by kernel_rfl
@[go_sem] theorem isl_70 : isSliceT Tryd.prog 70 = false := by kernel_rfl
@[go_sem] theorem ist_70 : isStrT Tryd.prog 70 = false := by kernel_rfl
@[go_sem] theorem isp_70 : isPtrT Tryd.prog 70 = false := by kernel_rfl
@[go_sem] theorem isb_70 : isBoolT Tryd.prog 70 = false := by kernel_rfl
@[go_sem] theorem isi_70 : isIfaceT Tryd.prog 70 = false := by kernel_rfl
@[go_sem] theorem isn_70 : isIntT Tryd.prog 70 = none := by kernel_rfl
@[go_sem] theorem by_70 : bytesT Tryd.prog 70 = 160 := by kernel_rfl
@[go_sem] theorem sz_71 : szOf Tryd.prog 71 = some 1 := by kernel_rfl
@[go_sem] theorem ag_71 : isAggT Tryd.prog 71 = some false := by kernel_rfl
@[go_sem] theorem ze_71 : zeroL Tryd.prog 71 = some [.int .u32 0] := by kernel_rfl
@[go_sem] theorem isl_71 : isSliceT Tryd.prog 71 = false := by kernel_rfl
@[go_sem] theorem ist_71 : isStrT Tryd.prog 71 = false := by kernel_rfl
@[go_sem] theorem isp_71 : isPtrT Tryd.prog 71 = false := by kernel_rfl
@[go_sem] theorem isb_71 : isBoolT Tryd.prog 71 = false := by kernel_rfl
@[go_sem] theorem isi_71 : isIfaceT Tryd.prog 71 = false := by kernel_rfl
@[go_sem] theorem isn_71 : isIntT Tryd.prog 71 = some .u32 := by kernel_rfl
@[go_sem] theorem by_71 : bytesT Tryd.prog 71 = 4 := by kernel_rfl
@[go_sem] theorem sz_72 : szOf Tryd.prog 72 = some 65 := by kernel_rfl
@[go_sem] theorem ag_72 : isAggT Tryd.prog 72 = some true := by kernel_rfl
@[go_sem] theorem ar_72 : arrSz Tryd.prog 72 = some (65, 1) := by kernel_rfl
@[go_sem] theorem isl_72 : isSliceT Tryd.prog 72 = false := by kernel_rfl
@[go_sem] theorem ist_72 : isStrT Tryd.prog 72 = false := by kernel_rfl
@[go_sem] theorem isp_72 : isPtrT Tryd.prog 72 = false := by kernel_rfl
@[go_sem] theorem isb_72 : isBoolT Tryd.prog 72 = false := by kernel_rfl
@[go_sem] theorem isi_72 : isIfaceT Tryd.prog 72 = false := by kernel_rfl
@[go_sem] theorem isn_72 : isIntT Tryd.prog 72 = none := by kernel_rfl
@[go_sem] theorem by_72 : bytesT Tryd.prog 72 = 65 := by kernel_rfl
@[go_sem] theorem sz_73 : szOf Tryd.prog 73 = some 1 := by kernel_rfl
@[go_sem] theorem ag_73 : isAggT Tryd.prog 73 = some false := by kernel_rfl
@[go_sem] theorem ze_73 : zeroL Tryd.prog 73 = some [.nilFunc] := by kernel_rfl
@[go_sem] theorem isl_73 : isSliceT Tryd.prog 73 = false := by kernel_rfl
@[go_sem] theorem ist_73 : isStrT Tryd.prog 73 = false := by kernel_rfl
@[go_sem] theorem isp_73 : isPtrT Tryd.prog 73 = false := by kernel_rfl
@[go_sem] theorem isb_73 : isBoolT Tryd.prog 73 = false := by kernel_rfl
@[go_sem] theorem isi_73 : isIfaceT Tryd.prog 73 = false := by kernel_rfl
@[go_sem] theorem isn_73 : isIntT Tryd.prog 73 = none := by kernel_rfl
@[go_sem] theorem by_73 : bytesT Tryd.prog 73 = 8 := by kernel_rfl
@[go_sem] theorem sz_74 : szOf Tryd.prog 74 = some 1 := by kernel_rfl
@[go_sem] theorem ag_74 : isAggT Tryd.prog 74 = some false := by kernel_rfl
@[go_sem] theorem ze_74 : zeroL Tryd.prog 74 = some [.int .u64 0] := by kernel_rfl
@[go_sem] theorem isl_74 : isSliceT Tryd.prog 74 = false := by kernel_rfl
@[go_sem] theorem ist_74 : isStrT Tryd.prog 74 = false := by kernel_rfl
@[go_sem] theorem isp_74 : isPtrT Tryd.prog 74 = false := by kernel_rfl
@[go_sem] theorem isb_74 : isBoolT Tryd.prog 74 = false := by kernel_rfl
@[go_sem] theorem isi_74 : isIfaceT Tryd.prog 74 = false := by kernel_rfl
@[go_sem] theorem isn_74 : isIntT Tryd.prog 74 = some .u64 := by kernel_rfl
@[go_sem] theorem by_74 : bytesT Tryd.prog 74 = 8 := by kernel_rfl
@[go_sem] theorem sz_75 : szOf Tryd.prog 75 = some 1 := by kernel_rfl
@[go_sem] theorem ag_75 : isAggT Tryd.prog 75 = some false := by kernel_rfl
@[go_sem] theorem ze_75 : zeroL Tryd.prog 75 = some [.nilFunc] := by kernel_rfl
@[go_sem] theorem isl_75 : isSliceT Tryd.prog 75 = false := by kernel_rfl
@[go_sem] theorem ist_75 : isStrT Tryd.prog 75 = false := by kernel_rfl
@[go_sem] theorem isp_75 : isPtrT Tryd.prog 75 = false := by kernel_rfl
@[go_sem] theorem isb_75 : isBoolT Tryd.prog 75 = false := by kernel_rfl
@[go_sem] theorem isi_75 : isIfaceT Tryd.prog 75 = false := by kernel_rfl
@[go_sem] theorem isn_75 : isIntT Tryd.prog 75 = none := by kernel_rfl
@[go_sem] theorem by_75 : bytesT Tryd.prog 75 = 8 := by kernel_rfl
@[go_sem] theorem sz_76 : szOf Tryd.prog 76 = some 1 := by kernel_rfl
@[go_sem] theorem ag_76 : isAggT Tryd.prog 76 = some false := by kernel_rfl
@[go_sem] theorem ze_76 : zeroL Tryd.prog 76 = some [.nilFunc] := by kernel_rfl
@[go_sem] theorem isl_76 : isSliceT Tryd.prog 76 = false := by kernel_rfl
@[go_sem] theorem ist_76 : isStrT Tryd.prog 76 = false := by kernel_rfl
@[go_sem] theorem isp_76 : isPtrT Tryd.prog 76 = false := by kernel_rfl
@[go_sem] theorem isb_76 : isBoolT Tryd.prog 76 = false := by kernel_rfl
@[go_sem] theorem isi_76 : isIfaceT Tryd.prog 76 = false := by kernel_rfl
@[go_sem] theorem isn_76 : isIntT Tryd.prog 76 = none := by kernel_rfl
@[go_sem] theorem by_76 : bytesT Tryd.prog 76 = 8 := by kernel_rfl
@[go_sem] theorem sz_77 : szOf Tryd.prog 77 = some 32 := by kernel_rfl
@[go_sem] theorem ag_77 : isAggT Tryd.prog 77 = some true := by kernel_rfl
@[go_sem] theorem ze_77 : zeroL Tryd.prog 77 = some [.int .u8 0, .int .u8 0, .int .u8 0, .int .u8 0, .int .u8 0, .int .u8 0, .int .u8 0, .int .u8 0, .int .u8 0, .int .u8 0, .int .u8 0, .int .u8 0, .int .u8 0, .int .u8 0, .int .u8 0, .int .u8 0, .int .u8 0, .int .u8 0, .int .u8 0, .int .u8 0, .int .u8 0, .int .u8 0, .int .u8 0, .int .u8 0, .int .u8 0, .int .u8 0, .int .u8 0, .int .u8 0, .int .u8 0, .int .u8 0, .int .u8 0, .int .u8 0] := by kernel_rfl
@[go_sem] theorem ar_77 : arrSz Tryd.prog 77 = some (32, 1) := by kernel_rfl
@[go_sem] theorem isl_77 : isSliceT Tryd.prog 77 = false := by kernel_rfl
@[go_sem] theorem ist_77 : isStrT Tryd.prog 77 = false := by kernel_rfl
@[go_sem] theorem isp_77 : isPtrT Tryd.prog 77 = false := by kernel_rfl
@[go_sem] theorem isb_77 : isBoolT Tryd.prog 77 = false := by kernel_rfl
@[go_sem] theorem isi_77 : isIfaceT Tryd.prog 77 = false := by kernel_rfl
@[go_sem] theorem isn_77 : isIntT Tryd.prog 77 = none := by kernel_rfl
@[go_sem] theorem by_77 : bytesT Tryd.prog 77 = 32 := by kernel_rfl
@[go_sem] theorem sz_78 : szOf Tryd.prog 78 = some 64 := by kernel_rfl
@[go_sem] theorem ag_78 : isAggT Tryd.prog 78 = some true := by kernel_rfl
@[go_sem] theorem ar_78 : arrSz Tryd.prog 78 = some (64, 1) := by kernel_rfl
@[go_sem] theorem isl_78 : isSliceT Tryd.prog 78 = false := by kernel_rfl
@[go_sem] theorem ist_78 : isStrT Tryd.prog 78 = false := by kernel_rfl
@[go_sem] theorem isp_78 : isPtrT Tryd.prog 78 = false := by kernel_rfl
@[go_sem] theorem isb_78 : isBoolT Tryd.prog 78 = false := by kernel_rfl
@[go_sem] theorem isi_78 : isIfaceT Tryd.prog 78 = false := by kernel_rfl
@[go_sem] theorem isn_78 : isIntT Tryd.prog 78 = none := by kernel_rfl
@[go_sem] theorem by_78 : bytesT Tryd.prog 78 = 64 := by kernel_rfl
@[go_sem] theorem sz_79 : szOf Tryd.prog 79 = some 1 := by kernel_rfl
@[go_sem] theorem ag_79 : isAggT Tryd.prog 79 = some false := by kernel_rfl
@[go_sem] theorem ze_79 : zeroL Tryd.prog 79 = some [.nilFunc] := by kernel_rfl
@[go_sem] theorem isl_79 : isSliceT Tryd.prog 79 = false := by kernel_rfl
@[go_sem] theorem ist_79 : isStrT Tryd.prog 79 = false := by kernel_rfl
@[go_sem] theorem isp_79 : isPtrT Tryd.prog 79 = false := by kernel_rfl
@[go_sem] theorem isb_79 : isBoolT Tryd.prog 79 = false := by kernel_rfl
@[go_sem] theorem isi_79 : isIfaceT Tryd.prog 79 = false := by kernel_rfl
@[go_sem] theorem isn_79 : isIntT Tryd.prog 79 = none := by kernel_rfl
@[go_sem] theorem by_79 : bytesT Tryd.prog 79 = 8 := by kernel_rfl
@[go_sem] theorem sz_80 : szOf Tryd.prog 80 = some 4 := by kernel_rfl
@[go_sem] theorem ag_80 : isAggT Tryd.prog 80 = some true := by kernel_rfl
@[go_sem] theorem ze_80 : zeroL Tryd.prog 80 = some [.pointer none, .pointer none, .pointer none, .string ⟨#[]⟩] := by kernel_rfl
@[go_sem] theorem fo_80_0 : fOff Tryd.prog 80 0 = some 0 := by kernel_rfl
@[go_sem] theorem ft_80_0 : fTy Tryd.prog 80 0 = some (17, 0) := by kernel_rfl
@[go_sem] theorem fo_80_1 : fOff Tryd.prog 80 1 = some 1 := by kernel_rfl
@[go_sem] theorem ft_80_1 : fTy Tryd.prog 80 1 = some (17, 1) := by kernel_rfl
@[go_sem] theorem fo_80_2 : fOff Tryd.prog 80 2 = some 2 := by kernel_rfl
@[go_sem] theorem ft_80_2 : fTy Tryd.prog 80 2 = some (17, 2) := by kernel_rfl
@[go_sem] theorem fo_80_3 : fOff Tryd.prog 80 3 = some 3 := by kernel_rfl
@[go_sem] theorem ft_80_3 : fTy Tryd.prog 80 3 = some (9, 3) := by kernel_rfl
@[go_sem] theorem pl_80 : places Tryd.prog 80 = some [(0, 1), (1, 1), (2, 1), (3, 1)] := by kernel_rfl
@[go_sem] theorem isl_80 : isSliceT Tryd.prog 80 = false := by kernel_rfl
@[go_sem] theorem ist_80 : isStrT Tryd.prog 80 = false := by kernel_rfl
@[go_sem] theorem isp_80 : isPtrT Tryd.prog 80 = false := by kernel_rfl
@[go_sem] theorem isb_80 : isBoolT Tryd.prog 80 = false := by kernel_rfl
@[go_sem] theorem isi_80 : isIfaceT Tryd.prog 80 = false := by kernel_rfl
@[go_sem] theorem isn_80 : isIntT Tryd.prog 80 = none := by kernel_rfl
@[go_sem] theorem by_80 : bytesT Tryd.prog 80 = 40 := by kernel_rfl
@[go_sem] theorem sz_81 : szOf Tryd.prog 81 = some 4 := by kernel_rfl
@[go_sem] theorem ag_81 : isAggT Tryd.prog 81 = some true := by kernel_rfl
@[go_sem] theorem ze_81 : zeroL Tryd.prog 81 = some [.pointer none, .pointer none, .pointer none, .string ⟨#[]⟩] := by kernel_rfl
@[go_sem] theorem fo_81_0 : fOff Tryd.prog 81 0 = some 0 := by kernel_rfl
@[go_sem] theorem ft_81_0 : fTy Tryd.prog 81 0 = some (17, 0) := by kernel_rfl
@[go_sem] theorem fo_81_1 : fOff Tryd.prog 81 1 = some 1 := by kernel_rfl
@[go_sem] theorem ft_81_1 : fTy Tryd.prog 81 1 = some (17, 1) := by kernel_rfl
@[go_sem] theorem fo_81_2 : fOff Tryd.prog 81 2 = some 2 := by kernel_rfl
@[go_sem] theorem ft_81_2 : fTy Tryd.prog 81 2 = some (17, 2) := by kernel_rfl
@[go_sem] theorem fo_81_3 : fOff Tryd.prog 81 3 = some 3 := by kernel_rfl
@[go_sem] theorem ft_81_3 : fTy Tryd.prog 81 3 = some (9, 3) := by kernel_rfl
@[go_sem] theorem pl_81 : places Tryd.prog 81 = some [(0, 1), (1, 1), (2, 1), (3, 1)] := by kernel_rfl
@[go_sem] theorem isl_81 : isSliceT Tryd.prog 81 = false := by kernel_rfl
@[go_sem] theorem ist_81 : isStrT Tryd.prog 81 = false := by kernel_rfl
@[go_sem] theorem isp_81 : isPtrT Tryd.prog 81 = false := by kernel_rfl
@[go_sem] theorem isb_81 : isBoolT Tryd.prog 81 = false := by kernel_rfl
@[go_sem] theorem isi_81 : isIfaceT Tryd.prog 81 = false := by kernel_rfl
@[go_sem] theorem isn_81 : isIntT Tryd.prog 81 = none := by kernel_rfl
@[go_sem] theorem by_81 : bytesT Tryd.prog 81 = 40 := by kernel_rfl
@[go_sem] theorem sz_82 : szOf Tryd.prog 82 = some 0 := by kernel_rfl
@[go_sem] theorem ag_82 : isAggT Tryd.prog 82 = some true := by kernel_rfl
@[go_sem] theorem ze_82 : zeroL Tryd.prog 82 = some [] := by kernel_rfl
@[go_sem] theorem ar_82 : arrSz Tryd.prog 82 = some (0, 1) := by kernel_rfl
@[go_sem] theorem isl_82 : isSliceT Tryd.prog 82 = false := by kernel_rfl
@[go_sem] theorem ist_82 : isStrT Tryd.prog 82 = false := by kernel_rfl
@[go_sem] theorem isp_82 : isPtrT Tryd.prog 82 = false := by kernel_rfl
@[go_sem] theorem isb_82 : isBoolT Tryd.prog 82 = false := by kernel_rfl
@[go_sem] theorem isi_82 : isIfaceT Tryd.prog 82 = false := by kernel_rfl
@[go_sem] theorem isn_82 : isIntT Tryd.prog 82 = none := by kernel_rfl
@[go_sem] theorem by_82 : bytesT Tryd.prog 82 = 0 := by kernel_rfl
@[go_sem] theorem sz_83 : szOf Tryd.prog 83 = some 0 := by kernel_rfl
@[go_sem] theorem ag_83 : isAggT Tryd.prog 83 = some true := by kernel_rfl
@[go_sem] theorem ze_83 : zeroL Tryd.prog 83 = some [] := by kernel_rfl
@[go_sem] theorem ft_83_0 : fTy Tryd.prog 83 0 = some (82, 0) := by kernel_rfl
@[go_sem] theorem pl_83 : places Tryd.prog 83 = some [(0, 0)] := by kernel_rfl
@[go_sem] theorem isl_83 : isSliceT Tryd.prog 83 = false := by kernel_rfl
@[go_sem] theorem ist_83 : isStrT Tryd.prog 83 = false := by kernel_rfl
@[go_sem] theorem isp_83 : isPtrT Tryd.prog 83 = false := by kernel_rfl
@[go_sem] theorem isb_83 : isBoolT Tryd.prog 83 = false := by kernel_rfl
@[go_sem] theorem isi_83 : isIfaceT Tryd.prog 83 = false := by kernel_rfl
@[go_sem] theorem isn_83 : isIntT Tryd.prog 83 = none := by kernel_rfl
@[go_sem] theorem by_83 : bytesT Tryd.prog 83 = 0 := by kernel_rfl
@[go_sem] theorem sz_84 : szOf Tryd.prog 84 = some 0 := by kernel_rfl
@[go_sem] theorem ag_84 : isAggT Tryd.prog 84 = some true := by kernel_rfl
@[go_sem] theorem ze_84 : zeroL Tryd.prog 84 = some [] := by kernel_rfl
@[go_sem] theorem ft_84_0 : fTy Tryd.prog 84 0 = some (82, 0) := by kernel_rfl
@[go_sem] theorem pl_84 : places Tryd.prog 84 = some [(0, 0)] := by kernel_rfl
@[go_sem] theorem isl_84 : isSliceT Tryd.prog 84 = false := by kernel_rfl
@[go_sem] theorem ist_84 : isStrT Tryd.prog 84 = false := by kernel_rfl
@[go_sem] theorem isp_84 : isPtrT Tryd.prog 84 = false := by kernel_rfl
@[go_sem] theorem isb_84 : isBoolT Tryd.prog 84 = false := by kernel_rfl
@[go_sem] theorem isi_84 : isIfaceT Tryd.prog 84 = false := by kernel_rfl
@[go_sem] theorem isn_84 : isIntT Tryd.prog 84 = none := by kernel_rfl
@[go_sem] theorem by_84 : bytesT Tryd.prog 84 = 0 := by kernel_rfl
@[go_sem] theorem sz_85 : szOf Tryd.prog 85 = some 1 := by kernel_rfl
@[go_sem] theorem ag_85 : isAggT Tryd.prog 85 = some false := by kernel_rfl
@[go_sem] theorem ze_85 : zeroL Tryd.prog 85 = some [.nilFunc] := by kernel_rfl
@[go_sem] theorem isl_85 : isSliceT Tryd.prog 85 = false := by kernel_rfl
@[go_sem] theorem ist_85 : isStrT Tryd.prog 85 = false := by kernel_rfl
@[go_sem] theorem isp_85 : isPtrT Tryd.prog 85 = false := by kernel_rfl
@[go_sem] theorem isb_85 : isBoolT Tryd.prog 85 = false := by kernel_rfl
@[go_sem] theorem isi_85 : isIfaceT Tryd.prog 85 = false := by kernel_rfl
@[go_sem] theorem isn_85 : isIntT Tryd.prog 85 = none := by kernel_rfl
@[go_sem] theorem by_85 : bytesT Tryd.prog 85 = 8 := by kernel_rfl
@[go_sem] theorem sz_86 : szOf Tryd.prog 86 = some 1 := by kernel_rfl
@[go_sem] theorem ag_86 : isAggT Tryd.prog 86 = some false := by kernel_rfl
@[go_sem] theorem ze_86 : zeroL Tryd.prog 86 = some [.int .u8 0] := by kernel_rfl
@[go_sem] theorem isl_86 : isSliceT Tryd.prog 86 = false := by kernel_rfl
@[go_sem] theorem ist_86 : isStrT Tryd.prog 86 = false := by kernel_rfl
@[go_sem] theorem isp_86 : isPtrT Tryd.prog 86 = false := by kernel_rfl
@[go_sem] theorem isb_86 : isBoolT Tryd.prog 86 = false := by kernel_rfl
@[go_sem] theorem isi_86 : isIfaceT Tryd.prog 86 = false := by kernel_rfl
@[go_sem] theorem isn_86 : isIntT Tryd.prog 86 = some .u8 := by kernel_rfl
@[go_sem] theorem by_86 : bytesT Tryd.prog 86 = 1 := by kernel_rfl
@[go_sem] theorem sz_87 : szOf Tryd.prog 87 = some 1 := by kernel_rfl
@[go_sem] theorem ag_87 : isAggT Tryd.prog 87 = some false := by kernel_rfl
@[go_sem] theorem ze_87 : zeroL Tryd.prog 87 = some [.int .u8 0] := by kernel_rfl
@[go_sem] theorem isl_87 : isSliceT Tryd.prog 87 = false := by kernel_rfl
@[go_sem] theorem ist_87 : isStrT Tryd.prog 87 = false := by kernel_rfl
@[go_sem] theorem isp_87 : isPtrT Tryd.prog 87 = false := by kernel_rfl
@[go_sem] theorem isb_87 : isBoolT Tryd.prog 87 = false := by kernel_rfl
@[go_sem] theorem isi_87 : isIfaceT Tryd.prog 87 = false := by kernel_rfl
@[go_sem] theorem isn_87 : isIntT Tryd.prog 87 = some .u8 := by kernel_rfl
@[go_sem] theorem by_87 : bytesT Tryd.prog 87 = 1 := by kernel_rfl
@[go_sem] theorem sz_88 : szOf Tryd.prog 88 = some 1 := by kernel_rfl
@[go_sem] theorem ag_88 : isAggT Tryd.prog 88 = some false := by kernel_rfl
@[go_sem] theorem ze_88 : zeroL Tryd.prog 88 = some [.nilFunc] := by kernel_rfl
@[go_sem] theorem isl_88 : isSliceT Tryd.prog 88 = false := by kernel_rfl
@[go_sem] theorem ist_88 : isStrT Tryd.prog 88 = false := by kernel_rfl
@[go_sem] theorem isp_88 : isPtrT Tryd.prog 88 = false := by kernel_rfl
@[go_sem] theorem isb_88 : isBoolT Tryd.prog 88 = false := by kernel_rfl
@[go_sem] theorem isi_88 : isIfaceT Tryd.prog 88 = false := by kernel_rfl
@[go_sem] theorem isn_88 : isIntT Tryd.prog 88 = none := by kernel_rfl
@[go_sem] theorem by_88 : bytesT Tryd.prog 88 = 8 := by kernel_rfl
@[go_sem] theorem sz_89 : szOf Tryd.prog 89 = some 1 := by kernel_rfl
@[go_sem] theorem ag_89 : isAggT Tryd.prog 89 = some false := by kernel_rfl
@[go_sem] theorem ze_89 : zeroL Tryd.prog 89 = some [.pointer none] := by kernel_rfl
@[go_sem] theorem isl_89 : isSliceT Tryd.prog 89 = false := by kernel_rfl
@[go_sem] theorem ist_89 : isStrT Tryd.prog 89 = false := by kernel_rfl
@[go_sem] theorem isp_89 : isPtrT Tryd.prog 89 = true := by kernel_rfl
@[go_sem] theorem isb_89 : isBoolT Tryd.prog 89 = false := by kernel_rfl
@[go_sem] theorem isi_89 : isIfaceT Tryd.prog 89 = false := by kernel_rfl
@[go_sem] theorem isn_89 : isIntT Tryd.prog 89 = none := by kernel_rfl
@[go_sem] theorem by_89 : bytesT Tryd.prog 89 = 8 := by kernel_rfl
@[go_sem] theorem sz_90 : szOf Tryd.prog 90 = some 1 := by kernel_rfl
@[go_sem] theorem ag_90 : isAggT Tryd.prog 90 = some false := by kernel_rfl
@[go_sem] theorem ze_90 : zeroL Tryd.prog 90 = some [.int .i32 0] := by kernel_rfl
@[go_sem] theorem isl_90 : isSliceT Tryd.prog 90 = false := by kernel_rfl
@[go_sem] theorem ist_90 : isStrT Tryd.prog 90 = false := by kernel_rfl
@[go_sem] theorem isp_90 : isPtrT Tryd.prog 90 = false := by kernel_rfl
@[go_sem] theorem isb_90 : isBoolT Tryd.prog 90 = false := by kernel_rfl
@[go_sem] theorem isi_90 : isIfaceT Tryd.prog 90 = false := by kernel_rfl
@[go_sem] theorem isn_90 : isIntT Tryd.prog 90 = some .i32 := by kernel_rfl
@[go_sem] theorem by_90 : bytesT Tryd.prog 90 = 4 := by kernel_rfl
@[go_sem] theorem sz_91 : szOf Tryd.prog 91 = some 1 := by kernel_rfl
@[go_sem] theorem ag_91 : isAggT Tryd.prog 91 = some false := by kernel_rfl
@[go_sem] theorem ze_91 : zeroL Tryd.prog 91 = some [.int .i32 0] := by kernel_rfl
@[go_sem] theorem isl_91 : isSliceT Tryd.prog 91 = false := by kernel_rfl
@[go_sem] theorem ist_91 : isStrT Tryd.prog 91 = false := by kernel_rfl
@[go_sem] theorem isp_91 : isPtrT Tryd.prog 91 = false := by kernel_rfl
@[go_sem] theorem isb_91 : isBoolT Tryd.prog 91 = false := by kernel_rfl
@[go_sem] theorem isi_91 : isIfaceT Tryd.prog 91 = false := by kernel_rfl
@[go_sem] theorem isn_91 : isIntT Tryd.prog 91 = some .i32 := by kernel_rfl
@[go_sem] theorem by_91 : bytesT Tryd.prog 91 = 4 := by kernel_rfl
@[go_sem] theorem sz_92 : szOf Tryd.prog 92 = some 11 := by kernel_rfl
@[go_sem] theorem ag_92 : isAggT Tryd.prog 92 = some true := by kernel_rfl
@[go_sem] theorem ze_92 : zeroL Tryd.prog 92 = some [.int .u64 0, .int .u64 0, .int .u32 0, .int .u8 0, .int .u8 0, .int .u8 0, .int .u8 0, .nilFunc, .pointer none, .int .i32 0, .int .i32 0] := by kernel_rfl
@[go_sem] theorem fo_92_0 : fOff Tryd.prog 92 0 = some 0 := by kernel_rfl
@[go_sem] theorem ft_92_0 : fTy Tryd.prog 92 0 = some (12, 0) := by kernel_rfl
@[go_sem] theorem fo_92_1 : fOff Tryd.prog 92 1 = some 1 := by kernel_rfl
@[go_sem] theorem ft_92_1 : fTy Tryd.prog 92 1 = some (12, 1) := by kernel_rfl
@[go_sem] theorem fo_92_2 : fOff Tryd.prog 92 2 = some 2 := by kernel_rfl
@[go_sem] theorem ft_92_2 : fTy Tryd.prog 92 2 = some (71, 2) := by kernel_rfl
@[go_sem] theorem fo_92_3 : fOff Tryd.prog 92 3 = some 3 := by kernel_rfl
@[go_sem] theorem ft_92_3 : fTy Tryd.prog 92 3 = some (86, 3) := by kernel_rfl
@[go_sem] theorem fo_92_4 : fOff Tryd.prog 92 4 = some 4 := by kernel_rfl
@[go_sem] theorem ft_92_4 : fTy Tryd.prog 92 4 = some (5, 4) := by kernel_rfl
@[go_sem] theorem fo_92_5 : fOff Tryd.prog 92 5 = some 5 := by kernel_rfl
@[go_sem] theorem ft_92_5 : fTy Tryd.prog 92 5 = some (5, 5) := by kernel_rfl
@[go_sem] theorem fo_92_6 : fOff Tryd.prog 92 6 = some 6 := by kernel_rfl
@[go_sem] theorem ft_92_6 : fTy Tryd.prog 92 6 = some (87, 6) := by kernel_rfl
@[go_sem] theorem fo_92_7 : fOff Tryd.prog 92 7 = some 7 := by kernel_rfl
@[go_sem] theorem ft_92_7 : fTy Tryd.prog 92 7 = some (88, 7) := by kernel_rfl
@[go_sem] theorem fo_92_8 : fOff Tryd.prog 92 8 = some 8 := by kernel_rfl
@[go_sem] theorem ft_92_8 : fTy Tryd.prog 92 8 = some (89, 8) := by kernel_rfl
@[go_sem] theorem fo_92_9 : fOff Tryd.prog 92 9 = some 9 := by kernel_rfl
@[go_sem] theorem ft_92_9 : fTy Tryd.prog 92 9 = some (90, 9) := by kernel_rfl
@[go_sem] theorem fo_92_10 : fOff Tryd.prog 92 10 = some 10 := by kernel_rfl
@[go_sem] theorem ft_92_10 : fTy Tryd.prog 92 10 = some (91, 10) := by kernel_rfl
@[go_sem] theorem pl_92 : places Tryd.prog 92 = some [(0, 1), (1, 1), (2, 1), (3, 1), (4, 1), (5, 1), (6, 1), (7, 1), (8, 1), (9, 1), (10, 1)] := by kernel_rfl
@[go_sem] theorem isl_92 : isSliceT Tryd.prog 92 = false := by kernel_rfl
@[go_sem] theorem ist_92 : isStrT Tryd.prog 92 = false := by kernel_rfl
@[go_sem] theorem isp_92 : isPtrT Tryd.prog 92 = false := by kernel_rfl
@[go_sem] theorem isb_92 : isBoolT Tryd.prog 92 = false := by kernel_rfl
@[go_sem] theorem isi_92 : isIfaceT Tryd.prog 92 = false := by kernel_rfl
@[go_sem] theorem isn_92 : isIntT Tryd.prog 92 = none := by kernel_rfl
@[go_sem] theorem by_92 : bytesT Tryd.prog 92 = 48 := by kernel_rfl
@[go_sem] theorem sz_93 : szOf Tryd.prog 93 = some 11 := by kernel_rfl
@[go_sem] theorem ag_93 : isAggT Tryd.prog 93 = some true := by kernel_rfl
@[go_sem] theorem ze_93 : zeroL Tryd.prog 93 = some [.int .u64 0, .int .u64 0, .int .u32 0, .int .u8 0, .int .u8 0, .int .u8 0, .int .u8 0, .nilFunc, .pointer none, .int .i32 0, .int .i32 0] := by kernel_rfl
@[go_sem] theorem fo_93_0 : fOff Tryd.prog 93 0 = some 0 := by kernel_rfl
@[go_sem] theorem ft_93_0 : fTy Tryd.prog 93 0 = some (12, 0) := by kernel_rfl
@[go_sem] theorem fo_93_1 : fOff Tryd.prog 93 1 = some 1 := by kernel_rfl
@[go_sem] theorem ft_93_1 : fTy Tryd.prog 93 1 = some (12, 1) := by kernel_rfl
@[go_sem] theorem fo_93_2 : fOff Tryd.prog 93 2 = some 2 := by kernel_rfl
@[go_sem] theorem ft_93_2 : fTy Tryd.prog 93 2 = some (71, 2) := by kernel_rfl
@[go_sem] theorem fo_93_3 : fOff Tryd.prog 93 3 = some 3 := by kernel_rfl
@[go_sem] theorem ft_93_3 : fTy Tryd.prog 93 3 = some (86, 3) := by kernel_rfl
@[go_sem] theorem fo_93_4 : fOff Tryd.prog 93 4 = some 4 := by kernel_rfl
@[go_sem] theorem ft_93_4 : fTy Tryd.prog 93 4 = some (5, 4) := by kernel_rfl
@[go_sem] theorem fo_93_5 : fOff Tryd.prog 93 5 = some 5 := by kernel_rfl
@[go_sem] theorem ft_93_5 : fTy Tryd.prog 93 5 = some (5, 5) := by kernel_rfl
@[go_sem] theorem fo_93_6 : fOff Tryd.prog 93 6 = some 6 := by kernel_rfl
@[go_sem] theorem ft_93_6 : fTy Tryd.prog 93 6 = some (87, 6) := by kernel_rfl
@[go_sem] theorem fo_93_7 : fOff Tryd.prog 93 7 = some 7 := by kernel_rfl
@[go_sem] theorem ft_93_7 : fTy Tryd.prog 93 7 = some (88, 7) := by kernel_rfl
@[go_sem] theorem fo_93_8 : fOff Tryd.prog 93 8 = some 8 := by kernel_rfl
@[go_sem] theorem ft_93_8 : fTy Tryd.prog 93 8 = some (89, 8) := by kernel_rfl
@[go_sem] theorem fo_93_9 : fOff Tryd.prog 93 9 = some 9 := by kernel_rfl
@[go_sem] theorem ft_93_9 : fTy Tryd.prog 93 9 = some (90, 9) := by kernel_rfl
@[go_sem] theorem fo_93_10 : fOff Tryd.prog 93 10 = some 10 := by kernel_rfl
@[go_sem] theorem ft_93_10 : fTy Tryd.prog 93 10 = some (91, 10) := by kernel_rfl
@[go_sem] theorem pl_93 : places Tryd.prog 93 = some [(0, 1), (1, 1), (2, 1), (3, 1), (4, 1), (5, 1), (6, 1), (7, 1), (8, 1), (9, 1), (10, 1)] := by kernel_rfl
@[go_sem] theorem isl_93 : isSliceT Tryd.prog 93 = false := by kernel_rfl
@[go_sem] theorem ist_93 : isStrT Tryd.prog 93 = false := by kernel_rfl
@[go_sem] theorem isp_93 : isPtrT Tryd.prog 93 = false := by kernel_rfl
@[go_sem] theorem isb_93 : isBoolT Tryd.prog 93 = false := by kernel_rfl
@[go_sem] theorem isi_93 : isIfaceT Tryd.prog 93 = false := by kernel_rfl
@[go_sem] theorem isn_93 : isIntT Tryd.prog 93 = none := by kernel_rfl
@[go_sem] theorem by_93 : bytesT Tryd.prog 93 = 48 := by kernel_rfl
@[go_sem] theorem sz_94 : szOf Tryd.prog 94 = some 1 := by kernel_rfl
@[go_sem] theorem ag_94 : isAggT Tryd.prog 94 = some false := by kernel_rfl
@[go_sem] theorem isl_94 : isSliceT Tryd.prog 94 = false := by kernel_rfl
@[go_sem] theorem ist_94 : isStrT Tryd.prog 94 = false := by kernel_rfl
@[go_sem] theorem isp_94 : isPtrT Tryd.prog 94 = false := by kernel_rfl
@[go_sem] theorem isb_94 : isBoolT Tryd.prog 94 = false := by kernel_rfl
@[go_sem] theorem isi_94 : isIfaceT Tryd.prog 94 = false := by kernel_rfl
@[go_sem] theorem isn_94 : isIntT Tryd.prog 94 = none := by kernel_rfl
@[go_sem] theorem by_94 : bytesT Tryd.prog 94 = 8 := by kernel_rfl
@[go_sem] theorem cb_2 : callable Tryd.prog 2 = true := by kernel_rfl
@[go_sem] theorem cb_3 : callable Tryd.prog 3 = true := by kernel_rfl
@[go_sem] theorem cb_4 : callable Tryd.prog 4 = true := by kernel_rfl
@[go_sem] theorem cb_5 : callable Tryd.prog 5 = true := by kernel_rfl
@[go_sem] theorem cb_6 : callable Tryd.prog 6 = true := by kernel_rfl
@[go_sem] theorem cb_7 : callable Tryd.prog 7 = true := by kernel_rfl
@[go_sem] theorem cb_8 : callable Tryd.prog 8 = true := by kernel_rfl
@[go_sem] theorem cb_9 : callable Tryd.prog 9 = true := by kernel_rfl
@[go_sem] theorem cb_10 : callable Tryd.prog 10 = true := by kernel_rfl
@[go_sem] theorem cb_11 : callable Tryd.prog 11 = true := by kernel_rfl
@[go_sem] theorem cb_12 : callable Tryd.prog 12 = true := by kernel_rfl
@[go_sem] theorem cb_13 : callable Tryd.prog 13 = true := by kernel_rfl
@[go_sem] theorem cb_14 : callable Tryd.prog 14 = true := by kernel_rfl
@[go_sem] theorem cb_15 : callable Tryd.prog 15 = true := by kernel_rfl
@[go_sem] theorem cb_16 : callable Tryd.prog 16 = true := by kernel_rfl
@[go_sem] theorem cb_17 : callable Tryd.prog 17 = true := by kernel_rfl
@[go_sem] theorem cb_18 : callable Tryd.prog 18 = true := by kernel_rfl
@[go_sem] theorem cb_19 : callable Tryd.prog 19 = true := by kernel_rfl
@[go_sem] theorem cb_20 : callable Tryd.prog 20 = true := by kernel_rfl
@[go_sem] theorem cb_21 : callable Tryd.prog 21 = true := by kernel_rfl
@[go_sem] theorem cb_22 : callable Tryd.prog 22 = true := by kernel_rfl
@[go_sem] theorem cb_23 : callable Tryd.prog 23 = true := by kernel_rfl
@[go_sem] theorem cb_24 : callable Tryd.prog 24 = true := by kernel_rfl
@[go_sem] theorem cb_25 : callable Tryd.prog 25 = true := by kernel_rfl
@[go_sem] theorem cb_26 : callable Tryd.prog 26 = true := by kernel_rfl
@[go_sem] theorem cb_27 : callable Tryd.prog 27 = true := by kernel_rfl
@[go_sem] theorem cb_28 : callable Tryd.prog 28 = true := by kernel_rfl
@[go_sem] theorem cb_29 : callable Tryd.prog 29 = true := by kernel_rfl
@[go_sem] theorem cb_30 : callable Tryd.prog 30 = true := by kernel_rfl
@[go_sem] theorem cb_31 : callable Tryd.prog 31 = true := by kernel_rfl
@[go_sem] theorem cb_32 : callable Tryd.prog 32 = true := by kernel_rfl
@[go_sem] theorem cb_33 : callable Tryd.prog 33 = true := by kernel_rfl
@[go_sem] theorem cb_34 : callable Tryd.prog 34 = true := by kernel_rfl
@[go_sem] theorem cb_35 : callable Tryd.prog 35 = true := by kernel_rfl
@[go_sem] theorem cb_36 : callable Tryd.prog 36 = true := by kernel_rfl
@[go_sem] theorem cb_37 : callable Tryd.prog 37 = true := by kernel_rfl
@[go_sem] theorem cb_38 : callable Tryd.prog 38 = true := by kernel_rfl
@[go_sem] theorem cb_39 : callable Tryd.prog 39 = true := by kernel_rfl
@[go_sem] theorem cb_61 : callable Tryd.prog 61 = true := by kernel_rfl
theorem mixed : Tryd.prog.follows .mixedOrders = true := by kernel_rfl
end Go.Proofs.YtflopjbjlbkgnaaDoor

namespace Go.Proofs.YtflopjbjlbkgnaaDoor
open Go Go.Gd
theorem mp_50 : mapI Tryd.prog 50 = some (true, 9) := by kernel_rfl
@[go_sem] theorem mi_50 : isMapT Tryd.prog 50 = true := by kernel_rfl
theorem mp_54 : mapI Tryd.prog 54 = some (false, 9) := by kernel_rfl
@[go_sem] theorem mi_54 : isMapT Tryd.prog 54 = true := by kernel_rfl
end Go.Proofs.YtflopjbjlbkgnaaDoor
