/- Own work, by program: facts of the tables, each closed. -/
import Derived.Test.YtnnbelmpbmfdnaaDoorSlBuild
import Derived.Test.YtnnbelmpbmfdnaaDoorSlMore
import Derived.Test.YtnnbelmpbmfdnaaDoorRows
import Derived.KernelRfl
namespace Go.Proofs.YtnnbelmpbmfdnaaDoor
open Go
theorem mixed : Tryd.prog.follows .mixedOrders = true := by kernel_rfl
theorem ag_2 : aggOf Tryd.prog 2 = some none := by kernel_rfl
theorem sz_2 : sizeOf' Tryd.prog 2 = some 1 := by kernel_rfl
theorem ze_2 : zeroOf Tryd.prog 2 = some (.int .i64 0) := by kernel_rfl
theorem ag_3 : aggOf Tryd.prog 3 = some none := by kernel_rfl
theorem sz_3 : sizeOf' Tryd.prog 3 = some 1 := by kernel_rfl
theorem ze_3 : zeroOf Tryd.prog 3 = some (.int .i64 0) := by kernel_rfl
theorem ag_4 : aggOf Tryd.prog 4 = some none := by kernel_rfl
theorem sz_4 : sizeOf' Tryd.prog 4 = some 1 := by kernel_rfl
theorem ze_4 : zeroOf Tryd.prog 4 = some (.bool false) := by kernel_rfl
theorem ag_5 : aggOf Tryd.prog 5 = some none := by kernel_rfl
theorem sz_5 : sizeOf' Tryd.prog 5 = some 1 := by kernel_rfl
theorem ze_5 : zeroOf Tryd.prog 5 = some (.int .u8 0) := by kernel_rfl
theorem ag_6 : aggOf Tryd.prog 6 = some none := by kernel_rfl
theorem sz_6 : sizeOf' Tryd.prog 6 = some 1 := by kernel_rfl
theorem ze_6 : zeroOf Tryd.prog 6 = some (.int .u8 0) := by kernel_rfl
theorem ag_7 : aggOf Tryd.prog 7 = some (some 4) := by kernel_rfl
theorem sz_7 : sizeOf' Tryd.prog 7 = some 4 := by kernel_rfl
theorem fl_7 : flatOf Tryd.prog 7 = some 4 := by kernel_rfl
theorem fo_7_0 : fieldOff Tryd.prog 7 0 = some 0 := by kernel_rfl
theorem fo_7_1 : fieldOff Tryd.prog 7 1 = some 1 := by kernel_rfl
theorem fo_7_2 : fieldOff Tryd.prog 7 2 = some 2 := by kernel_rfl
theorem fo_7_3 : fieldOff Tryd.prog 7 3 = some 3 := by kernel_rfl
theorem ze_7 : zeroOf Tryd.prog 7 = some (.agg #[.int .i64 0, .int .i64 0, .bool false, .int .u8 0]) := by kernel_rfl
theorem ag_8 : aggOf Tryd.prog 8 = some (some 4) := by kernel_rfl
theorem sz_8 : sizeOf' Tryd.prog 8 = some 4 := by kernel_rfl
theorem fl_8 : flatOf Tryd.prog 8 = some 4 := by kernel_rfl
theorem fo_8_0 : fieldOff Tryd.prog 8 0 = some 0 := by kernel_rfl
theorem fo_8_1 : fieldOff Tryd.prog 8 1 = some 1 := by kernel_rfl
theorem fo_8_2 : fieldOff Tryd.prog 8 2 = some 2 := by kernel_rfl
theorem fo_8_3 : fieldOff Tryd.prog 8 3 = some 3 := by kernel_rfl
theorem ze_8 : zeroOf Tryd.prog 8 = some (.agg #[.int .i64 0, .int .i64 0, .bool false, .int .u8 0]) := by kernel_rfl
theorem ag_9 : aggOf Tryd.prog 9 = some none := by kernel_rfl
theorem sz_9 : sizeOf' Tryd.prog 9 = some 1 := by kernel_rfl
theorem ze_9 : zeroOf Tryd.prog 9 = some (.string (bs [])) := by kernel_rfl
theorem ag_10 : aggOf Tryd.prog 10 = some none := by kernel_rfl
theorem sz_10 : sizeOf' Tryd.prog 10 = some 1 := by kernel_rfl
theorem ze_10 : zeroOf Tryd.prog 10 = some (.string (bs [])) := by kernel_rfl
theorem ag_11 : aggOf Tryd.prog 11 = some none := by kernel_rfl
theorem sz_11 : sizeOf' Tryd.prog 11 = some 1 := by kernel_rfl
theorem ze_11 : zeroOf Tryd.prog 11 = some (.string (bs [])) := by kernel_rfl
theorem ag_12 : aggOf Tryd.prog 12 = some none := by kernel_rfl
theorem sz_12 : sizeOf' Tryd.prog 12 = some 1 := by kernel_rfl
theorem ze_12 : zeroOf Tryd.prog 12 = some (.int .u64 0) := by kernel_rfl
theorem ag_13 : aggOf Tryd.prog 13 = some (some 2) := by kernel_rfl
theorem sz_13 : sizeOf' Tryd.prog 13 = some 2 := by kernel_rfl
theorem fl_13 : flatOf Tryd.prog 13 = some 2 := by kernel_rfl
theorem fo_13_0 : fieldOff Tryd.prog 13 0 = some 0 := by kernel_rfl
theorem fo_13_1 : fieldOff Tryd.prog 13 1 = some 1 := by kernel_rfl
theorem ze_13 : zeroOf Tryd.prog 13 = some (.agg #[.string (bs []), .int .u64 0]) := by kernel_rfl
theorem ag_14 : aggOf Tryd.prog 14 = some (some 2) := by kernel_rfl
theorem sz_14 : sizeOf' Tryd.prog 14 = some 2 := by kernel_rfl
theorem fl_14 : flatOf Tryd.prog 14 = some 2 := by kernel_rfl
theorem fo_14_0 : fieldOff Tryd.prog 14 0 = some 0 := by kernel_rfl
theorem fo_14_1 : fieldOff Tryd.prog 14 1 = some 1 := by kernel_rfl
theorem ze_14 : zeroOf Tryd.prog 14 = some (.agg #[.string (bs []), .int .u64 0]) := by kernel_rfl
theorem ag_15 : aggOf Tryd.prog 15 = some none := by kernel_rfl
theorem sz_15 : sizeOf' Tryd.prog 15 = some 1 := by kernel_rfl
theorem ze_15 : zeroOf Tryd.prog 15 = some (.pointer none) := by kernel_rfl
theorem ag_16 : aggOf Tryd.prog 16 = some none := by kernel_rfl
theorem sz_16 : sizeOf' Tryd.prog 16 = some 1 := by kernel_rfl
theorem ze_16 : zeroOf Tryd.prog 16 = some (.pointer none) := by kernel_rfl
theorem ag_17 : aggOf Tryd.prog 17 = some none := by kernel_rfl
theorem sz_17 : sizeOf' Tryd.prog 17 = some 1 := by kernel_rfl
theorem ze_17 : zeroOf Tryd.prog 17 = some (.pointer none) := by kernel_rfl
theorem ag_18 : aggOf Tryd.prog 18 = some (some 1) := by kernel_rfl
theorem sz_18 : sizeOf' Tryd.prog 18 = some 1 := by kernel_rfl
theorem fl_18 : flatOf Tryd.prog 18 = some 1 := by kernel_rfl
theorem fo_18_0 : fieldOff Tryd.prog 18 0 = some 0 := by kernel_rfl
theorem ze_18 : zeroOf Tryd.prog 18 = some (.agg #[.pointer none]) := by kernel_rfl
theorem ag_19 : aggOf Tryd.prog 19 = some (some 1) := by kernel_rfl
theorem sz_19 : sizeOf' Tryd.prog 19 = some 1 := by kernel_rfl
theorem fl_19 : flatOf Tryd.prog 19 = some 1 := by kernel_rfl
theorem fo_19_0 : fieldOff Tryd.prog 19 0 = some 0 := by kernel_rfl
theorem ze_19 : zeroOf Tryd.prog 19 = some (.agg #[.pointer none]) := by kernel_rfl
theorem ag_21 : aggOf Tryd.prog 21 = some none := by kernel_rfl
theorem sz_21 : sizeOf' Tryd.prog 21 = some 1 := by kernel_rfl
theorem ze_21 : zeroOf Tryd.prog 21 = some (.int .i32 0) := by kernel_rfl
theorem ag_22 : aggOf Tryd.prog 22 = some none := by kernel_rfl
theorem sz_22 : sizeOf' Tryd.prog 22 = some 1 := by kernel_rfl
theorem el_22 : elemOf' Tryd.prog 22 = some (30, 5, 48) := by kernel_rfl
theorem ze_22 : zeroOf Tryd.prog 22 = some (.slice none 0 0) := by kernel_rfl
theorem ag_23 : aggOf Tryd.prog 23 = some none := by kernel_rfl
theorem sz_23 : sizeOf' Tryd.prog 23 = some 1 := by kernel_rfl
theorem el_23 : elemOf' Tryd.prog 23 = some (35, 3, 32) := by kernel_rfl
theorem ze_23 : zeroOf Tryd.prog 23 = some (.slice none 0 0) := by kernel_rfl
theorem ag_25 : aggOf Tryd.prog 25 = some none := by kernel_rfl
theorem sz_25 : sizeOf' Tryd.prog 25 = some 1 := by kernel_rfl
theorem ze_25 : zeroOf Tryd.prog 25 = some (.pointer none) := by kernel_rfl
theorem ag_27 : aggOf Tryd.prog 27 = some none := by kernel_rfl
theorem sz_27 : sizeOf' Tryd.prog 27 = some 1 := by kernel_rfl
theorem ze_27 : zeroOf Tryd.prog 27 = some (.int .i64 0) := by kernel_rfl
theorem ag_29 : aggOf Tryd.prog 29 = some (some 5) := by kernel_rfl
theorem sz_29 : sizeOf' Tryd.prog 29 = some 5 := by kernel_rfl
theorem fl_29 : flatOf Tryd.prog 29 = some 5 := by kernel_rfl
theorem fo_29_0 : fieldOff Tryd.prog 29 0 = some 0 := by kernel_rfl
theorem fo_29_1 : fieldOff Tryd.prog 29 1 = some 1 := by kernel_rfl
theorem fo_29_2 : fieldOff Tryd.prog 29 2 = some 2 := by kernel_rfl
theorem fo_29_3 : fieldOff Tryd.prog 29 3 = some 3 := by kernel_rfl
theorem fo_29_4 : fieldOff Tryd.prog 29 4 = some 4 := by kernel_rfl
theorem ze_29 : zeroOf Tryd.prog 29 = some (.agg #[.int .i64 0, .string (bs []), .int .i64 0, .int .i64 0, .int .i64 0]) := by kernel_rfl
theorem ag_30 : aggOf Tryd.prog 30 = some (some 5) := by kernel_rfl
theorem sz_30 : sizeOf' Tryd.prog 30 = some 5 := by kernel_rfl
theorem fl_30 : flatOf Tryd.prog 30 = some 5 := by kernel_rfl
theorem fo_30_0 : fieldOff Tryd.prog 30 0 = some 0 := by kernel_rfl
theorem fo_30_1 : fieldOff Tryd.prog 30 1 = some 1 := by kernel_rfl
theorem fo_30_2 : fieldOff Tryd.prog 30 2 = some 2 := by kernel_rfl
theorem fo_30_3 : fieldOff Tryd.prog 30 3 = some 3 := by kernel_rfl
theorem fo_30_4 : fieldOff Tryd.prog 30 4 = some 4 := by kernel_rfl
theorem ze_30 : zeroOf Tryd.prog 30 = some (.agg #[.int .i64 0, .string (bs []), .int .i64 0, .int .i64 0, .int .i64 0]) := by kernel_rfl
theorem ag_32 : aggOf Tryd.prog 32 = some none := by kernel_rfl
theorem sz_32 : sizeOf' Tryd.prog 32 = some 1 := by kernel_rfl
theorem el_32 : elemOf' Tryd.prog 32 = some (37, 4, 40) := by kernel_rfl
theorem ze_32 : zeroOf Tryd.prog 32 = some (.slice none 0 0) := by kernel_rfl
theorem ag_34 : aggOf Tryd.prog 34 = some (some 3) := by kernel_rfl
theorem sz_34 : sizeOf' Tryd.prog 34 = some 3 := by kernel_rfl
theorem fl_34 : flatOf Tryd.prog 34 = some 3 := by kernel_rfl
theorem fo_34_0 : fieldOff Tryd.prog 34 0 = some 0 := by kernel_rfl
theorem fo_34_1 : fieldOff Tryd.prog 34 1 = some 1 := by kernel_rfl
theorem fo_34_2 : fieldOff Tryd.prog 34 2 = some 2 := by kernel_rfl
theorem ze_34 : zeroOf Tryd.prog 34 = some (.agg #[.int .i64 0, .string (bs []), .int .i64 0]) := by kernel_rfl
theorem ag_35 : aggOf Tryd.prog 35 = some (some 3) := by kernel_rfl
theorem sz_35 : sizeOf' Tryd.prog 35 = some 3 := by kernel_rfl
theorem fl_35 : flatOf Tryd.prog 35 = some 3 := by kernel_rfl
theorem fo_35_0 : fieldOff Tryd.prog 35 0 = some 0 := by kernel_rfl
theorem fo_35_1 : fieldOff Tryd.prog 35 1 = some 1 := by kernel_rfl
theorem fo_35_2 : fieldOff Tryd.prog 35 2 = some 2 := by kernel_rfl
theorem ze_35 : zeroOf Tryd.prog 35 = some (.agg #[.int .i64 0, .string (bs []), .int .i64 0]) := by kernel_rfl
theorem ag_36 : aggOf Tryd.prog 36 = some (some 4) := by kernel_rfl
theorem sz_36 : sizeOf' Tryd.prog 36 = some 4 := by kernel_rfl
theorem fo_36_0 : fieldOff Tryd.prog 36 0 = some 0 := by kernel_rfl
theorem fo_36_1 : fieldOff Tryd.prog 36 1 = some 1 := by kernel_rfl
theorem ze_36 : zeroOf Tryd.prog 36 = some (.agg #[.int .i64 0, .int .i64 0, .string (bs []), .int .i64 0]) := by kernel_rfl
theorem ag_37 : aggOf Tryd.prog 37 = some (some 4) := by kernel_rfl
theorem sz_37 : sizeOf' Tryd.prog 37 = some 4 := by kernel_rfl
theorem fo_37_0 : fieldOff Tryd.prog 37 0 = some 0 := by kernel_rfl
theorem fo_37_1 : fieldOff Tryd.prog 37 1 = some 1 := by kernel_rfl
theorem ze_37 : zeroOf Tryd.prog 37 = some (.agg #[.int .i64 0, .int .i64 0, .string (bs []), .int .i64 0]) := by kernel_rfl
theorem ag_42 : aggOf Tryd.prog 42 = some none := by kernel_rfl
theorem sz_42 : sizeOf' Tryd.prog 42 = some 1 := by kernel_rfl
theorem el_42 : elemOf' Tryd.prog 42 = some (81, 5, 64) := by kernel_rfl
theorem ze_42 : zeroOf Tryd.prog 42 = some (.slice none 0 0) := by kernel_rfl
theorem ag_43 : aggOf Tryd.prog 43 = some none := by kernel_rfl
theorem sz_43 : sizeOf' Tryd.prog 43 = some 1 := by kernel_rfl
theorem el_43 : elemOf' Tryd.prog 43 = some (52, 11, 136) := by kernel_rfl
theorem ze_43 : zeroOf Tryd.prog 43 = some (.slice none 0 0) := by kernel_rfl
theorem ag_45 : aggOf Tryd.prog 45 = some none := by kernel_rfl
theorem sz_45 : sizeOf' Tryd.prog 45 = some 1 := by kernel_rfl
theorem ze_45 : zeroOf Tryd.prog 45 = some (.pointer none) := by kernel_rfl
theorem ag_47 : aggOf Tryd.prog 47 = some none := by kernel_rfl
theorem sz_47 : sizeOf' Tryd.prog 47 = some 1 := by kernel_rfl
theorem el_47 : elemOf' Tryd.prog 47 = some (84, 2, 24) := by kernel_rfl
theorem ze_47 : zeroOf Tryd.prog 47 = some (.slice none 0 0) := by kernel_rfl
theorem ag_48 : aggOf Tryd.prog 48 = some none := by kernel_rfl
theorem sz_48 : sizeOf' Tryd.prog 48 = some 1 := by kernel_rfl
theorem el_48 : elemOf' Tryd.prog 48 = some (50, 8, 112) := by kernel_rfl
theorem ze_48 : zeroOf Tryd.prog 48 = some (.slice none 0 0) := by kernel_rfl
theorem ag_49 : aggOf Tryd.prog 49 = some (some 8) := by kernel_rfl
theorem sz_49 : sizeOf' Tryd.prog 49 = some 8 := by kernel_rfl
theorem fl_49 : flatOf Tryd.prog 49 = some 8 := by kernel_rfl
theorem fo_49_0 : fieldOff Tryd.prog 49 0 = some 0 := by kernel_rfl
theorem fo_49_1 : fieldOff Tryd.prog 49 1 = some 1 := by kernel_rfl
theorem fo_49_2 : fieldOff Tryd.prog 49 2 = some 2 := by kernel_rfl
theorem fo_49_3 : fieldOff Tryd.prog 49 3 = some 3 := by kernel_rfl
theorem fo_49_4 : fieldOff Tryd.prog 49 4 = some 4 := by kernel_rfl
theorem fo_49_5 : fieldOff Tryd.prog 49 5 = some 5 := by kernel_rfl
theorem fo_49_6 : fieldOff Tryd.prog 49 6 = some 6 := by kernel_rfl
theorem fo_49_7 : fieldOff Tryd.prog 49 7 = some 7 := by kernel_rfl
theorem ze_49 : zeroOf Tryd.prog 49 = some (.agg #[.int .i64 0, .string (bs []), .string (bs []), .slice none 0 0, .int .i64 0, .int .i64 0, .int .i64 0, .slice none 0 0]) := by kernel_rfl
theorem ag_50 : aggOf Tryd.prog 50 = some (some 8) := by kernel_rfl
theorem sz_50 : sizeOf' Tryd.prog 50 = some 8 := by kernel_rfl
theorem fl_50 : flatOf Tryd.prog 50 = some 8 := by kernel_rfl
theorem fo_50_0 : fieldOff Tryd.prog 50 0 = some 0 := by kernel_rfl
theorem fo_50_1 : fieldOff Tryd.prog 50 1 = some 1 := by kernel_rfl
theorem fo_50_2 : fieldOff Tryd.prog 50 2 = some 2 := by kernel_rfl
theorem fo_50_3 : fieldOff Tryd.prog 50 3 = some 3 := by kernel_rfl
theorem fo_50_4 : fieldOff Tryd.prog 50 4 = some 4 := by kernel_rfl
theorem fo_50_5 : fieldOff Tryd.prog 50 5 = some 5 := by kernel_rfl
theorem fo_50_6 : fieldOff Tryd.prog 50 6 = some 6 := by kernel_rfl
theorem fo_50_7 : fieldOff Tryd.prog 50 7 = some 7 := by kernel_rfl
theorem ze_50 : zeroOf Tryd.prog 50 = some (.agg #[.int .i64 0, .string (bs []), .string (bs []), .slice none 0 0, .int .i64 0, .int .i64 0, .int .i64 0, .slice none 0 0]) := by kernel_rfl
theorem ag_51 : aggOf Tryd.prog 51 = some (some 11) := by kernel_rfl
theorem sz_51 : sizeOf' Tryd.prog 51 = some 11 := by kernel_rfl
theorem fo_51_0 : fieldOff Tryd.prog 51 0 = some 0 := by kernel_rfl
theorem fo_51_1 : fieldOff Tryd.prog 51 1 = some 1 := by kernel_rfl
theorem fo_51_2 : fieldOff Tryd.prog 51 2 = some 2 := by kernel_rfl
theorem fo_51_3 : fieldOff Tryd.prog 51 3 = some 3 := by kernel_rfl
theorem ze_51 : zeroOf Tryd.prog 51 = some (.agg #[.int .i64 0, .int .i64 0, .int .i64 0, .int .i64 0, .string (bs []), .string (bs []), .slice none 0 0, .int .i64 0, .int .i64 0, .int .i64 0, .slice none 0 0]) := by kernel_rfl
theorem ag_52 : aggOf Tryd.prog 52 = some (some 11) := by kernel_rfl
theorem sz_52 : sizeOf' Tryd.prog 52 = some 11 := by kernel_rfl
theorem fo_52_0 : fieldOff Tryd.prog 52 0 = some 0 := by kernel_rfl
theorem fo_52_1 : fieldOff Tryd.prog 52 1 = some 1 := by kernel_rfl
theorem fo_52_2 : fieldOff Tryd.prog 52 2 = some 2 := by kernel_rfl
theorem fo_52_3 : fieldOff Tryd.prog 52 3 = some 3 := by kernel_rfl
theorem ze_52 : zeroOf Tryd.prog 52 = some (.agg #[.int .i64 0, .int .i64 0, .int .i64 0, .int .i64 0, .string (bs []), .string (bs []), .slice none 0 0, .int .i64 0, .int .i64 0, .int .i64 0, .slice none 0 0]) := by kernel_rfl
theorem ag_57 : aggOf Tryd.prog 57 = some none := by kernel_rfl
theorem sz_57 : sizeOf' Tryd.prog 57 = some 1 := by kernel_rfl
theorem ze_57 : zeroOf Tryd.prog 57 = some (.map none) := by kernel_rfl
theorem ag_58 : aggOf Tryd.prog 58 = some none := by kernel_rfl
theorem sz_58 : sizeOf' Tryd.prog 58 = some 1 := by kernel_rfl
theorem ze_58 : zeroOf Tryd.prog 58 = some (.map none) := by kernel_rfl
theorem ag_59 : aggOf Tryd.prog 59 = some (some 2) := by kernel_rfl
theorem sz_59 : sizeOf' Tryd.prog 59 = some 2 := by kernel_rfl
theorem fl_59 : flatOf Tryd.prog 59 = some 2 := by kernel_rfl
theorem fo_59_0 : fieldOff Tryd.prog 59 0 = some 0 := by kernel_rfl
theorem fo_59_1 : fieldOff Tryd.prog 59 1 = some 1 := by kernel_rfl
theorem ze_59 : zeroOf Tryd.prog 59 = some (.agg #[.map none, .map none]) := by kernel_rfl
theorem ag_60 : aggOf Tryd.prog 60 = some (some 2) := by kernel_rfl
theorem sz_60 : sizeOf' Tryd.prog 60 = some 2 := by kernel_rfl
theorem fl_60 : flatOf Tryd.prog 60 = some 2 := by kernel_rfl
theorem fo_60_0 : fieldOff Tryd.prog 60 0 = some 0 := by kernel_rfl
theorem fo_60_1 : fieldOff Tryd.prog 60 1 = some 1 := by kernel_rfl
theorem ze_60 : zeroOf Tryd.prog 60 = some (.agg #[.map none, .map none]) := by kernel_rfl
theorem ag_62 : aggOf Tryd.prog 62 = some (some 2) := by kernel_rfl
theorem sz_62 : sizeOf' Tryd.prog 62 = some 2 := by kernel_rfl
theorem fl_62 : flatOf Tryd.prog 62 = some 2 := by kernel_rfl
theorem fo_62_0 : fieldOff Tryd.prog 62 0 = some 0 := by kernel_rfl
theorem fo_62_1 : fieldOff Tryd.prog 62 1 = some 1 := by kernel_rfl
theorem ze_62 : zeroOf Tryd.prog 62 = some (.agg #[.int .i64 0, .string (bs [])]) := by kernel_rfl
theorem ag_63 : aggOf Tryd.prog 63 = some (some 2) := by kernel_rfl
theorem sz_63 : sizeOf' Tryd.prog 63 = some 2 := by kernel_rfl
theorem fl_63 : flatOf Tryd.prog 63 = some 2 := by kernel_rfl
theorem fo_63_0 : fieldOff Tryd.prog 63 0 = some 0 := by kernel_rfl
theorem fo_63_1 : fieldOff Tryd.prog 63 1 = some 1 := by kernel_rfl
theorem ze_63 : zeroOf Tryd.prog 63 = some (.agg #[.int .i64 0, .string (bs [])]) := by kernel_rfl
theorem ag_64 : aggOf Tryd.prog 64 = some none := by kernel_rfl
theorem sz_64 : sizeOf' Tryd.prog 64 = some 1 := by kernel_rfl
theorem el_64 : elemOf' Tryd.prog 64 = some (3, 1, 8) := by kernel_rfl
theorem ze_64 : zeroOf Tryd.prog 64 = some (.slice none 0 0) := by kernel_rfl
theorem ag_69 : aggOf Tryd.prog 69 = some none := by kernel_rfl
theorem sz_69 : sizeOf' Tryd.prog 69 = some 1 := by kernel_rfl
theorem el_69 : elemOf' Tryd.prog 69 = some (63, 2, 24) := by kernel_rfl
theorem ze_69 : zeroOf Tryd.prog 69 = some (.slice none 0 0) := by kernel_rfl
theorem ag_70 : aggOf Tryd.prog 70 = some (some 9) := by kernel_rfl
theorem sz_70 : sizeOf' Tryd.prog 70 = some 9 := by kernel_rfl
theorem fl_70 : flatOf Tryd.prog 70 = some 9 := by kernel_rfl
theorem fo_70_0 : fieldOff Tryd.prog 70 0 = some 0 := by kernel_rfl
theorem fo_70_1 : fieldOff Tryd.prog 70 1 = some 1 := by kernel_rfl
theorem fo_70_2 : fieldOff Tryd.prog 70 2 = some 2 := by kernel_rfl
theorem fo_70_3 : fieldOff Tryd.prog 70 3 = some 3 := by kernel_rfl
theorem fo_70_4 : fieldOff Tryd.prog 70 4 = some 4 := by kernel_rfl
theorem fo_70_5 : fieldOff Tryd.prog 70 5 = some 5 := by kernel_rfl
theorem fo_70_6 : fieldOff Tryd.prog 70 6 = some 6 := by kernel_rfl
theorem fo_70_7 : fieldOff Tryd.prog 70 7 = some 7 := by kernel_rfl
theorem fo_70_8 : fieldOff Tryd.prog 70 8 = some 8 := by kernel_rfl
theorem ze_70 : zeroOf Tryd.prog 70 = some (.agg #[.int .i64 0, .int .i64 0, .int .i64 0, .int .i64 0, .int .i64 0, .int .i64 0, .int .i64 0, .int .i64 0, .int .i64 0]) := by kernel_rfl
theorem ag_71 : aggOf Tryd.prog 71 = some (some 9) := by kernel_rfl
theorem sz_71 : sizeOf' Tryd.prog 71 = some 9 := by kernel_rfl
theorem fl_71 : flatOf Tryd.prog 71 = some 9 := by kernel_rfl
theorem fo_71_0 : fieldOff Tryd.prog 71 0 = some 0 := by kernel_rfl
theorem fo_71_1 : fieldOff Tryd.prog 71 1 = some 1 := by kernel_rfl
theorem fo_71_2 : fieldOff Tryd.prog 71 2 = some 2 := by kernel_rfl
theorem fo_71_3 : fieldOff Tryd.prog 71 3 = some 3 := by kernel_rfl
theorem fo_71_4 : fieldOff Tryd.prog 71 4 = some 4 := by kernel_rfl
theorem fo_71_5 : fieldOff Tryd.prog 71 5 = some 5 := by kernel_rfl
theorem fo_71_6 : fieldOff Tryd.prog 71 6 = some 6 := by kernel_rfl
theorem fo_71_7 : fieldOff Tryd.prog 71 7 = some 7 := by kernel_rfl
theorem fo_71_8 : fieldOff Tryd.prog 71 8 = some 8 := by kernel_rfl
theorem ze_71 : zeroOf Tryd.prog 71 = some (.agg #[.int .i64 0, .int .i64 0, .int .i64 0, .int .i64 0, .int .i64 0, .int .i64 0, .int .i64 0, .int .i64 0, .int .i64 0]) := by kernel_rfl
theorem ag_78 : aggOf Tryd.prog 78 = some none := by kernel_rfl
theorem sz_78 : sizeOf' Tryd.prog 78 = some 1 := by kernel_rfl
theorem el_78 : elemOf' Tryd.prog 78 = some (9, 1, 16) := by kernel_rfl
theorem ze_78 : zeroOf Tryd.prog 78 = some (.slice none 0 0) := by kernel_rfl
theorem ag_80 : aggOf Tryd.prog 80 = some (some 5) := by kernel_rfl
theorem sz_80 : sizeOf' Tryd.prog 80 = some 5 := by kernel_rfl
theorem fl_80 : flatOf Tryd.prog 80 = some 5 := by kernel_rfl
theorem fo_80_0 : fieldOff Tryd.prog 80 0 = some 0 := by kernel_rfl
theorem fo_80_1 : fieldOff Tryd.prog 80 1 = some 1 := by kernel_rfl
theorem fo_80_2 : fieldOff Tryd.prog 80 2 = some 2 := by kernel_rfl
theorem fo_80_3 : fieldOff Tryd.prog 80 3 = some 3 := by kernel_rfl
theorem fo_80_4 : fieldOff Tryd.prog 80 4 = some 4 := by kernel_rfl
theorem ze_80 : zeroOf Tryd.prog 80 = some (.agg #[.int .i64 0, .int .i64 0, .int .i64 0, .string (bs []), .slice none 0 0]) := by kernel_rfl
theorem ag_81 : aggOf Tryd.prog 81 = some (some 5) := by kernel_rfl
theorem sz_81 : sizeOf' Tryd.prog 81 = some 5 := by kernel_rfl
theorem fl_81 : flatOf Tryd.prog 81 = some 5 := by kernel_rfl
theorem fo_81_0 : fieldOff Tryd.prog 81 0 = some 0 := by kernel_rfl
theorem fo_81_1 : fieldOff Tryd.prog 81 1 = some 1 := by kernel_rfl
theorem fo_81_2 : fieldOff Tryd.prog 81 2 = some 2 := by kernel_rfl
theorem fo_81_3 : fieldOff Tryd.prog 81 3 = some 3 := by kernel_rfl
theorem fo_81_4 : fieldOff Tryd.prog 81 4 = some 4 := by kernel_rfl
theorem ze_81 : zeroOf Tryd.prog 81 = some (.agg #[.int .i64 0, .int .i64 0, .int .i64 0, .string (bs []), .slice none 0 0]) := by kernel_rfl
theorem ag_82 : aggOf Tryd.prog 82 = some none := by kernel_rfl
theorem sz_82 : sizeOf' Tryd.prog 82 = some 1 := by kernel_rfl
theorem ze_82 : zeroOf Tryd.prog 82 = some (.pointer none) := by kernel_rfl
theorem ag_83 : aggOf Tryd.prog 83 = some (some 2) := by kernel_rfl
theorem sz_83 : sizeOf' Tryd.prog 83 = some 2 := by kernel_rfl
theorem fl_83 : flatOf Tryd.prog 83 = some 2 := by kernel_rfl
theorem fo_83_0 : fieldOff Tryd.prog 83 0 = some 0 := by kernel_rfl
theorem fo_83_1 : fieldOff Tryd.prog 83 1 = some 1 := by kernel_rfl
theorem ze_83 : zeroOf Tryd.prog 83 = some (.agg #[.int .i64 0, .string (bs [])]) := by kernel_rfl
theorem ag_84 : aggOf Tryd.prog 84 = some (some 2) := by kernel_rfl
theorem sz_84 : sizeOf' Tryd.prog 84 = some 2 := by kernel_rfl
theorem fl_84 : flatOf Tryd.prog 84 = some 2 := by kernel_rfl
theorem fo_84_0 : fieldOff Tryd.prog 84 0 = some 0 := by kernel_rfl
theorem fo_84_1 : fieldOff Tryd.prog 84 1 = some 1 := by kernel_rfl
theorem ze_84 : zeroOf Tryd.prog 84 = some (.agg #[.int .i64 0, .string (bs [])]) := by kernel_rfl
theorem ag_85 : aggOf Tryd.prog 85 = some (some 11) := by kernel_rfl
theorem sz_85 : sizeOf' Tryd.prog 85 = some 11 := by kernel_rfl
theorem fo_85_0 : fieldOff Tryd.prog 85 0 = some 0 := by kernel_rfl
theorem fo_85_1 : fieldOff Tryd.prog 85 1 = some 1 := by kernel_rfl
theorem fo_85_2 : fieldOff Tryd.prog 85 2 = some 2 := by kernel_rfl
theorem ze_85 : zeroOf Tryd.prog 85 = some (.agg #[.string (bs []), .slice none 0 0, .int .i64 0, .int .i64 0, .int .i64 0, .int .i64 0, .int .i64 0, .int .i64 0, .int .i64 0, .int .i64 0, .int .i64 0]) := by kernel_rfl
theorem ag_86 : aggOf Tryd.prog 86 = some (some 11) := by kernel_rfl
theorem sz_86 : sizeOf' Tryd.prog 86 = some 11 := by kernel_rfl
theorem fo_86_0 : fieldOff Tryd.prog 86 0 = some 0 := by kernel_rfl
theorem fo_86_1 : fieldOff Tryd.prog 86 1 = some 1 := by kernel_rfl
theorem fo_86_2 : fieldOff Tryd.prog 86 2 = some 2 := by kernel_rfl
theorem ze_86 : zeroOf Tryd.prog 86 = some (.agg #[.string (bs []), .slice none 0 0, .int .i64 0, .int .i64 0, .int .i64 0, .int .i64 0, .int .i64 0, .int .i64 0, .int .i64 0, .int .i64 0, .int .i64 0]) := by kernel_rfl
theorem ag_87 : aggOf Tryd.prog 87 = some none := by kernel_rfl
theorem sz_87 : sizeOf' Tryd.prog 87 = some 1 := by kernel_rfl
theorem ze_87 : zeroOf Tryd.prog 87 = some (.map none) := by kernel_rfl
theorem ag_88 : aggOf Tryd.prog 88 = some none := by kernel_rfl
theorem sz_88 : sizeOf' Tryd.prog 88 = some 1 := by kernel_rfl
theorem ze_88 : zeroOf Tryd.prog 88 = some (.map none) := by kernel_rfl
theorem ag_89 : aggOf Tryd.prog 89 = some (some 3) := by kernel_rfl
theorem sz_89 : sizeOf' Tryd.prog 89 = some 3 := by kernel_rfl
theorem fl_89 : flatOf Tryd.prog 89 = some 3 := by kernel_rfl
theorem fo_89_0 : fieldOff Tryd.prog 89 0 = some 0 := by kernel_rfl
theorem fo_89_1 : fieldOff Tryd.prog 89 1 = some 1 := by kernel_rfl
theorem fo_89_2 : fieldOff Tryd.prog 89 2 = some 2 := by kernel_rfl
theorem ze_89 : zeroOf Tryd.prog 89 = some (.agg #[.map none, .map none, .int .i64 0]) := by kernel_rfl
theorem ag_90 : aggOf Tryd.prog 90 = some (some 3) := by kernel_rfl
theorem sz_90 : sizeOf' Tryd.prog 90 = some 3 := by kernel_rfl
theorem fl_90 : flatOf Tryd.prog 90 = some 3 := by kernel_rfl
theorem fo_90_0 : fieldOff Tryd.prog 90 0 = some 0 := by kernel_rfl
theorem fo_90_1 : fieldOff Tryd.prog 90 1 = some 1 := by kernel_rfl
theorem fo_90_2 : fieldOff Tryd.prog 90 2 = some 2 := by kernel_rfl
theorem ze_90 : zeroOf Tryd.prog 90 = some (.agg #[.map none, .map none, .int .i64 0]) := by kernel_rfl
theorem ag_91 : aggOf Tryd.prog 91 = some (some 2) := by kernel_rfl
theorem sz_91 : sizeOf' Tryd.prog 91 = some 2 := by kernel_rfl
theorem fl_91 : flatOf Tryd.prog 91 = some 2 := by kernel_rfl
theorem fo_91_0 : fieldOff Tryd.prog 91 0 = some 0 := by kernel_rfl
theorem fo_91_1 : fieldOff Tryd.prog 91 1 = some 1 := by kernel_rfl
theorem ze_91 : zeroOf Tryd.prog 91 = some (.agg #[.int .i64 0, .string (bs [])]) := by kernel_rfl
theorem ag_92 : aggOf Tryd.prog 92 = some (some 2) := by kernel_rfl
theorem sz_92 : sizeOf' Tryd.prog 92 = some 2 := by kernel_rfl
theorem fl_92 : flatOf Tryd.prog 92 = some 2 := by kernel_rfl
theorem fo_92_0 : fieldOff Tryd.prog 92 0 = some 0 := by kernel_rfl
theorem fo_92_1 : fieldOff Tryd.prog 92 1 = some 1 := by kernel_rfl
theorem ze_92 : zeroOf Tryd.prog 92 = some (.agg #[.int .i64 0, .string (bs [])]) := by kernel_rfl
theorem ag_101 : aggOf Tryd.prog 101 = some none := by kernel_rfl
theorem sz_101 : sizeOf' Tryd.prog 101 = some 1 := by kernel_rfl
theorem ze_101 : zeroOf Tryd.prog 101 = some (.int .u64 0) := by kernel_rfl
theorem ag_109 : aggOf Tryd.prog 109 = some none := by kernel_rfl
theorem sz_109 : sizeOf' Tryd.prog 109 = some 1 := by kernel_rfl
theorem ze_109 : zeroOf Tryd.prog 109 = some (.int .i64 0) := by kernel_rfl
theorem ag_118 : aggOf Tryd.prog 118 = some none := by kernel_rfl
theorem sz_118 : sizeOf' Tryd.prog 118 = some 1 := by kernel_rfl
theorem ze_118 : zeroOf Tryd.prog 118 = some (.int .u32 0) := by kernel_rfl
theorem ag_120 : aggOf Tryd.prog 120 = some none := by kernel_rfl
theorem sz_120 : sizeOf' Tryd.prog 120 = some 1 := by kernel_rfl
theorem ze_120 : zeroOf Tryd.prog 120 = some (.int .u64 0) := by kernel_rfl
theorem ag_127 : aggOf Tryd.prog 127 = some none := by kernel_rfl
theorem sz_127 : sizeOf' Tryd.prog 127 = some 1 := by kernel_rfl
theorem ze_127 : zeroOf Tryd.prog 127 = some (.int .u64 0) := by kernel_rfl
theorem ag_131 : aggOf Tryd.prog 131 = some none := by kernel_rfl
theorem sz_131 : sizeOf' Tryd.prog 131 = some 1 := by kernel_rfl
theorem ze_131 : zeroOf Tryd.prog 131 = some (.pointer none) := by kernel_rfl
theorem ag_138 : aggOf Tryd.prog 138 = some none := by kernel_rfl
theorem sz_138 : sizeOf' Tryd.prog 138 = some 1 := by kernel_rfl
theorem ze_138 : zeroOf Tryd.prog 138 = some (.nilFunc) := by kernel_rfl
theorem ag_143 : aggOf Tryd.prog 143 = some none := by kernel_rfl
theorem sz_143 : sizeOf' Tryd.prog 143 = some 1 := by kernel_rfl
theorem ze_143 : zeroOf Tryd.prog 143 = some (.pointer none) := by kernel_rfl
theorem ag_158 : aggOf Tryd.prog 158 = some (some 256) := by kernel_rfl
theorem sz_158 : sizeOf' Tryd.prog 158 = some 256 := by kernel_rfl
theorem ar_158 : arrOf Tryd.prog 158 = some (256, 5, 1) := by kernel_rfl
theorem ag_159 : aggOf Tryd.prog 159 = some (some 2) := by kernel_rfl
theorem sz_159 : sizeOf' Tryd.prog 159 = some 2 := by kernel_rfl
theorem fl_159 : flatOf Tryd.prog 159 = some 2 := by kernel_rfl
theorem fo_159_0 : fieldOff Tryd.prog 159 0 = some 0 := by kernel_rfl
theorem fo_159_1 : fieldOff Tryd.prog 159 1 = some 1 := by kernel_rfl
theorem ze_159 : zeroOf Tryd.prog 159 = some (.agg #[.int .u8 0, .int .u8 0]) := by kernel_rfl
theorem ag_160 : aggOf Tryd.prog 160 = some (some 2) := by kernel_rfl
theorem sz_160 : sizeOf' Tryd.prog 160 = some 2 := by kernel_rfl
theorem fl_160 : flatOf Tryd.prog 160 = some 2 := by kernel_rfl
theorem fo_160_0 : fieldOff Tryd.prog 160 0 = some 0 := by kernel_rfl
theorem fo_160_1 : fieldOff Tryd.prog 160 1 = some 1 := by kernel_rfl
theorem ze_160 : zeroOf Tryd.prog 160 = some (.agg #[.int .u8 0, .int .u8 0]) := by kernel_rfl
theorem ag_161 : aggOf Tryd.prog 161 = some (some 32) := by kernel_rfl
theorem sz_161 : sizeOf' Tryd.prog 161 = some 32 := by kernel_rfl
theorem ar_161 : arrOf Tryd.prog 161 = some (16, 160, 2) := by kernel_rfl
theorem ze_161 : zeroOf Tryd.prog 161 = some (.agg #[.int .u8 0, .int .u8 0, .int .u8 0, .int .u8 0, .int .u8 0, .int .u8 0, .int .u8 0, .int .u8 0, .int .u8 0, .int .u8 0, .int .u8 0, .int .u8 0, .int .u8 0, .int .u8 0, .int .u8 0, .int .u8 0, .int .u8 0, .int .u8 0, .int .u8 0, .int .u8 0, .int .u8 0, .int .u8 0, .int .u8 0, .int .u8 0, .int .u8 0, .int .u8 0, .int .u8 0, .int .u8 0, .int .u8 0, .int .u8 0, .int .u8 0, .int .u8 0]) := by kernel_rfl
theorem ag_165 : aggOf Tryd.prog 165 = some (some 4) := by kernel_rfl
theorem sz_165 : sizeOf' Tryd.prog 165 = some 4 := by kernel_rfl
theorem fl_165 : flatOf Tryd.prog 165 = some 4 := by kernel_rfl
theorem fo_165_0 : fieldOff Tryd.prog 165 0 = some 0 := by kernel_rfl
theorem fo_165_1 : fieldOff Tryd.prog 165 1 = some 1 := by kernel_rfl
theorem fo_165_2 : fieldOff Tryd.prog 165 2 = some 2 := by kernel_rfl
theorem fo_165_3 : fieldOff Tryd.prog 165 3 = some 3 := by kernel_rfl
theorem ze_165 : zeroOf Tryd.prog 165 = some (.agg #[.pointer none, .pointer none, .pointer none, .string (bs [])]) := by kernel_rfl
theorem ag_166 : aggOf Tryd.prog 166 = some (some 4) := by kernel_rfl
theorem sz_166 : sizeOf' Tryd.prog 166 = some 4 := by kernel_rfl
theorem fl_166 : flatOf Tryd.prog 166 = some 4 := by kernel_rfl
theorem fo_166_0 : fieldOff Tryd.prog 166 0 = some 0 := by kernel_rfl
theorem fo_166_1 : fieldOff Tryd.prog 166 1 = some 1 := by kernel_rfl
theorem fo_166_2 : fieldOff Tryd.prog 166 2 = some 2 := by kernel_rfl
theorem fo_166_3 : fieldOff Tryd.prog 166 3 = some 3 := by kernel_rfl
theorem ze_166 : zeroOf Tryd.prog 166 = some (.agg #[.pointer none, .pointer none, .pointer none, .string (bs [])]) := by kernel_rfl
theorem ag_167 : aggOf Tryd.prog 167 = some (some 0) := by kernel_rfl
theorem sz_167 : sizeOf' Tryd.prog 167 = some 0 := by kernel_rfl
theorem ar_167 : arrOf Tryd.prog 167 = some (0, 16, 1) := by kernel_rfl
theorem ze_167 : zeroOf Tryd.prog 167 = some (.agg #[]) := by kernel_rfl
theorem ag_168 : aggOf Tryd.prog 168 = some (some 0) := by kernel_rfl
theorem sz_168 : sizeOf' Tryd.prog 168 = some 0 := by kernel_rfl
theorem ze_168 : zeroOf Tryd.prog 168 = some (.agg #[]) := by kernel_rfl
theorem ag_169 : aggOf Tryd.prog 169 = some (some 0) := by kernel_rfl
theorem sz_169 : sizeOf' Tryd.prog 169 = some 0 := by kernel_rfl
theorem ze_169 : zeroOf Tryd.prog 169 = some (.agg #[]) := by kernel_rfl
theorem ag_170 : aggOf Tryd.prog 170 = some none := by kernel_rfl
theorem sz_170 : sizeOf' Tryd.prog 170 = some 1 := by kernel_rfl
theorem ze_170 : zeroOf Tryd.prog 170 = some (.int .u8 0) := by kernel_rfl
theorem ag_171 : aggOf Tryd.prog 171 = some none := by kernel_rfl
theorem sz_171 : sizeOf' Tryd.prog 171 = some 1 := by kernel_rfl
theorem ze_171 : zeroOf Tryd.prog 171 = some (.int .u8 0) := by kernel_rfl
theorem ag_173 : aggOf Tryd.prog 173 = some none := by kernel_rfl
theorem sz_173 : sizeOf' Tryd.prog 173 = some 1 := by kernel_rfl
theorem ze_173 : zeroOf Tryd.prog 173 = some (.pointer none) := by kernel_rfl
theorem ag_174 : aggOf Tryd.prog 174 = some none := by kernel_rfl
theorem sz_174 : sizeOf' Tryd.prog 174 = some 1 := by kernel_rfl
theorem ze_174 : zeroOf Tryd.prog 174 = some (.int .i32 0) := by kernel_rfl
theorem ag_175 : aggOf Tryd.prog 175 = some none := by kernel_rfl
theorem sz_175 : sizeOf' Tryd.prog 175 = some 1 := by kernel_rfl
theorem ze_175 : zeroOf Tryd.prog 175 = some (.int .i32 0) := by kernel_rfl
theorem ag_176 : aggOf Tryd.prog 176 = some (some 11) := by kernel_rfl
theorem sz_176 : sizeOf' Tryd.prog 176 = some 11 := by kernel_rfl
theorem fl_176 : flatOf Tryd.prog 176 = some 11 := by kernel_rfl
theorem fo_176_0 : fieldOff Tryd.prog 176 0 = some 0 := by kernel_rfl
theorem fo_176_1 : fieldOff Tryd.prog 176 1 = some 1 := by kernel_rfl
theorem fo_176_2 : fieldOff Tryd.prog 176 2 = some 2 := by kernel_rfl
theorem fo_176_3 : fieldOff Tryd.prog 176 3 = some 3 := by kernel_rfl
theorem fo_176_4 : fieldOff Tryd.prog 176 4 = some 4 := by kernel_rfl
theorem fo_176_5 : fieldOff Tryd.prog 176 5 = some 5 := by kernel_rfl
theorem fo_176_6 : fieldOff Tryd.prog 176 6 = some 6 := by kernel_rfl
theorem fo_176_7 : fieldOff Tryd.prog 176 7 = some 7 := by kernel_rfl
theorem fo_176_8 : fieldOff Tryd.prog 176 8 = some 8 := by kernel_rfl
theorem fo_176_9 : fieldOff Tryd.prog 176 9 = some 9 := by kernel_rfl
theorem fo_176_10 : fieldOff Tryd.prog 176 10 = some 10 := by kernel_rfl
theorem ze_176 : zeroOf Tryd.prog 176 = some (.agg #[.int .u64 0, .int .u64 0, .int .u32 0, .int .u8 0, .int .u8 0, .int .u8 0, .int .u8 0, .nilFunc, .pointer none, .int .i32 0, .int .i32 0]) := by kernel_rfl
theorem ag_177 : aggOf Tryd.prog 177 = some (some 11) := by kernel_rfl
theorem sz_177 : sizeOf' Tryd.prog 177 = some 11 := by kernel_rfl
theorem fl_177 : flatOf Tryd.prog 177 = some 11 := by kernel_rfl
theorem fo_177_0 : fieldOff Tryd.prog 177 0 = some 0 := by kernel_rfl
theorem fo_177_1 : fieldOff Tryd.prog 177 1 = some 1 := by kernel_rfl
theorem fo_177_2 : fieldOff Tryd.prog 177 2 = some 2 := by kernel_rfl
theorem fo_177_3 : fieldOff Tryd.prog 177 3 = some 3 := by kernel_rfl
theorem fo_177_4 : fieldOff Tryd.prog 177 4 = some 4 := by kernel_rfl
theorem fo_177_5 : fieldOff Tryd.prog 177 5 = some 5 := by kernel_rfl
theorem fo_177_6 : fieldOff Tryd.prog 177 6 = some 6 := by kernel_rfl
theorem fo_177_7 : fieldOff Tryd.prog 177 7 = some 7 := by kernel_rfl
theorem fo_177_8 : fieldOff Tryd.prog 177 8 = some 8 := by kernel_rfl
theorem fo_177_9 : fieldOff Tryd.prog 177 9 = some 9 := by kernel_rfl
theorem fo_177_10 : fieldOff Tryd.prog 177 10 = some 10 := by kernel_rfl
theorem ze_177 : zeroOf Tryd.prog 177 = some (.agg #[.int .u64 0, .int .u64 0, .int .u32 0, .int .u8 0, .int .u8 0, .int .u8 0, .int .u8 0, .nilFunc, .pointer none, .int .i32 0, .int .i32 0]) := by kernel_rfl
theorem ag_178 : aggOf Tryd.prog 178 = some none := by kernel_rfl
theorem sz_178 : sizeOf' Tryd.prog 178 = some 1 := by kernel_rfl
theorem ze_178 : zeroOf Tryd.prog 178 = some (.pointer none) := by kernel_rfl
end Go.Proofs.YtnnbelmpbmfdnaaDoor

