/- Own work, by program: facts of the tables, each closed. -/
import Derived.Test.YtepncdidkjjllaaSlBuild
import Derived.Test.YtepncdidkjjllaaSlMore
import Derived.Test.YtepncdidkjjllaaRows
import Derived.KernelRfl
namespace Go.Proofs.Ytepncdidkjjllaa
open Go
theorem mixed : Try.prog.follows .mixedOrders = true := by kernel_rfl
theorem ag_2 : aggOf Try.prog 2 = some none := by kernel_rfl
theorem sz_2 : sizeOf' Try.prog 2 = some 1 := by kernel_rfl
theorem ze_2 : zeroOf Try.prog 2 = some (.int .i64 0) := by kernel_rfl
theorem ag_3 : aggOf Try.prog 3 = some none := by kernel_rfl
theorem sz_3 : sizeOf' Try.prog 3 = some 1 := by kernel_rfl
theorem ze_3 : zeroOf Try.prog 3 = some (.int .i64 0) := by kernel_rfl
theorem ag_4 : aggOf Try.prog 4 = some none := by kernel_rfl
theorem sz_4 : sizeOf' Try.prog 4 = some 1 := by kernel_rfl
theorem ze_4 : zeroOf Try.prog 4 = some (.bool false) := by kernel_rfl
theorem ag_5 : aggOf Try.prog 5 = some none := by kernel_rfl
theorem sz_5 : sizeOf' Try.prog 5 = some 1 := by kernel_rfl
theorem ze_5 : zeroOf Try.prog 5 = some (.int .u8 0) := by kernel_rfl
theorem ag_6 : aggOf Try.prog 6 = some none := by kernel_rfl
theorem sz_6 : sizeOf' Try.prog 6 = some 1 := by kernel_rfl
theorem ze_6 : zeroOf Try.prog 6 = some (.int .u8 0) := by kernel_rfl
theorem ag_7 : aggOf Try.prog 7 = some (some 4) := by kernel_rfl
theorem sz_7 : sizeOf' Try.prog 7 = some 4 := by kernel_rfl
theorem fl_7 : flatOf Try.prog 7 = some 4 := by kernel_rfl
theorem fo_7_0 : fieldOff Try.prog 7 0 = some 0 := by kernel_rfl
theorem fo_7_1 : fieldOff Try.prog 7 1 = some 1 := by kernel_rfl
theorem fo_7_2 : fieldOff Try.prog 7 2 = some 2 := by kernel_rfl
theorem fo_7_3 : fieldOff Try.prog 7 3 = some 3 := by kernel_rfl
theorem ze_7 : zeroOf Try.prog 7 = some (.agg #[.int .i64 0, .int .i64 0, .bool false, .int .u8 0]) := by kernel_rfl
theorem ag_8 : aggOf Try.prog 8 = some (some 4) := by kernel_rfl
theorem sz_8 : sizeOf' Try.prog 8 = some 4 := by kernel_rfl
theorem fl_8 : flatOf Try.prog 8 = some 4 := by kernel_rfl
theorem fo_8_0 : fieldOff Try.prog 8 0 = some 0 := by kernel_rfl
theorem fo_8_1 : fieldOff Try.prog 8 1 = some 1 := by kernel_rfl
theorem fo_8_2 : fieldOff Try.prog 8 2 = some 2 := by kernel_rfl
theorem fo_8_3 : fieldOff Try.prog 8 3 = some 3 := by kernel_rfl
theorem ze_8 : zeroOf Try.prog 8 = some (.agg #[.int .i64 0, .int .i64 0, .bool false, .int .u8 0]) := by kernel_rfl
theorem ag_9 : aggOf Try.prog 9 = some none := by kernel_rfl
theorem sz_9 : sizeOf' Try.prog 9 = some 1 := by kernel_rfl
theorem ze_9 : zeroOf Try.prog 9 = some (.string (bs [])) := by kernel_rfl
theorem ag_10 : aggOf Try.prog 10 = some none := by kernel_rfl
theorem sz_10 : sizeOf' Try.prog 10 = some 1 := by kernel_rfl
theorem ze_10 : zeroOf Try.prog 10 = some (.string (bs [])) := by kernel_rfl
theorem ag_11 : aggOf Try.prog 11 = some none := by kernel_rfl
theorem sz_11 : sizeOf' Try.prog 11 = some 1 := by kernel_rfl
theorem ze_11 : zeroOf Try.prog 11 = some (.string (bs [])) := by kernel_rfl
theorem ag_12 : aggOf Try.prog 12 = some none := by kernel_rfl
theorem sz_12 : sizeOf' Try.prog 12 = some 1 := by kernel_rfl
theorem ze_12 : zeroOf Try.prog 12 = some (.int .u64 0) := by kernel_rfl
theorem ag_13 : aggOf Try.prog 13 = some (some 2) := by kernel_rfl
theorem sz_13 : sizeOf' Try.prog 13 = some 2 := by kernel_rfl
theorem fl_13 : flatOf Try.prog 13 = some 2 := by kernel_rfl
theorem fo_13_0 : fieldOff Try.prog 13 0 = some 0 := by kernel_rfl
theorem fo_13_1 : fieldOff Try.prog 13 1 = some 1 := by kernel_rfl
theorem ze_13 : zeroOf Try.prog 13 = some (.agg #[.string (bs []), .int .u64 0]) := by kernel_rfl
theorem ag_14 : aggOf Try.prog 14 = some (some 2) := by kernel_rfl
theorem sz_14 : sizeOf' Try.prog 14 = some 2 := by kernel_rfl
theorem fl_14 : flatOf Try.prog 14 = some 2 := by kernel_rfl
theorem fo_14_0 : fieldOff Try.prog 14 0 = some 0 := by kernel_rfl
theorem fo_14_1 : fieldOff Try.prog 14 1 = some 1 := by kernel_rfl
theorem ze_14 : zeroOf Try.prog 14 = some (.agg #[.string (bs []), .int .u64 0]) := by kernel_rfl
theorem ag_15 : aggOf Try.prog 15 = some none := by kernel_rfl
theorem sz_15 : sizeOf' Try.prog 15 = some 1 := by kernel_rfl
theorem ze_15 : zeroOf Try.prog 15 = some (.pointer none) := by kernel_rfl
theorem ag_16 : aggOf Try.prog 16 = some none := by kernel_rfl
theorem sz_16 : sizeOf' Try.prog 16 = some 1 := by kernel_rfl
theorem ze_16 : zeroOf Try.prog 16 = some (.pointer none) := by kernel_rfl
theorem ag_17 : aggOf Try.prog 17 = some none := by kernel_rfl
theorem sz_17 : sizeOf' Try.prog 17 = some 1 := by kernel_rfl
theorem ze_17 : zeroOf Try.prog 17 = some (.pointer none) := by kernel_rfl
theorem ag_18 : aggOf Try.prog 18 = some (some 1) := by kernel_rfl
theorem sz_18 : sizeOf' Try.prog 18 = some 1 := by kernel_rfl
theorem fl_18 : flatOf Try.prog 18 = some 1 := by kernel_rfl
theorem fo_18_0 : fieldOff Try.prog 18 0 = some 0 := by kernel_rfl
theorem ze_18 : zeroOf Try.prog 18 = some (.agg #[.pointer none]) := by kernel_rfl
theorem ag_19 : aggOf Try.prog 19 = some (some 1) := by kernel_rfl
theorem sz_19 : sizeOf' Try.prog 19 = some 1 := by kernel_rfl
theorem fl_19 : flatOf Try.prog 19 = some 1 := by kernel_rfl
theorem fo_19_0 : fieldOff Try.prog 19 0 = some 0 := by kernel_rfl
theorem ze_19 : zeroOf Try.prog 19 = some (.agg #[.pointer none]) := by kernel_rfl
theorem ag_21 : aggOf Try.prog 21 = some none := by kernel_rfl
theorem sz_21 : sizeOf' Try.prog 21 = some 1 := by kernel_rfl
theorem ze_21 : zeroOf Try.prog 21 = some (.int .i32 0) := by kernel_rfl
theorem ag_22 : aggOf Try.prog 22 = some none := by kernel_rfl
theorem sz_22 : sizeOf' Try.prog 22 = some 1 := by kernel_rfl
theorem el_22 : elemOf' Try.prog 22 = some (9, 1, 16) := by kernel_rfl
theorem ze_22 : zeroOf Try.prog 22 = some (.slice none 0 0) := by kernel_rfl
theorem ag_24 : aggOf Try.prog 24 = some none := by kernel_rfl
theorem sz_24 : sizeOf' Try.prog 24 = some 1 := by kernel_rfl
theorem ze_24 : zeroOf Try.prog 24 = some (.pointer none) := by kernel_rfl
theorem ag_25 : aggOf Try.prog 25 = some none := by kernel_rfl
theorem sz_25 : sizeOf' Try.prog 25 = some 1 := by kernel_rfl
theorem ze_25 : zeroOf Try.prog 25 = some (.int .i64 0) := by kernel_rfl
theorem ag_28 : aggOf Try.prog 28 = some none := by kernel_rfl
theorem sz_28 : sizeOf' Try.prog 28 = some 1 := by kernel_rfl
theorem ze_28 : zeroOf Try.prog 28 = some (.pointer none) := by kernel_rfl
theorem ag_31 : aggOf Try.prog 31 = some none := by kernel_rfl
theorem sz_31 : sizeOf' Try.prog 31 = some 1 := by kernel_rfl
theorem el_31 : elemOf' Try.prog 31 = some (5, 1, 1) := by kernel_rfl
theorem ze_31 : zeroOf Try.prog 31 = some (.slice none 0 0) := by kernel_rfl
theorem ag_33 : aggOf Try.prog 33 = some none := by kernel_rfl
theorem sz_33 : sizeOf' Try.prog 33 = some 1 := by kernel_rfl
theorem ze_33 : zeroOf Try.prog 33 = some (.pointer none) := by kernel_rfl
theorem ag_34 : aggOf Try.prog 34 = some none := by kernel_rfl
theorem sz_34 : sizeOf' Try.prog 34 = some 1 := by kernel_rfl
theorem ze_34 : zeroOf Try.prog 34 = some (.pointer none) := by kernel_rfl
theorem ag_35 : aggOf Try.prog 35 = some none := by kernel_rfl
theorem sz_35 : sizeOf' Try.prog 35 = some 1 := by kernel_rfl
theorem ze_35 : zeroOf Try.prog 35 = some (.pointer none) := by kernel_rfl
theorem ag_36 : aggOf Try.prog 36 = some (some 4) := by kernel_rfl
theorem sz_36 : sizeOf' Try.prog 36 = some 4 := by kernel_rfl
theorem fl_36 : flatOf Try.prog 36 = some 4 := by kernel_rfl
theorem fo_36_0 : fieldOff Try.prog 36 0 = some 0 := by kernel_rfl
theorem fo_36_1 : fieldOff Try.prog 36 1 = some 1 := by kernel_rfl
theorem fo_36_2 : fieldOff Try.prog 36 2 = some 2 := by kernel_rfl
theorem fo_36_3 : fieldOff Try.prog 36 3 = some 3 := by kernel_rfl
theorem ze_36 : zeroOf Try.prog 36 = some (.agg #[.pointer none, .pointer none, .pointer none, .pointer none]) := by kernel_rfl
theorem ag_37 : aggOf Try.prog 37 = some (some 4) := by kernel_rfl
theorem sz_37 : sizeOf' Try.prog 37 = some 4 := by kernel_rfl
theorem fl_37 : flatOf Try.prog 37 = some 4 := by kernel_rfl
theorem fo_37_0 : fieldOff Try.prog 37 0 = some 0 := by kernel_rfl
theorem fo_37_1 : fieldOff Try.prog 37 1 = some 1 := by kernel_rfl
theorem fo_37_2 : fieldOff Try.prog 37 2 = some 2 := by kernel_rfl
theorem fo_37_3 : fieldOff Try.prog 37 3 = some 3 := by kernel_rfl
theorem ze_37 : zeroOf Try.prog 37 = some (.agg #[.pointer none, .pointer none, .pointer none, .pointer none]) := by kernel_rfl
theorem ag_40 : aggOf Try.prog 40 = some none := by kernel_rfl
theorem sz_40 : sizeOf' Try.prog 40 = some 1 := by kernel_rfl
theorem el_40 : elemOf' Try.prog 40 = some (3, 1, 8) := by kernel_rfl
theorem ze_40 : zeroOf Try.prog 40 = some (.slice none 0 0) := by kernel_rfl
theorem ag_41 : aggOf Try.prog 41 = some (some 5) := by kernel_rfl
theorem sz_41 : sizeOf' Try.prog 41 = some 5 := by kernel_rfl
theorem fl_41 : flatOf Try.prog 41 = some 5 := by kernel_rfl
theorem fo_41_0 : fieldOff Try.prog 41 0 = some 0 := by kernel_rfl
theorem fo_41_1 : fieldOff Try.prog 41 1 = some 1 := by kernel_rfl
theorem fo_41_2 : fieldOff Try.prog 41 2 = some 2 := by kernel_rfl
theorem fo_41_3 : fieldOff Try.prog 41 3 = some 3 := by kernel_rfl
theorem fo_41_4 : fieldOff Try.prog 41 4 = some 4 := by kernel_rfl
theorem ze_41 : zeroOf Try.prog 41 = some (.agg #[.int .i64 0, .int .i64 0, .int .i64 0, .slice none 0 0, .slice none 0 0]) := by kernel_rfl
theorem ag_42 : aggOf Try.prog 42 = some (some 5) := by kernel_rfl
theorem sz_42 : sizeOf' Try.prog 42 = some 5 := by kernel_rfl
theorem fl_42 : flatOf Try.prog 42 = some 5 := by kernel_rfl
theorem fo_42_0 : fieldOff Try.prog 42 0 = some 0 := by kernel_rfl
theorem fo_42_1 : fieldOff Try.prog 42 1 = some 1 := by kernel_rfl
theorem fo_42_2 : fieldOff Try.prog 42 2 = some 2 := by kernel_rfl
theorem fo_42_3 : fieldOff Try.prog 42 3 = some 3 := by kernel_rfl
theorem fo_42_4 : fieldOff Try.prog 42 4 = some 4 := by kernel_rfl
theorem ze_42 : zeroOf Try.prog 42 = some (.agg #[.int .i64 0, .int .i64 0, .int .i64 0, .slice none 0 0, .slice none 0 0]) := by kernel_rfl
theorem ag_45 : aggOf Try.prog 45 = some none := by kernel_rfl
theorem sz_45 : sizeOf' Try.prog 45 = some 1 := by kernel_rfl
theorem el_45 : elemOf' Try.prog 45 = some (42, 5, 72) := by kernel_rfl
theorem ze_45 : zeroOf Try.prog 45 = some (.slice none 0 0) := by kernel_rfl
theorem ag_53 : aggOf Try.prog 53 = some (some 3) := by kernel_rfl
theorem sz_53 : sizeOf' Try.prog 53 = some 3 := by kernel_rfl
theorem fl_53 : flatOf Try.prog 53 = some 3 := by kernel_rfl
theorem fo_53_0 : fieldOff Try.prog 53 0 = some 0 := by kernel_rfl
theorem fo_53_1 : fieldOff Try.prog 53 1 = some 1 := by kernel_rfl
theorem fo_53_2 : fieldOff Try.prog 53 2 = some 2 := by kernel_rfl
theorem ze_53 : zeroOf Try.prog 53 = some (.agg #[.slice none 0 0, .int .i64 0, .int .i64 0]) := by kernel_rfl
theorem ag_54 : aggOf Try.prog 54 = some (some 3) := by kernel_rfl
theorem sz_54 : sizeOf' Try.prog 54 = some 3 := by kernel_rfl
theorem fl_54 : flatOf Try.prog 54 = some 3 := by kernel_rfl
theorem fo_54_0 : fieldOff Try.prog 54 0 = some 0 := by kernel_rfl
theorem fo_54_1 : fieldOff Try.prog 54 1 = some 1 := by kernel_rfl
theorem fo_54_2 : fieldOff Try.prog 54 2 = some 2 := by kernel_rfl
theorem ze_54 : zeroOf Try.prog 54 = some (.agg #[.slice none 0 0, .int .i64 0, .int .i64 0]) := by kernel_rfl
theorem ag_58 : aggOf Try.prog 58 = some none := by kernel_rfl
theorem sz_58 : sizeOf' Try.prog 58 = some 1 := by kernel_rfl
theorem el_58 : elemOf' Try.prog 58 = some (62, 4, 32) := by kernel_rfl
theorem ze_58 : zeroOf Try.prog 58 = some (.slice none 0 0) := by kernel_rfl
theorem ag_59 : aggOf Try.prog 59 = some none := by kernel_rfl
theorem sz_59 : sizeOf' Try.prog 59 = some 1 := by kernel_rfl
theorem ze_59 : zeroOf Try.prog 59 = some (.pointer none) := by kernel_rfl
theorem ag_61 : aggOf Try.prog 61 = some (some 4) := by kernel_rfl
theorem sz_61 : sizeOf' Try.prog 61 = some 4 := by kernel_rfl
theorem fl_61 : flatOf Try.prog 61 = some 4 := by kernel_rfl
theorem fo_61_0 : fieldOff Try.prog 61 0 = some 0 := by kernel_rfl
theorem fo_61_1 : fieldOff Try.prog 61 1 = some 1 := by kernel_rfl
theorem fo_61_2 : fieldOff Try.prog 61 2 = some 2 := by kernel_rfl
theorem fo_61_3 : fieldOff Try.prog 61 3 = some 3 := by kernel_rfl
theorem ze_61 : zeroOf Try.prog 61 = some (.agg #[.int .i64 0, .int .i64 0, .int .i64 0, .int .i64 0]) := by kernel_rfl
theorem ag_62 : aggOf Try.prog 62 = some (some 4) := by kernel_rfl
theorem sz_62 : sizeOf' Try.prog 62 = some 4 := by kernel_rfl
theorem fl_62 : flatOf Try.prog 62 = some 4 := by kernel_rfl
theorem fo_62_0 : fieldOff Try.prog 62 0 = some 0 := by kernel_rfl
theorem fo_62_1 : fieldOff Try.prog 62 1 = some 1 := by kernel_rfl
theorem fo_62_2 : fieldOff Try.prog 62 2 = some 2 := by kernel_rfl
theorem fo_62_3 : fieldOff Try.prog 62 3 = some 3 := by kernel_rfl
theorem ze_62 : zeroOf Try.prog 62 = some (.agg #[.int .i64 0, .int .i64 0, .int .i64 0, .int .i64 0]) := by kernel_rfl
theorem ag_69 : aggOf Try.prog 69 = some none := by kernel_rfl
theorem sz_69 : sizeOf' Try.prog 69 = some 1 := by kernel_rfl
theorem el_69 : elemOf' Try.prog 69 = some (59, 1, 8) := by kernel_rfl
theorem ze_69 : zeroOf Try.prog 69 = some (.slice none 0 0) := by kernel_rfl
theorem ag_70 : aggOf Try.prog 70 = some none := by kernel_rfl
theorem sz_70 : sizeOf' Try.prog 70 = some 1 := by kernel_rfl
theorem ze_70 : zeroOf Try.prog 70 = some (.pointer none) := by kernel_rfl
theorem ag_72 : aggOf Try.prog 72 = some none := by kernel_rfl
theorem sz_72 : sizeOf' Try.prog 72 = some 1 := by kernel_rfl
theorem el_72 : elemOf' Try.prog 72 = some (70, 1, 8) := by kernel_rfl
theorem ze_72 : zeroOf Try.prog 72 = some (.slice none 0 0) := by kernel_rfl
theorem ag_83 : aggOf Try.prog 83 = some none := by kernel_rfl
theorem sz_83 : sizeOf' Try.prog 83 = some 1 := by kernel_rfl
theorem el_83 : elemOf' Try.prog 83 = some (4, 1, 1) := by kernel_rfl
theorem ze_83 : zeroOf Try.prog 83 = some (.slice none 0 0) := by kernel_rfl
theorem ag_85 : aggOf Try.prog 85 = some none := by kernel_rfl
theorem sz_85 : sizeOf' Try.prog 85 = some 1 := by kernel_rfl
theorem el_85 : elemOf' Try.prog 85 = some (87, 6, 56) := by kernel_rfl
theorem ze_85 : zeroOf Try.prog 85 = some (.slice none 0 0) := by kernel_rfl
theorem ag_86 : aggOf Try.prog 86 = some (some 6) := by kernel_rfl
theorem sz_86 : sizeOf' Try.prog 86 = some 6 := by kernel_rfl
theorem fl_86 : flatOf Try.prog 86 = some 6 := by kernel_rfl
theorem fo_86_0 : fieldOff Try.prog 86 0 = some 0 := by kernel_rfl
theorem fo_86_1 : fieldOff Try.prog 86 1 = some 1 := by kernel_rfl
theorem fo_86_2 : fieldOff Try.prog 86 2 = some 2 := by kernel_rfl
theorem fo_86_3 : fieldOff Try.prog 86 3 = some 3 := by kernel_rfl
theorem fo_86_4 : fieldOff Try.prog 86 4 = some 4 := by kernel_rfl
theorem fo_86_5 : fieldOff Try.prog 86 5 = some 5 := by kernel_rfl
theorem ze_86 : zeroOf Try.prog 86 = some (.agg #[.int .i64 0, .int .i64 0, .int .i64 0, .bool false, .bool false, .slice none 0 0]) := by kernel_rfl
theorem ag_87 : aggOf Try.prog 87 = some (some 6) := by kernel_rfl
theorem sz_87 : sizeOf' Try.prog 87 = some 6 := by kernel_rfl
theorem fl_87 : flatOf Try.prog 87 = some 6 := by kernel_rfl
theorem fo_87_0 : fieldOff Try.prog 87 0 = some 0 := by kernel_rfl
theorem fo_87_1 : fieldOff Try.prog 87 1 = some 1 := by kernel_rfl
theorem fo_87_2 : fieldOff Try.prog 87 2 = some 2 := by kernel_rfl
theorem fo_87_3 : fieldOff Try.prog 87 3 = some 3 := by kernel_rfl
theorem fo_87_4 : fieldOff Try.prog 87 4 = some 4 := by kernel_rfl
theorem fo_87_5 : fieldOff Try.prog 87 5 = some 5 := by kernel_rfl
theorem ze_87 : zeroOf Try.prog 87 = some (.agg #[.int .i64 0, .int .i64 0, .int .i64 0, .bool false, .bool false, .slice none 0 0]) := by kernel_rfl
theorem ag_97 : aggOf Try.prog 97 = some none := by kernel_rfl
theorem sz_97 : sizeOf' Try.prog 97 = some 1 := by kernel_rfl
theorem el_97 : elemOf' Try.prog 97 = some (106, 64, 64) := by kernel_rfl
theorem ze_97 : zeroOf Try.prog 97 = some (.slice none 0 0) := by kernel_rfl
theorem ag_98 : aggOf Try.prog 98 = some none := by kernel_rfl
theorem sz_98 : sizeOf' Try.prog 98 = some 1 := by kernel_rfl
theorem ze_98 : zeroOf Try.prog 98 = some (.map none) := by kernel_rfl
theorem ag_99 : aggOf Try.prog 99 = some (some 5) := by kernel_rfl
theorem sz_99 : sizeOf' Try.prog 99 = some 5 := by kernel_rfl
theorem fl_99 : flatOf Try.prog 99 = some 5 := by kernel_rfl
theorem fo_99_0 : fieldOff Try.prog 99 0 = some 0 := by kernel_rfl
theorem fo_99_1 : fieldOff Try.prog 99 1 = some 1 := by kernel_rfl
theorem fo_99_2 : fieldOff Try.prog 99 2 = some 2 := by kernel_rfl
theorem fo_99_3 : fieldOff Try.prog 99 3 = some 3 := by kernel_rfl
theorem fo_99_4 : fieldOff Try.prog 99 4 = some 4 := by kernel_rfl
theorem ze_99 : zeroOf Try.prog 99 = some (.agg #[.slice none 0 0, .map none, .int .i64 0, .int .i64 0, .bool false]) := by kernel_rfl
theorem ag_100 : aggOf Try.prog 100 = some (some 5) := by kernel_rfl
theorem sz_100 : sizeOf' Try.prog 100 = some 5 := by kernel_rfl
theorem fl_100 : flatOf Try.prog 100 = some 5 := by kernel_rfl
theorem fo_100_0 : fieldOff Try.prog 100 0 = some 0 := by kernel_rfl
theorem fo_100_1 : fieldOff Try.prog 100 1 = some 1 := by kernel_rfl
theorem fo_100_2 : fieldOff Try.prog 100 2 = some 2 := by kernel_rfl
theorem fo_100_3 : fieldOff Try.prog 100 3 = some 3 := by kernel_rfl
theorem fo_100_4 : fieldOff Try.prog 100 4 = some 4 := by kernel_rfl
theorem ze_100 : zeroOf Try.prog 100 = some (.agg #[.slice none 0 0, .map none, .int .i64 0, .int .i64 0, .bool false]) := by kernel_rfl
theorem ag_101 : aggOf Try.prog 101 = some (some 6) := by kernel_rfl
theorem sz_101 : sizeOf' Try.prog 101 = some 6 := by kernel_rfl
theorem fl_101 : flatOf Try.prog 101 = some 6 := by kernel_rfl
theorem fo_101_0 : fieldOff Try.prog 101 0 = some 0 := by kernel_rfl
theorem fo_101_1 : fieldOff Try.prog 101 1 = some 1 := by kernel_rfl
theorem fo_101_2 : fieldOff Try.prog 101 2 = some 2 := by kernel_rfl
theorem fo_101_3 : fieldOff Try.prog 101 3 = some 3 := by kernel_rfl
theorem fo_101_4 : fieldOff Try.prog 101 4 = some 4 := by kernel_rfl
theorem fo_101_5 : fieldOff Try.prog 101 5 = some 5 := by kernel_rfl
theorem ze_101 : zeroOf Try.prog 101 = some (.agg #[.slice none 0 0, .slice none 0 0, .slice none 0 0, .int .i64 0, .int .i64 0, .bool false]) := by kernel_rfl
theorem ag_102 : aggOf Try.prog 102 = some (some 6) := by kernel_rfl
theorem sz_102 : sizeOf' Try.prog 102 = some 6 := by kernel_rfl
theorem fl_102 : flatOf Try.prog 102 = some 6 := by kernel_rfl
theorem fo_102_0 : fieldOff Try.prog 102 0 = some 0 := by kernel_rfl
theorem fo_102_1 : fieldOff Try.prog 102 1 = some 1 := by kernel_rfl
theorem fo_102_2 : fieldOff Try.prog 102 2 = some 2 := by kernel_rfl
theorem fo_102_3 : fieldOff Try.prog 102 3 = some 3 := by kernel_rfl
theorem fo_102_4 : fieldOff Try.prog 102 4 = some 4 := by kernel_rfl
theorem fo_102_5 : fieldOff Try.prog 102 5 = some 5 := by kernel_rfl
theorem ze_102 : zeroOf Try.prog 102 = some (.agg #[.slice none 0 0, .slice none 0 0, .slice none 0 0, .int .i64 0, .int .i64 0, .bool false]) := by kernel_rfl
theorem ag_105 : aggOf Try.prog 105 = some (some 64) := by kernel_rfl
theorem sz_105 : sizeOf' Try.prog 105 = some 64 := by kernel_rfl
theorem ar_105 : arrOf Try.prog 105 = some (64, 5, 1) := by kernel_rfl
theorem ze_105 : zeroOf Try.prog 105 = some (.agg #[.int .u8 0, .int .u8 0, .int .u8 0, .int .u8 0, .int .u8 0, .int .u8 0, .int .u8 0, .int .u8 0, .int .u8 0, .int .u8 0, .int .u8 0, .int .u8 0, .int .u8 0, .int .u8 0, .int .u8 0, .int .u8 0, .int .u8 0, .int .u8 0, .int .u8 0, .int .u8 0, .int .u8 0, .int .u8 0, .int .u8 0, .int .u8 0, .int .u8 0, .int .u8 0, .int .u8 0, .int .u8 0, .int .u8 0, .int .u8 0, .int .u8 0, .int .u8 0, .int .u8 0, .int .u8 0, .int .u8 0, .int .u8 0, .int .u8 0, .int .u8 0, .int .u8 0, .int .u8 0, .int .u8 0, .int .u8 0, .int .u8 0, .int .u8 0, .int .u8 0, .int .u8 0, .int .u8 0, .int .u8 0, .int .u8 0, .int .u8 0, .int .u8 0, .int .u8 0, .int .u8 0, .int .u8 0, .int .u8 0, .int .u8 0, .int .u8 0, .int .u8 0, .int .u8 0, .int .u8 0, .int .u8 0, .int .u8 0, .int .u8 0, .int .u8 0]) := by kernel_rfl
theorem ag_106 : aggOf Try.prog 106 = some (some 64) := by kernel_rfl
theorem sz_106 : sizeOf' Try.prog 106 = some 64 := by kernel_rfl
theorem ar_106 : arrOf Try.prog 106 = some (64, 5, 1) := by kernel_rfl
theorem ze_106 : zeroOf Try.prog 106 = some (.agg #[.int .u8 0, .int .u8 0, .int .u8 0, .int .u8 0, .int .u8 0, .int .u8 0, .int .u8 0, .int .u8 0, .int .u8 0, .int .u8 0, .int .u8 0, .int .u8 0, .int .u8 0, .int .u8 0, .int .u8 0, .int .u8 0, .int .u8 0, .int .u8 0, .int .u8 0, .int .u8 0, .int .u8 0, .int .u8 0, .int .u8 0, .int .u8 0, .int .u8 0, .int .u8 0, .int .u8 0, .int .u8 0, .int .u8 0, .int .u8 0, .int .u8 0, .int .u8 0, .int .u8 0, .int .u8 0, .int .u8 0, .int .u8 0, .int .u8 0, .int .u8 0, .int .u8 0, .int .u8 0, .int .u8 0, .int .u8 0, .int .u8 0, .int .u8 0, .int .u8 0, .int .u8 0, .int .u8 0, .int .u8 0, .int .u8 0, .int .u8 0, .int .u8 0, .int .u8 0, .int .u8 0, .int .u8 0, .int .u8 0, .int .u8 0, .int .u8 0, .int .u8 0, .int .u8 0, .int .u8 0, .int .u8 0, .int .u8 0, .int .u8 0, .int .u8 0]) := by kernel_rfl
theorem ag_112 : aggOf Try.prog 112 = some (some 8) := by kernel_rfl
theorem sz_112 : sizeOf' Try.prog 112 = some 8 := by kernel_rfl
theorem fl_112 : flatOf Try.prog 112 = some 8 := by kernel_rfl
theorem fo_112_0 : fieldOff Try.prog 112 0 = some 0 := by kernel_rfl
theorem fo_112_1 : fieldOff Try.prog 112 1 = some 1 := by kernel_rfl
theorem fo_112_2 : fieldOff Try.prog 112 2 = some 2 := by kernel_rfl
theorem fo_112_3 : fieldOff Try.prog 112 3 = some 3 := by kernel_rfl
theorem fo_112_4 : fieldOff Try.prog 112 4 = some 4 := by kernel_rfl
theorem fo_112_5 : fieldOff Try.prog 112 5 = some 5 := by kernel_rfl
theorem fo_112_6 : fieldOff Try.prog 112 6 = some 6 := by kernel_rfl
theorem fo_112_7 : fieldOff Try.prog 112 7 = some 7 := by kernel_rfl
theorem ze_112 : zeroOf Try.prog 112 = some (.agg #[.pointer none, .slice none 0 0, .int .i64 0, .int .i64 0, .int .i64 0, .int .i64 0, .int .i64 0, .bool false]) := by kernel_rfl
theorem ag_113 : aggOf Try.prog 113 = some (some 8) := by kernel_rfl
theorem sz_113 : sizeOf' Try.prog 113 = some 8 := by kernel_rfl
theorem fl_113 : flatOf Try.prog 113 = some 8 := by kernel_rfl
theorem fo_113_0 : fieldOff Try.prog 113 0 = some 0 := by kernel_rfl
theorem fo_113_1 : fieldOff Try.prog 113 1 = some 1 := by kernel_rfl
theorem fo_113_2 : fieldOff Try.prog 113 2 = some 2 := by kernel_rfl
theorem fo_113_3 : fieldOff Try.prog 113 3 = some 3 := by kernel_rfl
theorem fo_113_4 : fieldOff Try.prog 113 4 = some 4 := by kernel_rfl
theorem fo_113_5 : fieldOff Try.prog 113 5 = some 5 := by kernel_rfl
theorem fo_113_6 : fieldOff Try.prog 113 6 = some 6 := by kernel_rfl
theorem fo_113_7 : fieldOff Try.prog 113 7 = some 7 := by kernel_rfl
theorem ze_113 : zeroOf Try.prog 113 = some (.agg #[.pointer none, .slice none 0 0, .int .i64 0, .int .i64 0, .int .i64 0, .int .i64 0, .int .i64 0, .bool false]) := by kernel_rfl
theorem ag_114 : aggOf Try.prog 114 = some (some 6) := by kernel_rfl
theorem sz_114 : sizeOf' Try.prog 114 = some 6 := by kernel_rfl
theorem fl_114 : flatOf Try.prog 114 = some 6 := by kernel_rfl
theorem fo_114_0 : fieldOff Try.prog 114 0 = some 0 := by kernel_rfl
theorem fo_114_1 : fieldOff Try.prog 114 1 = some 1 := by kernel_rfl
theorem fo_114_2 : fieldOff Try.prog 114 2 = some 2 := by kernel_rfl
theorem fo_114_3 : fieldOff Try.prog 114 3 = some 3 := by kernel_rfl
theorem fo_114_4 : fieldOff Try.prog 114 4 = some 4 := by kernel_rfl
theorem fo_114_5 : fieldOff Try.prog 114 5 = some 5 := by kernel_rfl
theorem ze_114 : zeroOf Try.prog 114 = some (.agg #[.int .i64 0, .int .i64 0, .int .i64 0, .int .i64 0, .int .i64 0, .int .i64 0]) := by kernel_rfl
theorem ag_115 : aggOf Try.prog 115 = some (some 6) := by kernel_rfl
theorem sz_115 : sizeOf' Try.prog 115 = some 6 := by kernel_rfl
theorem fl_115 : flatOf Try.prog 115 = some 6 := by kernel_rfl
theorem fo_115_0 : fieldOff Try.prog 115 0 = some 0 := by kernel_rfl
theorem fo_115_1 : fieldOff Try.prog 115 1 = some 1 := by kernel_rfl
theorem fo_115_2 : fieldOff Try.prog 115 2 = some 2 := by kernel_rfl
theorem fo_115_3 : fieldOff Try.prog 115 3 = some 3 := by kernel_rfl
theorem fo_115_4 : fieldOff Try.prog 115 4 = some 4 := by kernel_rfl
theorem fo_115_5 : fieldOff Try.prog 115 5 = some 5 := by kernel_rfl
theorem ze_115 : zeroOf Try.prog 115 = some (.agg #[.int .i64 0, .int .i64 0, .int .i64 0, .int .i64 0, .int .i64 0, .int .i64 0]) := by kernel_rfl
theorem ag_116 : aggOf Try.prog 116 = some none := by kernel_rfl
theorem sz_116 : sizeOf' Try.prog 116 = some 1 := by kernel_rfl
theorem el_116 : elemOf' Try.prog 116 = some (52, 1, 8) := by kernel_rfl
theorem ze_116 : zeroOf Try.prog 116 = some (.slice none 0 0) := by kernel_rfl
theorem ag_117 : aggOf Try.prog 117 = some (some 9) := by kernel_rfl
theorem sz_117 : sizeOf' Try.prog 117 = some 9 := by kernel_rfl
theorem fl_117 : flatOf Try.prog 117 = some 9 := by kernel_rfl
theorem fo_117_0 : fieldOff Try.prog 117 0 = some 0 := by kernel_rfl
theorem fo_117_1 : fieldOff Try.prog 117 1 = some 1 := by kernel_rfl
theorem fo_117_2 : fieldOff Try.prog 117 2 = some 2 := by kernel_rfl
theorem fo_117_3 : fieldOff Try.prog 117 3 = some 3 := by kernel_rfl
theorem fo_117_4 : fieldOff Try.prog 117 4 = some 4 := by kernel_rfl
theorem fo_117_5 : fieldOff Try.prog 117 5 = some 5 := by kernel_rfl
theorem fo_117_6 : fieldOff Try.prog 117 6 = some 6 := by kernel_rfl
theorem fo_117_7 : fieldOff Try.prog 117 7 = some 7 := by kernel_rfl
theorem fo_117_8 : fieldOff Try.prog 117 8 = some 8 := by kernel_rfl
theorem ze_117 : zeroOf Try.prog 117 = some (.agg #[.pointer none, .slice none 0 0, .int .i64 0, .slice none 0 0, .int .i64 0, .int .i64 0, .int .i64 0, .int .i64 0, .bool false]) := by kernel_rfl
theorem ag_118 : aggOf Try.prog 118 = some (some 9) := by kernel_rfl
theorem sz_118 : sizeOf' Try.prog 118 = some 9 := by kernel_rfl
theorem fl_118 : flatOf Try.prog 118 = some 9 := by kernel_rfl
theorem fo_118_0 : fieldOff Try.prog 118 0 = some 0 := by kernel_rfl
theorem fo_118_1 : fieldOff Try.prog 118 1 = some 1 := by kernel_rfl
theorem fo_118_2 : fieldOff Try.prog 118 2 = some 2 := by kernel_rfl
theorem fo_118_3 : fieldOff Try.prog 118 3 = some 3 := by kernel_rfl
theorem fo_118_4 : fieldOff Try.prog 118 4 = some 4 := by kernel_rfl
theorem fo_118_5 : fieldOff Try.prog 118 5 = some 5 := by kernel_rfl
theorem fo_118_6 : fieldOff Try.prog 118 6 = some 6 := by kernel_rfl
theorem fo_118_7 : fieldOff Try.prog 118 7 = some 7 := by kernel_rfl
theorem fo_118_8 : fieldOff Try.prog 118 8 = some 8 := by kernel_rfl
theorem ze_118 : zeroOf Try.prog 118 = some (.agg #[.pointer none, .slice none 0 0, .int .i64 0, .slice none 0 0, .int .i64 0, .int .i64 0, .int .i64 0, .int .i64 0, .bool false]) := by kernel_rfl
theorem ag_124 : aggOf Try.prog 124 = some none := by kernel_rfl
theorem sz_124 : sizeOf' Try.prog 124 = some 1 := by kernel_rfl
theorem ze_124 : zeroOf Try.prog 124 = some (.pointer none) := by kernel_rfl
theorem ag_133 : aggOf Try.prog 133 = some none := by kernel_rfl
theorem sz_133 : sizeOf' Try.prog 133 = some 1 := by kernel_rfl
theorem ze_133 : zeroOf Try.prog 133 = some (.map none) := by kernel_rfl
theorem ag_134 : aggOf Try.prog 134 = some none := by kernel_rfl
theorem sz_134 : sizeOf' Try.prog 134 = some 1 := by kernel_rfl
theorem ze_134 : zeroOf Try.prog 134 = some (.map none) := by kernel_rfl
theorem ag_135 : aggOf Try.prog 135 = some (some 2) := by kernel_rfl
theorem sz_135 : sizeOf' Try.prog 135 = some 2 := by kernel_rfl
theorem fl_135 : flatOf Try.prog 135 = some 2 := by kernel_rfl
theorem fo_135_0 : fieldOff Try.prog 135 0 = some 0 := by kernel_rfl
theorem fo_135_1 : fieldOff Try.prog 135 1 = some 1 := by kernel_rfl
theorem ze_135 : zeroOf Try.prog 135 = some (.agg #[.map none, .map none]) := by kernel_rfl
theorem ag_136 : aggOf Try.prog 136 = some (some 2) := by kernel_rfl
theorem sz_136 : sizeOf' Try.prog 136 = some 2 := by kernel_rfl
theorem fl_136 : flatOf Try.prog 136 = some 2 := by kernel_rfl
theorem fo_136_0 : fieldOff Try.prog 136 0 = some 0 := by kernel_rfl
theorem fo_136_1 : fieldOff Try.prog 136 1 = some 1 := by kernel_rfl
theorem ze_136 : zeroOf Try.prog 136 = some (.agg #[.map none, .map none]) := by kernel_rfl
theorem ag_137 : aggOf Try.prog 137 = some (some 2) := by kernel_rfl
theorem sz_137 : sizeOf' Try.prog 137 = some 2 := by kernel_rfl
theorem fl_137 : flatOf Try.prog 137 = some 2 := by kernel_rfl
theorem fo_137_0 : fieldOff Try.prog 137 0 = some 0 := by kernel_rfl
theorem fo_137_1 : fieldOff Try.prog 137 1 = some 1 := by kernel_rfl
theorem ze_137 : zeroOf Try.prog 137 = some (.agg #[.int .i64 0, .int .i64 0]) := by kernel_rfl
theorem ag_138 : aggOf Try.prog 138 = some (some 2) := by kernel_rfl
theorem sz_138 : sizeOf' Try.prog 138 = some 2 := by kernel_rfl
theorem fl_138 : flatOf Try.prog 138 = some 2 := by kernel_rfl
theorem fo_138_0 : fieldOff Try.prog 138 0 = some 0 := by kernel_rfl
theorem fo_138_1 : fieldOff Try.prog 138 1 = some 1 := by kernel_rfl
theorem ze_138 : zeroOf Try.prog 138 = some (.agg #[.int .i64 0, .int .i64 0]) := by kernel_rfl
theorem ag_142 : aggOf Try.prog 142 = some none := by kernel_rfl
theorem sz_142 : sizeOf' Try.prog 142 = some 1 := by kernel_rfl
theorem el_142 : elemOf' Try.prog 142 = some (147, 3, 24) := by kernel_rfl
theorem ze_142 : zeroOf Try.prog 142 = some (.slice none 0 0) := by kernel_rfl
theorem ag_143 : aggOf Try.prog 143 = some (some 1) := by kernel_rfl
theorem sz_143 : sizeOf' Try.prog 143 = some 1 := by kernel_rfl
theorem fl_143 : flatOf Try.prog 143 = some 1 := by kernel_rfl
theorem fo_143_0 : fieldOff Try.prog 143 0 = some 0 := by kernel_rfl
theorem ze_143 : zeroOf Try.prog 143 = some (.agg #[.slice none 0 0]) := by kernel_rfl
theorem ag_144 : aggOf Try.prog 144 = some (some 1) := by kernel_rfl
theorem sz_144 : sizeOf' Try.prog 144 = some 1 := by kernel_rfl
theorem fl_144 : flatOf Try.prog 144 = some 1 := by kernel_rfl
theorem fo_144_0 : fieldOff Try.prog 144 0 = some 0 := by kernel_rfl
theorem ze_144 : zeroOf Try.prog 144 = some (.agg #[.slice none 0 0]) := by kernel_rfl
theorem ag_146 : aggOf Try.prog 146 = some (some 3) := by kernel_rfl
theorem sz_146 : sizeOf' Try.prog 146 = some 3 := by kernel_rfl
theorem fl_146 : flatOf Try.prog 146 = some 3 := by kernel_rfl
theorem fo_146_0 : fieldOff Try.prog 146 0 = some 0 := by kernel_rfl
theorem fo_146_1 : fieldOff Try.prog 146 1 = some 1 := by kernel_rfl
theorem fo_146_2 : fieldOff Try.prog 146 2 = some 2 := by kernel_rfl
theorem ze_146 : zeroOf Try.prog 146 = some (.agg #[.int .i64 0, .int .i64 0, .int .i64 0]) := by kernel_rfl
theorem ag_147 : aggOf Try.prog 147 = some (some 3) := by kernel_rfl
theorem sz_147 : sizeOf' Try.prog 147 = some 3 := by kernel_rfl
theorem fl_147 : flatOf Try.prog 147 = some 3 := by kernel_rfl
theorem fo_147_0 : fieldOff Try.prog 147 0 = some 0 := by kernel_rfl
theorem fo_147_1 : fieldOff Try.prog 147 1 = some 1 := by kernel_rfl
theorem fo_147_2 : fieldOff Try.prog 147 2 = some 2 := by kernel_rfl
theorem ze_147 : zeroOf Try.prog 147 = some (.agg #[.int .i64 0, .int .i64 0, .int .i64 0]) := by kernel_rfl
theorem ag_148 : aggOf Try.prog 148 = some none := by kernel_rfl
theorem sz_148 : sizeOf' Try.prog 148 = some 1 := by kernel_rfl
theorem ze_148 : zeroOf Try.prog 148 = some (.map none) := by kernel_rfl
theorem ag_152 : aggOf Try.prog 152 = some none := by kernel_rfl
theorem sz_152 : sizeOf' Try.prog 152 = some 1 := by kernel_rfl
theorem ze_152 : zeroOf Try.prog 152 = some (.nilFunc) := by kernel_rfl
theorem ag_167 : aggOf Try.prog 167 = some none := by kernel_rfl
theorem sz_167 : sizeOf' Try.prog 167 = some 1 := by kernel_rfl
theorem ze_167 : zeroOf Try.prog 167 = some (.int .u32 0) := by kernel_rfl
theorem ag_169 : aggOf Try.prog 169 = some (some 0) := by kernel_rfl
theorem sz_169 : sizeOf' Try.prog 169 = some 0 := by kernel_rfl
theorem fl_169 : flatOf Try.prog 169 = some 0 := by kernel_rfl
theorem ze_169 : zeroOf Try.prog 169 = some (.agg #[]) := by kernel_rfl
theorem ag_172 : aggOf Try.prog 172 = some none := by kernel_rfl
theorem sz_172 : sizeOf' Try.prog 172 = some 1 := by kernel_rfl
theorem ze_172 : zeroOf Try.prog 172 = some (.int .u64 0) := by kernel_rfl
theorem ag_176 : aggOf Try.prog 176 = some none := by kernel_rfl
theorem sz_176 : sizeOf' Try.prog 176 = some 1 := by kernel_rfl
theorem ze_176 : zeroOf Try.prog 176 = some (.int .i64 0) := by kernel_rfl
theorem ag_185 : aggOf Try.prog 185 = some none := by kernel_rfl
theorem sz_185 : sizeOf' Try.prog 185 = some 1 := by kernel_rfl
theorem ze_185 : zeroOf Try.prog 185 = some (.int .u64 0) := by kernel_rfl
theorem ag_187 : aggOf Try.prog 187 = some none := by kernel_rfl
theorem sz_187 : sizeOf' Try.prog 187 = some 1 := by kernel_rfl
theorem ze_187 : zeroOf Try.prog 187 = some (.int .u64 0) := by kernel_rfl
theorem ag_191 : aggOf Try.prog 191 = some none := by kernel_rfl
theorem sz_191 : sizeOf' Try.prog 191 = some 1 := by kernel_rfl
theorem ze_191 : zeroOf Try.prog 191 = some (.pointer none) := by kernel_rfl
theorem ag_193 : aggOf Try.prog 193 = some none := by kernel_rfl
theorem sz_193 : sizeOf' Try.prog 193 = some 1 := by kernel_rfl
theorem ze_193 : zeroOf Try.prog 193 = some (.pointer none) := by kernel_rfl
theorem ag_195 : aggOf Try.prog 195 = some (some 4) := by kernel_rfl
theorem sz_195 : sizeOf' Try.prog 195 = some 4 := by kernel_rfl
theorem fl_195 : flatOf Try.prog 195 = some 4 := by kernel_rfl
theorem fo_195_0 : fieldOff Try.prog 195 0 = some 0 := by kernel_rfl
theorem fo_195_1 : fieldOff Try.prog 195 1 = some 1 := by kernel_rfl
theorem fo_195_2 : fieldOff Try.prog 195 2 = some 2 := by kernel_rfl
theorem fo_195_3 : fieldOff Try.prog 195 3 = some 3 := by kernel_rfl
theorem ze_195 : zeroOf Try.prog 195 = some (.agg #[.pointer none, .pointer none, .pointer none, .string (bs [])]) := by kernel_rfl
theorem ag_196 : aggOf Try.prog 196 = some (some 4) := by kernel_rfl
theorem sz_196 : sizeOf' Try.prog 196 = some 4 := by kernel_rfl
theorem fl_196 : flatOf Try.prog 196 = some 4 := by kernel_rfl
theorem fo_196_0 : fieldOff Try.prog 196 0 = some 0 := by kernel_rfl
theorem fo_196_1 : fieldOff Try.prog 196 1 = some 1 := by kernel_rfl
theorem fo_196_2 : fieldOff Try.prog 196 2 = some 2 := by kernel_rfl
theorem fo_196_3 : fieldOff Try.prog 196 3 = some 3 := by kernel_rfl
theorem ze_196 : zeroOf Try.prog 196 = some (.agg #[.pointer none, .pointer none, .pointer none, .string (bs [])]) := by kernel_rfl
theorem ag_197 : aggOf Try.prog 197 = some (some 0) := by kernel_rfl
theorem sz_197 : sizeOf' Try.prog 197 = some 0 := by kernel_rfl
theorem ar_197 : arrOf Try.prog 197 = some (0, 16, 1) := by kernel_rfl
theorem ze_197 : zeroOf Try.prog 197 = some (.agg #[]) := by kernel_rfl
theorem ag_198 : aggOf Try.prog 198 = some (some 0) := by kernel_rfl
theorem sz_198 : sizeOf' Try.prog 198 = some 0 := by kernel_rfl
theorem ze_198 : zeroOf Try.prog 198 = some (.agg #[]) := by kernel_rfl
theorem ag_199 : aggOf Try.prog 199 = some (some 0) := by kernel_rfl
theorem sz_199 : sizeOf' Try.prog 199 = some 0 := by kernel_rfl
theorem ze_199 : zeroOf Try.prog 199 = some (.agg #[]) := by kernel_rfl
theorem ag_200 : aggOf Try.prog 200 = some none := by kernel_rfl
theorem sz_200 : sizeOf' Try.prog 200 = some 1 := by kernel_rfl
theorem ze_200 : zeroOf Try.prog 200 = some (.int .u8 0) := by kernel_rfl
theorem ag_201 : aggOf Try.prog 201 = some none := by kernel_rfl
theorem sz_201 : sizeOf' Try.prog 201 = some 1 := by kernel_rfl
theorem ze_201 : zeroOf Try.prog 201 = some (.int .u8 0) := by kernel_rfl
theorem ag_203 : aggOf Try.prog 203 = some none := by kernel_rfl
theorem sz_203 : sizeOf' Try.prog 203 = some 1 := by kernel_rfl
theorem ze_203 : zeroOf Try.prog 203 = some (.pointer none) := by kernel_rfl
theorem ag_204 : aggOf Try.prog 204 = some none := by kernel_rfl
theorem sz_204 : sizeOf' Try.prog 204 = some 1 := by kernel_rfl
theorem ze_204 : zeroOf Try.prog 204 = some (.int .i32 0) := by kernel_rfl
theorem ag_205 : aggOf Try.prog 205 = some none := by kernel_rfl
theorem sz_205 : sizeOf' Try.prog 205 = some 1 := by kernel_rfl
theorem ze_205 : zeroOf Try.prog 205 = some (.int .i32 0) := by kernel_rfl
theorem ag_206 : aggOf Try.prog 206 = some (some 11) := by kernel_rfl
theorem sz_206 : sizeOf' Try.prog 206 = some 11 := by kernel_rfl
theorem fl_206 : flatOf Try.prog 206 = some 11 := by kernel_rfl
theorem fo_206_0 : fieldOff Try.prog 206 0 = some 0 := by kernel_rfl
theorem fo_206_1 : fieldOff Try.prog 206 1 = some 1 := by kernel_rfl
theorem fo_206_2 : fieldOff Try.prog 206 2 = some 2 := by kernel_rfl
theorem fo_206_3 : fieldOff Try.prog 206 3 = some 3 := by kernel_rfl
theorem fo_206_4 : fieldOff Try.prog 206 4 = some 4 := by kernel_rfl
theorem fo_206_5 : fieldOff Try.prog 206 5 = some 5 := by kernel_rfl
theorem fo_206_6 : fieldOff Try.prog 206 6 = some 6 := by kernel_rfl
theorem fo_206_7 : fieldOff Try.prog 206 7 = some 7 := by kernel_rfl
theorem fo_206_8 : fieldOff Try.prog 206 8 = some 8 := by kernel_rfl
theorem fo_206_9 : fieldOff Try.prog 206 9 = some 9 := by kernel_rfl
theorem fo_206_10 : fieldOff Try.prog 206 10 = some 10 := by kernel_rfl
theorem ze_206 : zeroOf Try.prog 206 = some (.agg #[.int .u64 0, .int .u64 0, .int .u32 0, .int .u8 0, .int .u8 0, .int .u8 0, .int .u8 0, .nilFunc, .pointer none, .int .i32 0, .int .i32 0]) := by kernel_rfl
theorem ag_207 : aggOf Try.prog 207 = some (some 11) := by kernel_rfl
theorem sz_207 : sizeOf' Try.prog 207 = some 11 := by kernel_rfl
theorem fl_207 : flatOf Try.prog 207 = some 11 := by kernel_rfl
theorem fo_207_0 : fieldOff Try.prog 207 0 = some 0 := by kernel_rfl
theorem fo_207_1 : fieldOff Try.prog 207 1 = some 1 := by kernel_rfl
theorem fo_207_2 : fieldOff Try.prog 207 2 = some 2 := by kernel_rfl
theorem fo_207_3 : fieldOff Try.prog 207 3 = some 3 := by kernel_rfl
theorem fo_207_4 : fieldOff Try.prog 207 4 = some 4 := by kernel_rfl
theorem fo_207_5 : fieldOff Try.prog 207 5 = some 5 := by kernel_rfl
theorem fo_207_6 : fieldOff Try.prog 207 6 = some 6 := by kernel_rfl
theorem fo_207_7 : fieldOff Try.prog 207 7 = some 7 := by kernel_rfl
theorem fo_207_8 : fieldOff Try.prog 207 8 = some 8 := by kernel_rfl
theorem fo_207_9 : fieldOff Try.prog 207 9 = some 9 := by kernel_rfl
theorem fo_207_10 : fieldOff Try.prog 207 10 = some 10 := by kernel_rfl
theorem ze_207 : zeroOf Try.prog 207 = some (.agg #[.int .u64 0, .int .u64 0, .int .u32 0, .int .u8 0, .int .u8 0, .int .u8 0, .int .u8 0, .nilFunc, .pointer none, .int .i32 0, .int .i32 0]) := by kernel_rfl
theorem ag_208 : aggOf Try.prog 208 = some none := by kernel_rfl
theorem sz_208 : sizeOf' Try.prog 208 = some 1 := by kernel_rfl
theorem ze_208 : zeroOf Try.prog 208 = some (.pointer none) := by kernel_rfl
end Go.Proofs.Ytepncdidkjjllaa

