/- Own work, some of it printed by program, texts that were built one by one and are laid one behind the other here: facts of the tables, each closed. | paths as plain data. | structs that are compared, and structs as keys of maps. | what all layers share, as plain data: events, rows of ACLs, stats; texts in their order; sorted tables. | what stands ahead of a path's last name, and below it: plain. | 'slices.Sorted(maps.Keys(m))' at int keys, out of the kit's contracts, in the words of SlCore. | slices.Sort at []int, out of the shelf's contract, for a slice that is owned. | 'slices.Sorted(maps.Keys(m))' and slices.Sort at string keys, out of the kit's contracts, in the words of SlCore. | loops over a map that is not written meanwhile: the iterator and the map as one atom. | a tree as plain data: nodes by rising paths, sessions by rising numbers; what each transaction does. | what stands for a tree in memory; how its plain data and its maps belong together. | shifts and bits; a slice and nil; numbers out of bytes. | calls of function values; results that lie in cells; deferred calls. | the document's tree in memory: a list of nodes, a list of sessions; texts compared by their order. | loops over the runes of a string; maps that are nil. -/
import Derived.Test.YtnnbelmpbmfdnaaGreatDoorCOwnersP0
import Derived.Test.YtnnbelmpbmfdnaaGreatDoorRows
import Derived.KernelRfl
import Derived.Laws.StructEq
import Derived.Shelf.SlIterI.Nil
import Derived.Shelf.SortM.Plain
import Derived.Shelf.SortM.SortNone
import Derived.Ground.GgzProg
import Derived.Ground.SlgmProg
import Derived.Shelf.Slices.CompactI
import Derived.Ground.Names2Prog
import Derived.Test.YtnnbelmpbmfdnaaGreatDoorProg
import Derived.Sort.OwnSortedInts
import Derived.Sort.OwnSorted
import Derived.Laws.IdiomRangeMap
import Derived.Defers
import Derived.Sort.Walk0
import Derived.Lib.OthersKept
import Derived.Lib.Bytealg
import Derived.Laws.Externs
/- Own work, by program: facts of the tables, each closed. -/

namespace Go.Proofs.YtnnbelmpbmfdnaaGreatDoor
open Go
theorem mixed : Tryz.prog.follows .mixedOrders = true := by kernel_rfl
theorem ag_2 : aggOf Tryz.prog 2 = some none := by kernel_rfl
theorem sz_2 : sizeOf' Tryz.prog 2 = some 1 := by kernel_rfl
theorem ze_2 : zeroOf Tryz.prog 2 = some (.int .i64 0) := by kernel_rfl
theorem ag_3 : aggOf Tryz.prog 3 = some none := by kernel_rfl
theorem sz_3 : sizeOf' Tryz.prog 3 = some 1 := by kernel_rfl
theorem ze_3 : zeroOf Tryz.prog 3 = some (.int .i64 0) := by kernel_rfl
theorem ag_4 : aggOf Tryz.prog 4 = some none := by kernel_rfl
theorem sz_4 : sizeOf' Tryz.prog 4 = some 1 := by kernel_rfl
theorem ze_4 : zeroOf Tryz.prog 4 = some (.bool false) := by kernel_rfl
theorem ag_5 : aggOf Tryz.prog 5 = some none := by kernel_rfl
theorem sz_5 : sizeOf' Tryz.prog 5 = some 1 := by kernel_rfl
theorem ze_5 : zeroOf Tryz.prog 5 = some (.int .u8 0) := by kernel_rfl
theorem ag_6 : aggOf Tryz.prog 6 = some none := by kernel_rfl
theorem sz_6 : sizeOf' Tryz.prog 6 = some 1 := by kernel_rfl
theorem ze_6 : zeroOf Tryz.prog 6 = some (.int .u8 0) := by kernel_rfl
theorem ag_7 : aggOf Tryz.prog 7 = some (some 4) := by kernel_rfl
theorem sz_7 : sizeOf' Tryz.prog 7 = some 4 := by kernel_rfl
theorem fl_7 : flatOf Tryz.prog 7 = some 4 := by kernel_rfl
theorem fo_7_0 : fieldOff Tryz.prog 7 0 = some 0 := by kernel_rfl
theorem fo_7_1 : fieldOff Tryz.prog 7 1 = some 1 := by kernel_rfl
theorem fo_7_2 : fieldOff Tryz.prog 7 2 = some 2 := by kernel_rfl
theorem fo_7_3 : fieldOff Tryz.prog 7 3 = some 3 := by kernel_rfl
theorem ze_7 : zeroOf Tryz.prog 7 = some (.agg #[.int .i64 0, .int .i64 0, .bool false, .int .u8 0]) := by kernel_rfl
theorem ag_8 : aggOf Tryz.prog 8 = some (some 4) := by kernel_rfl
theorem sz_8 : sizeOf' Tryz.prog 8 = some 4 := by kernel_rfl
theorem fl_8 : flatOf Tryz.prog 8 = some 4 := by kernel_rfl
theorem fo_8_0 : fieldOff Tryz.prog 8 0 = some 0 := by kernel_rfl
theorem fo_8_1 : fieldOff Tryz.prog 8 1 = some 1 := by kernel_rfl
theorem fo_8_2 : fieldOff Tryz.prog 8 2 = some 2 := by kernel_rfl
theorem fo_8_3 : fieldOff Tryz.prog 8 3 = some 3 := by kernel_rfl
theorem ze_8 : zeroOf Tryz.prog 8 = some (.agg #[.int .i64 0, .int .i64 0, .bool false, .int .u8 0]) := by kernel_rfl
theorem ag_9 : aggOf Tryz.prog 9 = some none := by kernel_rfl
theorem sz_9 : sizeOf' Tryz.prog 9 = some 1 := by kernel_rfl
theorem ze_9 : zeroOf Tryz.prog 9 = some (.string (bs [])) := by kernel_rfl
theorem ag_10 : aggOf Tryz.prog 10 = some none := by kernel_rfl
theorem sz_10 : sizeOf' Tryz.prog 10 = some 1 := by kernel_rfl
theorem ze_10 : zeroOf Tryz.prog 10 = some (.string (bs [])) := by kernel_rfl
theorem ag_11 : aggOf Tryz.prog 11 = some none := by kernel_rfl
theorem sz_11 : sizeOf' Tryz.prog 11 = some 1 := by kernel_rfl
theorem ze_11 : zeroOf Tryz.prog 11 = some (.string (bs [])) := by kernel_rfl
theorem ag_12 : aggOf Tryz.prog 12 = some none := by kernel_rfl
theorem sz_12 : sizeOf' Tryz.prog 12 = some 1 := by kernel_rfl
theorem ze_12 : zeroOf Tryz.prog 12 = some (.int .u64 0) := by kernel_rfl
theorem ag_13 : aggOf Tryz.prog 13 = some (some 2) := by kernel_rfl
theorem sz_13 : sizeOf' Tryz.prog 13 = some 2 := by kernel_rfl
theorem fl_13 : flatOf Tryz.prog 13 = some 2 := by kernel_rfl
theorem fo_13_0 : fieldOff Tryz.prog 13 0 = some 0 := by kernel_rfl
theorem fo_13_1 : fieldOff Tryz.prog 13 1 = some 1 := by kernel_rfl
theorem ze_13 : zeroOf Tryz.prog 13 = some (.agg #[.string (bs []), .int .u64 0]) := by kernel_rfl
theorem ag_14 : aggOf Tryz.prog 14 = some (some 2) := by kernel_rfl
theorem sz_14 : sizeOf' Tryz.prog 14 = some 2 := by kernel_rfl
theorem fl_14 : flatOf Tryz.prog 14 = some 2 := by kernel_rfl
theorem fo_14_0 : fieldOff Tryz.prog 14 0 = some 0 := by kernel_rfl
theorem fo_14_1 : fieldOff Tryz.prog 14 1 = some 1 := by kernel_rfl
theorem ze_14 : zeroOf Tryz.prog 14 = some (.agg #[.string (bs []), .int .u64 0]) := by kernel_rfl
theorem ag_15 : aggOf Tryz.prog 15 = some none := by kernel_rfl
theorem sz_15 : sizeOf' Tryz.prog 15 = some 1 := by kernel_rfl
theorem ze_15 : zeroOf Tryz.prog 15 = some (.pointer none) := by kernel_rfl
theorem ag_16 : aggOf Tryz.prog 16 = some none := by kernel_rfl
theorem sz_16 : sizeOf' Tryz.prog 16 = some 1 := by kernel_rfl
theorem ze_16 : zeroOf Tryz.prog 16 = some (.pointer none) := by kernel_rfl
theorem ag_17 : aggOf Tryz.prog 17 = some none := by kernel_rfl
theorem sz_17 : sizeOf' Tryz.prog 17 = some 1 := by kernel_rfl
theorem ze_17 : zeroOf Tryz.prog 17 = some (.pointer none) := by kernel_rfl
theorem ag_18 : aggOf Tryz.prog 18 = some (some 1) := by kernel_rfl
theorem sz_18 : sizeOf' Tryz.prog 18 = some 1 := by kernel_rfl
theorem fl_18 : flatOf Tryz.prog 18 = some 1 := by kernel_rfl
theorem fo_18_0 : fieldOff Tryz.prog 18 0 = some 0 := by kernel_rfl
theorem ze_18 : zeroOf Tryz.prog 18 = some (.agg #[.pointer none]) := by kernel_rfl
theorem ag_19 : aggOf Tryz.prog 19 = some (some 1) := by kernel_rfl
theorem sz_19 : sizeOf' Tryz.prog 19 = some 1 := by kernel_rfl
theorem fl_19 : flatOf Tryz.prog 19 = some 1 := by kernel_rfl
theorem fo_19_0 : fieldOff Tryz.prog 19 0 = some 0 := by kernel_rfl
theorem ze_19 : zeroOf Tryz.prog 19 = some (.agg #[.pointer none]) := by kernel_rfl
theorem ag_21 : aggOf Tryz.prog 21 = some none := by kernel_rfl
theorem sz_21 : sizeOf' Tryz.prog 21 = some 1 := by kernel_rfl
theorem ze_21 : zeroOf Tryz.prog 21 = some (.int .i32 0) := by kernel_rfl
theorem ag_22 : aggOf Tryz.prog 22 = some none := by kernel_rfl
theorem sz_22 : sizeOf' Tryz.prog 22 = some 1 := by kernel_rfl
theorem el_22 : elemOf' Tryz.prog 22 = some (94, 5, 64) := by kernel_rfl
theorem ze_22 : zeroOf Tryz.prog 22 = some (.slice none 0 0) := by kernel_rfl
theorem ag_24 : aggOf Tryz.prog 24 = some none := by kernel_rfl
theorem sz_24 : sizeOf' Tryz.prog 24 = some 1 := by kernel_rfl
theorem el_24 : elemOf' Tryz.prog 24 = some (39, 11, 136) := by kernel_rfl
theorem ze_24 : zeroOf Tryz.prog 24 = some (.slice none 0 0) := by kernel_rfl
theorem ag_25 : aggOf Tryz.prog 25 = some none := by kernel_rfl
theorem sz_25 : sizeOf' Tryz.prog 25 = some 1 := by kernel_rfl
theorem ze_25 : zeroOf Tryz.prog 25 = some (.pointer none) := by kernel_rfl
theorem ag_28 : aggOf Tryz.prog 28 = some none := by kernel_rfl
theorem sz_28 : sizeOf' Tryz.prog 28 = some 1 := by kernel_rfl
theorem ze_28 : zeroOf Tryz.prog 28 = some (.pointer none) := by kernel_rfl
theorem ag_30 : aggOf Tryz.prog 30 = some none := by kernel_rfl
theorem sz_30 : sizeOf' Tryz.prog 30 = some 1 := by kernel_rfl
theorem el_30 : elemOf' Tryz.prog 30 = some (75, 3, 32) := by kernel_rfl
theorem ze_30 : zeroOf Tryz.prog 30 = some (.slice none 0 0) := by kernel_rfl
theorem ag_31 : aggOf Tryz.prog 31 = some none := by kernel_rfl
theorem sz_31 : sizeOf' Tryz.prog 31 = some 1 := by kernel_rfl
theorem ze_31 : zeroOf Tryz.prog 31 = some (.int .i64 0) := by kernel_rfl
theorem ag_34 : aggOf Tryz.prog 34 = some none := by kernel_rfl
theorem sz_34 : sizeOf' Tryz.prog 34 = some 1 := by kernel_rfl
theorem el_34 : elemOf' Tryz.prog 34 = some (104, 2, 24) := by kernel_rfl
theorem ze_34 : zeroOf Tryz.prog 34 = some (.slice none 0 0) := by kernel_rfl
theorem ag_35 : aggOf Tryz.prog 35 = some none := by kernel_rfl
theorem sz_35 : sizeOf' Tryz.prog 35 = some 1 := by kernel_rfl
theorem el_35 : elemOf' Tryz.prog 35 = some (37, 8, 112) := by kernel_rfl
theorem ze_35 : zeroOf Tryz.prog 35 = some (.slice none 0 0) := by kernel_rfl
theorem ag_36 : aggOf Tryz.prog 36 = some (some 8) := by kernel_rfl
theorem sz_36 : sizeOf' Tryz.prog 36 = some 8 := by kernel_rfl
theorem fl_36 : flatOf Tryz.prog 36 = some 8 := by kernel_rfl
theorem fo_36_0 : fieldOff Tryz.prog 36 0 = some 0 := by kernel_rfl
theorem fo_36_1 : fieldOff Tryz.prog 36 1 = some 1 := by kernel_rfl
theorem fo_36_2 : fieldOff Tryz.prog 36 2 = some 2 := by kernel_rfl
theorem fo_36_3 : fieldOff Tryz.prog 36 3 = some 3 := by kernel_rfl
theorem fo_36_4 : fieldOff Tryz.prog 36 4 = some 4 := by kernel_rfl
theorem fo_36_5 : fieldOff Tryz.prog 36 5 = some 5 := by kernel_rfl
theorem fo_36_6 : fieldOff Tryz.prog 36 6 = some 6 := by kernel_rfl
theorem fo_36_7 : fieldOff Tryz.prog 36 7 = some 7 := by kernel_rfl
theorem ze_36 : zeroOf Tryz.prog 36 = some (.agg #[.int .i64 0, .string (bs []), .string (bs []), .slice none 0 0, .int .i64 0, .int .i64 0, .int .i64 0, .slice none 0 0]) := by kernel_rfl
theorem ag_37 : aggOf Tryz.prog 37 = some (some 8) := by kernel_rfl
theorem sz_37 : sizeOf' Tryz.prog 37 = some 8 := by kernel_rfl
theorem fl_37 : flatOf Tryz.prog 37 = some 8 := by kernel_rfl
theorem fo_37_0 : fieldOff Tryz.prog 37 0 = some 0 := by kernel_rfl
theorem fo_37_1 : fieldOff Tryz.prog 37 1 = some 1 := by kernel_rfl
theorem fo_37_2 : fieldOff Tryz.prog 37 2 = some 2 := by kernel_rfl
theorem fo_37_3 : fieldOff Tryz.prog 37 3 = some 3 := by kernel_rfl
theorem fo_37_4 : fieldOff Tryz.prog 37 4 = some 4 := by kernel_rfl
theorem fo_37_5 : fieldOff Tryz.prog 37 5 = some 5 := by kernel_rfl
theorem fo_37_6 : fieldOff Tryz.prog 37 6 = some 6 := by kernel_rfl
theorem fo_37_7 : fieldOff Tryz.prog 37 7 = some 7 := by kernel_rfl
theorem ze_37 : zeroOf Tryz.prog 37 = some (.agg #[.int .i64 0, .string (bs []), .string (bs []), .slice none 0 0, .int .i64 0, .int .i64 0, .int .i64 0, .slice none 0 0]) := by kernel_rfl
theorem ag_38 : aggOf Tryz.prog 38 = some (some 11) := by kernel_rfl
theorem sz_38 : sizeOf' Tryz.prog 38 = some 11 := by kernel_rfl
theorem fo_38_0 : fieldOff Tryz.prog 38 0 = some 0 := by kernel_rfl
theorem fo_38_1 : fieldOff Tryz.prog 38 1 = some 1 := by kernel_rfl
theorem fo_38_2 : fieldOff Tryz.prog 38 2 = some 2 := by kernel_rfl
theorem fo_38_3 : fieldOff Tryz.prog 38 3 = some 3 := by kernel_rfl
theorem ze_38 : zeroOf Tryz.prog 38 = some (.agg #[.int .i64 0, .int .i64 0, .int .i64 0, .int .i64 0, .string (bs []), .string (bs []), .slice none 0 0, .int .i64 0, .int .i64 0, .int .i64 0, .slice none 0 0]) := by kernel_rfl
theorem ag_39 : aggOf Tryz.prog 39 = some (some 11) := by kernel_rfl
theorem sz_39 : sizeOf' Tryz.prog 39 = some 11 := by kernel_rfl
theorem fo_39_0 : fieldOff Tryz.prog 39 0 = some 0 := by kernel_rfl
theorem fo_39_1 : fieldOff Tryz.prog 39 1 = some 1 := by kernel_rfl
theorem fo_39_2 : fieldOff Tryz.prog 39 2 = some 2 := by kernel_rfl
theorem fo_39_3 : fieldOff Tryz.prog 39 3 = some 3 := by kernel_rfl
theorem ze_39 : zeroOf Tryz.prog 39 = some (.agg #[.int .i64 0, .int .i64 0, .int .i64 0, .int .i64 0, .string (bs []), .string (bs []), .slice none 0 0, .int .i64 0, .int .i64 0, .int .i64 0, .slice none 0 0]) := by kernel_rfl
theorem ag_40 : aggOf Tryz.prog 40 = some none := by kernel_rfl
theorem sz_40 : sizeOf' Tryz.prog 40 = some 1 := by kernel_rfl
theorem el_40 : elemOf' Tryz.prog 40 = some (9, 1, 16) := by kernel_rfl
theorem ze_40 : zeroOf Tryz.prog 40 = some (.slice none 0 0) := by kernel_rfl
theorem ag_42 : aggOf Tryz.prog 42 = some (some 9) := by kernel_rfl
theorem sz_42 : sizeOf' Tryz.prog 42 = some 9 := by kernel_rfl
theorem fl_42 : flatOf Tryz.prog 42 = some 9 := by kernel_rfl
theorem fo_42_0 : fieldOff Tryz.prog 42 0 = some 0 := by kernel_rfl
theorem fo_42_1 : fieldOff Tryz.prog 42 1 = some 1 := by kernel_rfl
theorem fo_42_2 : fieldOff Tryz.prog 42 2 = some 2 := by kernel_rfl
theorem fo_42_3 : fieldOff Tryz.prog 42 3 = some 3 := by kernel_rfl
theorem fo_42_4 : fieldOff Tryz.prog 42 4 = some 4 := by kernel_rfl
theorem fo_42_5 : fieldOff Tryz.prog 42 5 = some 5 := by kernel_rfl
theorem fo_42_6 : fieldOff Tryz.prog 42 6 = some 6 := by kernel_rfl
theorem fo_42_7 : fieldOff Tryz.prog 42 7 = some 7 := by kernel_rfl
theorem fo_42_8 : fieldOff Tryz.prog 42 8 = some 8 := by kernel_rfl
theorem ze_42 : zeroOf Tryz.prog 42 = some (.agg #[.int .i64 0, .int .i64 0, .int .i64 0, .int .i64 0, .int .i64 0, .int .i64 0, .int .i64 0, .int .i64 0, .int .i64 0]) := by kernel_rfl
theorem ag_43 : aggOf Tryz.prog 43 = some (some 9) := by kernel_rfl
theorem sz_43 : sizeOf' Tryz.prog 43 = some 9 := by kernel_rfl
theorem fl_43 : flatOf Tryz.prog 43 = some 9 := by kernel_rfl
theorem fo_43_0 : fieldOff Tryz.prog 43 0 = some 0 := by kernel_rfl
theorem fo_43_1 : fieldOff Tryz.prog 43 1 = some 1 := by kernel_rfl
theorem fo_43_2 : fieldOff Tryz.prog 43 2 = some 2 := by kernel_rfl
theorem fo_43_3 : fieldOff Tryz.prog 43 3 = some 3 := by kernel_rfl
theorem fo_43_4 : fieldOff Tryz.prog 43 4 = some 4 := by kernel_rfl
theorem fo_43_5 : fieldOff Tryz.prog 43 5 = some 5 := by kernel_rfl
theorem fo_43_6 : fieldOff Tryz.prog 43 6 = some 6 := by kernel_rfl
theorem fo_43_7 : fieldOff Tryz.prog 43 7 = some 7 := by kernel_rfl
theorem fo_43_8 : fieldOff Tryz.prog 43 8 = some 8 := by kernel_rfl
theorem ze_43 : zeroOf Tryz.prog 43 = some (.agg #[.int .i64 0, .int .i64 0, .int .i64 0, .int .i64 0, .int .i64 0, .int .i64 0, .int .i64 0, .int .i64 0, .int .i64 0]) := by kernel_rfl
theorem ag_52 : aggOf Tryz.prog 52 = some none := by kernel_rfl
theorem sz_52 : sizeOf' Tryz.prog 52 = some 1 := by kernel_rfl
theorem el_52 : elemOf' Tryz.prog 52 = some (3, 1, 8) := by kernel_rfl
theorem ze_52 : zeroOf Tryz.prog 52 = some (.slice none 0 0) := by kernel_rfl
theorem ag_61 : aggOf Tryz.prog 61 = some none := by kernel_rfl
theorem sz_61 : sizeOf' Tryz.prog 61 = some 1 := by kernel_rfl
theorem el_61 : elemOf' Tryz.prog 61 = some (63, 27, 296) := by kernel_rfl
theorem ze_61 : zeroOf Tryz.prog 61 = some (.slice none 0 0) := by kernel_rfl
theorem ag_62 : aggOf Tryz.prog 62 = some (some 27) := by kernel_rfl
theorem sz_62 : sizeOf' Tryz.prog 62 = some 27 := by kernel_rfl
theorem fo_62_0 : fieldOff Tryz.prog 62 0 = some 0 := by kernel_rfl
theorem fo_62_1 : fieldOff Tryz.prog 62 1 = some 1 := by kernel_rfl
theorem fo_62_2 : fieldOff Tryz.prog 62 2 = some 2 := by kernel_rfl
theorem fo_62_3 : fieldOff Tryz.prog 62 3 = some 3 := by kernel_rfl
theorem fo_62_4 : fieldOff Tryz.prog 62 4 = some 14 := by kernel_rfl
theorem fo_62_5 : fieldOff Tryz.prog 62 5 = some 15 := by kernel_rfl
theorem fo_62_6 : fieldOff Tryz.prog 62 6 = some 16 := by kernel_rfl
theorem fo_62_7 : fieldOff Tryz.prog 62 7 = some 17 := by kernel_rfl
theorem fo_62_8 : fieldOff Tryz.prog 62 8 = some 26 := by kernel_rfl
theorem ze_62 : zeroOf Tryz.prog 62 = some (.agg #[.int .i64 0, .int .i64 0, .int .i64 0, .int .i64 0, .int .i64 0, .int .i64 0, .int .i64 0, .string (bs []), .string (bs []), .slice none 0 0, .int .i64 0, .int .i64 0, .int .i64 0, .slice none 0 0, .string (bs []), .string (bs []), .slice none 0 0, .int .i64 0, .int .i64 0, .int .i64 0, .int .i64 0, .int .i64 0, .int .i64 0, .int .i64 0, .int .i64 0, .int .i64 0, .bool false]) := by kernel_rfl
theorem ag_63 : aggOf Tryz.prog 63 = some (some 27) := by kernel_rfl
theorem sz_63 : sizeOf' Tryz.prog 63 = some 27 := by kernel_rfl
theorem fo_63_0 : fieldOff Tryz.prog 63 0 = some 0 := by kernel_rfl
theorem fo_63_1 : fieldOff Tryz.prog 63 1 = some 1 := by kernel_rfl
theorem fo_63_2 : fieldOff Tryz.prog 63 2 = some 2 := by kernel_rfl
theorem fo_63_3 : fieldOff Tryz.prog 63 3 = some 3 := by kernel_rfl
theorem fo_63_4 : fieldOff Tryz.prog 63 4 = some 14 := by kernel_rfl
theorem fo_63_5 : fieldOff Tryz.prog 63 5 = some 15 := by kernel_rfl
theorem fo_63_6 : fieldOff Tryz.prog 63 6 = some 16 := by kernel_rfl
theorem fo_63_7 : fieldOff Tryz.prog 63 7 = some 17 := by kernel_rfl
theorem fo_63_8 : fieldOff Tryz.prog 63 8 = some 26 := by kernel_rfl
theorem ze_63 : zeroOf Tryz.prog 63 = some (.agg #[.int .i64 0, .int .i64 0, .int .i64 0, .int .i64 0, .int .i64 0, .int .i64 0, .int .i64 0, .string (bs []), .string (bs []), .slice none 0 0, .int .i64 0, .int .i64 0, .int .i64 0, .slice none 0 0, .string (bs []), .string (bs []), .slice none 0 0, .int .i64 0, .int .i64 0, .int .i64 0, .int .i64 0, .int .i64 0, .int .i64 0, .int .i64 0, .int .i64 0, .int .i64 0, .bool false]) := by kernel_rfl
theorem ag_67 : aggOf Tryz.prog 67 = some none := by kernel_rfl
theorem sz_67 : sizeOf' Tryz.prog 67 = some 1 := by kernel_rfl
theorem ze_67 : zeroOf Tryz.prog 67 = some (.pointer none) := by kernel_rfl
theorem ag_69 : aggOf Tryz.prog 69 = some (some 5) := by kernel_rfl
theorem sz_69 : sizeOf' Tryz.prog 69 = some 5 := by kernel_rfl
theorem fl_69 : flatOf Tryz.prog 69 = some 5 := by kernel_rfl
theorem fo_69_0 : fieldOff Tryz.prog 69 0 = some 0 := by kernel_rfl
theorem fo_69_1 : fieldOff Tryz.prog 69 1 = some 1 := by kernel_rfl
theorem fo_69_2 : fieldOff Tryz.prog 69 2 = some 2 := by kernel_rfl
theorem fo_69_3 : fieldOff Tryz.prog 69 3 = some 3 := by kernel_rfl
theorem fo_69_4 : fieldOff Tryz.prog 69 4 = some 4 := by kernel_rfl
theorem ze_69 : zeroOf Tryz.prog 69 = some (.agg #[.int .i64 0, .string (bs []), .int .i64 0, .int .i64 0, .int .i64 0]) := by kernel_rfl
theorem ag_70 : aggOf Tryz.prog 70 = some (some 5) := by kernel_rfl
theorem sz_70 : sizeOf' Tryz.prog 70 = some 5 := by kernel_rfl
theorem fl_70 : flatOf Tryz.prog 70 = some 5 := by kernel_rfl
theorem fo_70_0 : fieldOff Tryz.prog 70 0 = some 0 := by kernel_rfl
theorem fo_70_1 : fieldOff Tryz.prog 70 1 = some 1 := by kernel_rfl
theorem fo_70_2 : fieldOff Tryz.prog 70 2 = some 2 := by kernel_rfl
theorem fo_70_3 : fieldOff Tryz.prog 70 3 = some 3 := by kernel_rfl
theorem fo_70_4 : fieldOff Tryz.prog 70 4 = some 4 := by kernel_rfl
theorem ze_70 : zeroOf Tryz.prog 70 = some (.agg #[.int .i64 0, .string (bs []), .int .i64 0, .int .i64 0, .int .i64 0]) := by kernel_rfl
theorem ag_74 : aggOf Tryz.prog 74 = some (some 3) := by kernel_rfl
theorem sz_74 : sizeOf' Tryz.prog 74 = some 3 := by kernel_rfl
theorem fl_74 : flatOf Tryz.prog 74 = some 3 := by kernel_rfl
theorem fo_74_0 : fieldOff Tryz.prog 74 0 = some 0 := by kernel_rfl
theorem fo_74_1 : fieldOff Tryz.prog 74 1 = some 1 := by kernel_rfl
theorem fo_74_2 : fieldOff Tryz.prog 74 2 = some 2 := by kernel_rfl
theorem ze_74 : zeroOf Tryz.prog 74 = some (.agg #[.int .i64 0, .string (bs []), .int .i64 0]) := by kernel_rfl
theorem ag_75 : aggOf Tryz.prog 75 = some (some 3) := by kernel_rfl
theorem sz_75 : sizeOf' Tryz.prog 75 = some 3 := by kernel_rfl
theorem fl_75 : flatOf Tryz.prog 75 = some 3 := by kernel_rfl
theorem fo_75_0 : fieldOff Tryz.prog 75 0 = some 0 := by kernel_rfl
theorem fo_75_1 : fieldOff Tryz.prog 75 1 = some 1 := by kernel_rfl
theorem fo_75_2 : fieldOff Tryz.prog 75 2 = some 2 := by kernel_rfl
theorem ze_75 : zeroOf Tryz.prog 75 = some (.agg #[.int .i64 0, .string (bs []), .int .i64 0]) := by kernel_rfl
theorem ag_76 : aggOf Tryz.prog 76 = some none := by kernel_rfl
theorem sz_76 : sizeOf' Tryz.prog 76 = some 1 := by kernel_rfl
theorem el_76 : elemOf' Tryz.prog 76 = some (147, 4, 40) := by kernel_rfl
theorem ze_76 : zeroOf Tryz.prog 76 = some (.slice none 0 0) := by kernel_rfl
theorem ag_79 : aggOf Tryz.prog 79 = some none := by kernel_rfl
theorem sz_79 : sizeOf' Tryz.prog 79 = some 1 := by kernel_rfl
theorem el_79 : elemOf' Tryz.prog 79 = some (84, 18, 232) := by kernel_rfl
theorem ze_79 : zeroOf Tryz.prog 79 = some (.slice none 0 0) := by kernel_rfl
theorem ag_80 : aggOf Tryz.prog 80 = some none := by kernel_rfl
theorem sz_80 : sizeOf' Tryz.prog 80 = some 1 := by kernel_rfl
theorem ze_80 : zeroOf Tryz.prog 80 = some (.pointer none) := by kernel_rfl
theorem ag_82 : aggOf Tryz.prog 82 = some none := by kernel_rfl
theorem sz_82 : sizeOf' Tryz.prog 82 = some 1 := by kernel_rfl
theorem el_82 : elemOf' Tryz.prog 82 = some (70, 5, 48) := by kernel_rfl
theorem ze_82 : zeroOf Tryz.prog 82 = some (.slice none 0 0) := by kernel_rfl
theorem ag_83 : aggOf Tryz.prog 83 = some (some 18) := by kernel_rfl
theorem sz_83 : sizeOf' Tryz.prog 83 = some 18 := by kernel_rfl
theorem fo_83_0 : fieldOff Tryz.prog 83 0 = some 0 := by kernel_rfl
theorem fo_83_1 : fieldOff Tryz.prog 83 1 = some 1 := by kernel_rfl
theorem fo_83_2 : fieldOff Tryz.prog 83 2 = some 2 := by kernel_rfl
theorem fo_83_3 : fieldOff Tryz.prog 83 3 = some 3 := by kernel_rfl
theorem fo_83_4 : fieldOff Tryz.prog 83 4 = some 4 := by kernel_rfl
theorem fo_83_5 : fieldOff Tryz.prog 83 5 = some 5 := by kernel_rfl
theorem fo_83_6 : fieldOff Tryz.prog 83 6 = some 6 := by kernel_rfl
theorem fo_83_7 : fieldOff Tryz.prog 83 7 = some 17 := by kernel_rfl
theorem ze_83 : zeroOf Tryz.prog 83 = some (.agg #[.int .i64 0, .int .i64 0, .int .i64 0, .string (bs []), .slice none 0 0, .slice none 0 0, .int .i64 0, .int .i64 0, .int .i64 0, .int .i64 0, .string (bs []), .string (bs []), .slice none 0 0, .int .i64 0, .int .i64 0, .int .i64 0, .slice none 0 0, .bool false]) := by kernel_rfl
theorem ag_84 : aggOf Tryz.prog 84 = some (some 18) := by kernel_rfl
theorem sz_84 : sizeOf' Tryz.prog 84 = some 18 := by kernel_rfl
theorem fo_84_0 : fieldOff Tryz.prog 84 0 = some 0 := by kernel_rfl
theorem fo_84_1 : fieldOff Tryz.prog 84 1 = some 1 := by kernel_rfl
theorem fo_84_2 : fieldOff Tryz.prog 84 2 = some 2 := by kernel_rfl
theorem fo_84_3 : fieldOff Tryz.prog 84 3 = some 3 := by kernel_rfl
theorem fo_84_4 : fieldOff Tryz.prog 84 4 = some 4 := by kernel_rfl
theorem fo_84_5 : fieldOff Tryz.prog 84 5 = some 5 := by kernel_rfl
theorem fo_84_6 : fieldOff Tryz.prog 84 6 = some 6 := by kernel_rfl
theorem fo_84_7 : fieldOff Tryz.prog 84 7 = some 17 := by kernel_rfl
theorem ze_84 : zeroOf Tryz.prog 84 = some (.agg #[.int .i64 0, .int .i64 0, .int .i64 0, .string (bs []), .slice none 0 0, .slice none 0 0, .int .i64 0, .int .i64 0, .int .i64 0, .int .i64 0, .string (bs []), .string (bs []), .slice none 0 0, .int .i64 0, .int .i64 0, .int .i64 0, .slice none 0 0, .bool false]) := by kernel_rfl
theorem ag_86 : aggOf Tryz.prog 86 = some none := by kernel_rfl
theorem sz_86 : sizeOf' Tryz.prog 86 = some 1 := by kernel_rfl
theorem ze_86 : zeroOf Tryz.prog 86 = some (.pointer none) := by kernel_rfl
theorem ag_87 : aggOf Tryz.prog 87 = some (some 4) := by kernel_rfl
theorem sz_87 : sizeOf' Tryz.prog 87 = some 4 := by kernel_rfl
theorem fl_87 : flatOf Tryz.prog 87 = some 4 := by kernel_rfl
theorem fo_87_0 : fieldOff Tryz.prog 87 0 = some 0 := by kernel_rfl
theorem fo_87_1 : fieldOff Tryz.prog 87 1 = some 1 := by kernel_rfl
theorem fo_87_2 : fieldOff Tryz.prog 87 2 = some 2 := by kernel_rfl
theorem fo_87_3 : fieldOff Tryz.prog 87 3 = some 3 := by kernel_rfl
theorem ze_87 : zeroOf Tryz.prog 87 = some (.agg #[.pointer none, .pointer none, .pointer none, .pointer none]) := by kernel_rfl
theorem ag_88 : aggOf Tryz.prog 88 = some (some 4) := by kernel_rfl
theorem sz_88 : sizeOf' Tryz.prog 88 = some 4 := by kernel_rfl
theorem fl_88 : flatOf Tryz.prog 88 = some 4 := by kernel_rfl
theorem fo_88_0 : fieldOff Tryz.prog 88 0 = some 0 := by kernel_rfl
theorem fo_88_1 : fieldOff Tryz.prog 88 1 = some 1 := by kernel_rfl
theorem fo_88_2 : fieldOff Tryz.prog 88 2 = some 2 := by kernel_rfl
theorem fo_88_3 : fieldOff Tryz.prog 88 3 = some 3 := by kernel_rfl
theorem ze_88 : zeroOf Tryz.prog 88 = some (.agg #[.pointer none, .pointer none, .pointer none, .pointer none]) := by kernel_rfl
theorem ag_93 : aggOf Tryz.prog 93 = some (some 5) := by kernel_rfl
theorem sz_93 : sizeOf' Tryz.prog 93 = some 5 := by kernel_rfl
theorem fl_93 : flatOf Tryz.prog 93 = some 5 := by kernel_rfl
theorem fo_93_0 : fieldOff Tryz.prog 93 0 = some 0 := by kernel_rfl
theorem fo_93_1 : fieldOff Tryz.prog 93 1 = some 1 := by kernel_rfl
theorem fo_93_2 : fieldOff Tryz.prog 93 2 = some 2 := by kernel_rfl
theorem fo_93_3 : fieldOff Tryz.prog 93 3 = some 3 := by kernel_rfl
theorem fo_93_4 : fieldOff Tryz.prog 93 4 = some 4 := by kernel_rfl
theorem ze_93 : zeroOf Tryz.prog 93 = some (.agg #[.int .i64 0, .int .i64 0, .int .i64 0, .string (bs []), .slice none 0 0]) := by kernel_rfl
theorem ag_94 : aggOf Tryz.prog 94 = some (some 5) := by kernel_rfl
theorem sz_94 : sizeOf' Tryz.prog 94 = some 5 := by kernel_rfl
theorem fl_94 : flatOf Tryz.prog 94 = some 5 := by kernel_rfl
theorem fo_94_0 : fieldOff Tryz.prog 94 0 = some 0 := by kernel_rfl
theorem fo_94_1 : fieldOff Tryz.prog 94 1 = some 1 := by kernel_rfl
theorem fo_94_2 : fieldOff Tryz.prog 94 2 = some 2 := by kernel_rfl
theorem fo_94_3 : fieldOff Tryz.prog 94 3 = some 3 := by kernel_rfl
theorem fo_94_4 : fieldOff Tryz.prog 94 4 = some 4 := by kernel_rfl
theorem ze_94 : zeroOf Tryz.prog 94 = some (.agg #[.int .i64 0, .int .i64 0, .int .i64 0, .string (bs []), .slice none 0 0]) := by kernel_rfl
theorem ag_98 : aggOf Tryz.prog 98 = some none := by kernel_rfl
theorem sz_98 : sizeOf' Tryz.prog 98 = some 1 := by kernel_rfl
theorem el_98 : elemOf' Tryz.prog 98 = some (131, 12, 128) := by kernel_rfl
theorem ze_98 : zeroOf Tryz.prog 98 = some (.slice none 0 0) := by kernel_rfl
theorem ag_99 : aggOf Tryz.prog 99 = some none := by kernel_rfl
theorem sz_99 : sizeOf' Tryz.prog 99 = some 1 := by kernel_rfl
theorem el_99 : elemOf' Tryz.prog 99 = some (134, 3, 32) := by kernel_rfl
theorem ze_99 : zeroOf Tryz.prog 99 = some (.slice none 0 0) := by kernel_rfl
theorem ag_100 : aggOf Tryz.prog 100 = some (some 3) := by kernel_rfl
theorem sz_100 : sizeOf' Tryz.prog 100 = some 3 := by kernel_rfl
theorem fl_100 : flatOf Tryz.prog 100 = some 3 := by kernel_rfl
theorem fo_100_0 : fieldOff Tryz.prog 100 0 = some 0 := by kernel_rfl
theorem fo_100_1 : fieldOff Tryz.prog 100 1 = some 1 := by kernel_rfl
theorem fo_100_2 : fieldOff Tryz.prog 100 2 = some 2 := by kernel_rfl
theorem ze_100 : zeroOf Tryz.prog 100 = some (.agg #[.slice none 0 0, .slice none 0 0, .int .i64 0]) := by kernel_rfl
theorem ag_101 : aggOf Tryz.prog 101 = some (some 3) := by kernel_rfl
theorem sz_101 : sizeOf' Tryz.prog 101 = some 3 := by kernel_rfl
theorem fl_101 : flatOf Tryz.prog 101 = some 3 := by kernel_rfl
theorem fo_101_0 : fieldOff Tryz.prog 101 0 = some 0 := by kernel_rfl
theorem fo_101_1 : fieldOff Tryz.prog 101 1 = some 1 := by kernel_rfl
theorem fo_101_2 : fieldOff Tryz.prog 101 2 = some 2 := by kernel_rfl
theorem ze_101 : zeroOf Tryz.prog 101 = some (.agg #[.slice none 0 0, .slice none 0 0, .int .i64 0]) := by kernel_rfl
theorem ag_102 : aggOf Tryz.prog 102 = some none := by kernel_rfl
theorem sz_102 : sizeOf' Tryz.prog 102 = some 1 := by kernel_rfl
theorem ze_102 : zeroOf Tryz.prog 102 = some (.pointer none) := by kernel_rfl
theorem ag_103 : aggOf Tryz.prog 103 = some (some 2) := by kernel_rfl
theorem sz_103 : sizeOf' Tryz.prog 103 = some 2 := by kernel_rfl
theorem fl_103 : flatOf Tryz.prog 103 = some 2 := by kernel_rfl
theorem fo_103_0 : fieldOff Tryz.prog 103 0 = some 0 := by kernel_rfl
theorem fo_103_1 : fieldOff Tryz.prog 103 1 = some 1 := by kernel_rfl
theorem ze_103 : zeroOf Tryz.prog 103 = some (.agg #[.int .i64 0, .string (bs [])]) := by kernel_rfl
theorem ag_104 : aggOf Tryz.prog 104 = some (some 2) := by kernel_rfl
theorem sz_104 : sizeOf' Tryz.prog 104 = some 2 := by kernel_rfl
theorem fl_104 : flatOf Tryz.prog 104 = some 2 := by kernel_rfl
theorem fo_104_0 : fieldOff Tryz.prog 104 0 = some 0 := by kernel_rfl
theorem fo_104_1 : fieldOff Tryz.prog 104 1 = some 1 := by kernel_rfl
theorem ze_104 : zeroOf Tryz.prog 104 = some (.agg #[.int .i64 0, .string (bs [])]) := by kernel_rfl
theorem ag_105 : aggOf Tryz.prog 105 = some (some 11) := by kernel_rfl
theorem sz_105 : sizeOf' Tryz.prog 105 = some 11 := by kernel_rfl
theorem fo_105_0 : fieldOff Tryz.prog 105 0 = some 0 := by kernel_rfl
theorem fo_105_1 : fieldOff Tryz.prog 105 1 = some 1 := by kernel_rfl
theorem fo_105_2 : fieldOff Tryz.prog 105 2 = some 2 := by kernel_rfl
theorem ze_105 : zeroOf Tryz.prog 105 = some (.agg #[.string (bs []), .slice none 0 0, .int .i64 0, .int .i64 0, .int .i64 0, .int .i64 0, .int .i64 0, .int .i64 0, .int .i64 0, .int .i64 0, .int .i64 0]) := by kernel_rfl
theorem ag_106 : aggOf Tryz.prog 106 = some (some 11) := by kernel_rfl
theorem sz_106 : sizeOf' Tryz.prog 106 = some 11 := by kernel_rfl
theorem fo_106_0 : fieldOff Tryz.prog 106 0 = some 0 := by kernel_rfl
theorem fo_106_1 : fieldOff Tryz.prog 106 1 = some 1 := by kernel_rfl
theorem fo_106_2 : fieldOff Tryz.prog 106 2 = some 2 := by kernel_rfl
theorem ze_106 : zeroOf Tryz.prog 106 = some (.agg #[.string (bs []), .slice none 0 0, .int .i64 0, .int .i64 0, .int .i64 0, .int .i64 0, .int .i64 0, .int .i64 0, .int .i64 0, .int .i64 0, .int .i64 0]) := by kernel_rfl
theorem ag_107 : aggOf Tryz.prog 107 = some none := by kernel_rfl
theorem sz_107 : sizeOf' Tryz.prog 107 = some 1 := by kernel_rfl
theorem ze_107 : zeroOf Tryz.prog 107 = some (.map none) := by kernel_rfl
theorem ag_108 : aggOf Tryz.prog 108 = some none := by kernel_rfl
theorem sz_108 : sizeOf' Tryz.prog 108 = some 1 := by kernel_rfl
theorem ze_108 : zeroOf Tryz.prog 108 = some (.map none) := by kernel_rfl
theorem ag_109 : aggOf Tryz.prog 109 = some (some 3) := by kernel_rfl
theorem sz_109 : sizeOf' Tryz.prog 109 = some 3 := by kernel_rfl
theorem fl_109 : flatOf Tryz.prog 109 = some 3 := by kernel_rfl
theorem fo_109_0 : fieldOff Tryz.prog 109 0 = some 0 := by kernel_rfl
theorem fo_109_1 : fieldOff Tryz.prog 109 1 = some 1 := by kernel_rfl
theorem fo_109_2 : fieldOff Tryz.prog 109 2 = some 2 := by kernel_rfl
theorem ze_109 : zeroOf Tryz.prog 109 = some (.agg #[.map none, .map none, .int .i64 0]) := by kernel_rfl
theorem ag_110 : aggOf Tryz.prog 110 = some (some 3) := by kernel_rfl
theorem sz_110 : sizeOf' Tryz.prog 110 = some 3 := by kernel_rfl
theorem fl_110 : flatOf Tryz.prog 110 = some 3 := by kernel_rfl
theorem fo_110_0 : fieldOff Tryz.prog 110 0 = some 0 := by kernel_rfl
theorem fo_110_1 : fieldOff Tryz.prog 110 1 = some 1 := by kernel_rfl
theorem fo_110_2 : fieldOff Tryz.prog 110 2 = some 2 := by kernel_rfl
theorem ze_110 : zeroOf Tryz.prog 110 = some (.agg #[.map none, .map none, .int .i64 0]) := by kernel_rfl
theorem ag_111 : aggOf Tryz.prog 111 = some (some 2) := by kernel_rfl
theorem sz_111 : sizeOf' Tryz.prog 111 = some 2 := by kernel_rfl
theorem fl_111 : flatOf Tryz.prog 111 = some 2 := by kernel_rfl
theorem fo_111_0 : fieldOff Tryz.prog 111 0 = some 0 := by kernel_rfl
theorem fo_111_1 : fieldOff Tryz.prog 111 1 = some 1 := by kernel_rfl
theorem ze_111 : zeroOf Tryz.prog 111 = some (.agg #[.int .i64 0, .string (bs [])]) := by kernel_rfl
theorem ag_112 : aggOf Tryz.prog 112 = some (some 2) := by kernel_rfl
theorem sz_112 : sizeOf' Tryz.prog 112 = some 2 := by kernel_rfl
theorem fl_112 : flatOf Tryz.prog 112 = some 2 := by kernel_rfl
theorem fo_112_0 : fieldOff Tryz.prog 112 0 = some 0 := by kernel_rfl
theorem fo_112_1 : fieldOff Tryz.prog 112 1 = some 1 := by kernel_rfl
theorem ze_112 : zeroOf Tryz.prog 112 = some (.agg #[.int .i64 0, .string (bs [])]) := by kernel_rfl
theorem ag_116 : aggOf Tryz.prog 116 = some none := by kernel_rfl
theorem sz_116 : sizeOf' Tryz.prog 116 = some 1 := by kernel_rfl
theorem ze_116 : zeroOf Tryz.prog 116 = some (.nilFunc) := by kernel_rfl
theorem ag_130 : aggOf Tryz.prog 130 = some (some 12) := by kernel_rfl
theorem sz_130 : sizeOf' Tryz.prog 130 = some 12 := by kernel_rfl
theorem fo_130_0 : fieldOff Tryz.prog 130 0 = some 0 := by kernel_rfl
theorem fo_130_1 : fieldOff Tryz.prog 130 1 = some 1 := by kernel_rfl
theorem fo_130_2 : fieldOff Tryz.prog 130 2 = some 2 := by kernel_rfl
theorem fo_130_3 : fieldOff Tryz.prog 130 3 = some 3 := by kernel_rfl
theorem ze_130 : zeroOf Tryz.prog 130 = some (.agg #[.string (bs []), .string (bs []), .slice none 0 0, .int .i64 0, .int .i64 0, .int .i64 0, .int .i64 0, .int .i64 0, .int .i64 0, .int .i64 0, .int .i64 0, .int .i64 0]) := by kernel_rfl
theorem ag_131 : aggOf Tryz.prog 131 = some (some 12) := by kernel_rfl
theorem sz_131 : sizeOf' Tryz.prog 131 = some 12 := by kernel_rfl
theorem fo_131_0 : fieldOff Tryz.prog 131 0 = some 0 := by kernel_rfl
theorem fo_131_1 : fieldOff Tryz.prog 131 1 = some 1 := by kernel_rfl
theorem fo_131_2 : fieldOff Tryz.prog 131 2 = some 2 := by kernel_rfl
theorem fo_131_3 : fieldOff Tryz.prog 131 3 = some 3 := by kernel_rfl
theorem ze_131 : zeroOf Tryz.prog 131 = some (.agg #[.string (bs []), .string (bs []), .slice none 0 0, .int .i64 0, .int .i64 0, .int .i64 0, .int .i64 0, .int .i64 0, .int .i64 0, .int .i64 0, .int .i64 0, .int .i64 0]) := by kernel_rfl
theorem ag_133 : aggOf Tryz.prog 133 = some (some 3) := by kernel_rfl
theorem sz_133 : sizeOf' Tryz.prog 133 = some 3 := by kernel_rfl
theorem fl_133 : flatOf Tryz.prog 133 = some 3 := by kernel_rfl
theorem fo_133_0 : fieldOff Tryz.prog 133 0 = some 0 := by kernel_rfl
theorem fo_133_1 : fieldOff Tryz.prog 133 1 = some 1 := by kernel_rfl
theorem fo_133_2 : fieldOff Tryz.prog 133 2 = some 2 := by kernel_rfl
theorem ze_133 : zeroOf Tryz.prog 133 = some (.agg #[.int .i64 0, .int .i64 0, .string (bs [])]) := by kernel_rfl
theorem ag_134 : aggOf Tryz.prog 134 = some (some 3) := by kernel_rfl
theorem sz_134 : sizeOf' Tryz.prog 134 = some 3 := by kernel_rfl
theorem fl_134 : flatOf Tryz.prog 134 = some 3 := by kernel_rfl
theorem fo_134_0 : fieldOff Tryz.prog 134 0 = some 0 := by kernel_rfl
theorem fo_134_1 : fieldOff Tryz.prog 134 1 = some 1 := by kernel_rfl
theorem fo_134_2 : fieldOff Tryz.prog 134 2 = some 2 := by kernel_rfl
theorem ze_134 : zeroOf Tryz.prog 134 = some (.agg #[.int .i64 0, .int .i64 0, .string (bs [])]) := by kernel_rfl
theorem ag_146 : aggOf Tryz.prog 146 = some (some 4) := by kernel_rfl
theorem sz_146 : sizeOf' Tryz.prog 146 = some 4 := by kernel_rfl
theorem fo_146_0 : fieldOff Tryz.prog 146 0 = some 0 := by kernel_rfl
theorem fo_146_1 : fieldOff Tryz.prog 146 1 = some 1 := by kernel_rfl
theorem ze_146 : zeroOf Tryz.prog 146 = some (.agg #[.int .i64 0, .int .i64 0, .string (bs []), .int .i64 0]) := by kernel_rfl
theorem ag_147 : aggOf Tryz.prog 147 = some (some 4) := by kernel_rfl
theorem sz_147 : sizeOf' Tryz.prog 147 = some 4 := by kernel_rfl
theorem fo_147_0 : fieldOff Tryz.prog 147 0 = some 0 := by kernel_rfl
theorem fo_147_1 : fieldOff Tryz.prog 147 1 = some 1 := by kernel_rfl
theorem ze_147 : zeroOf Tryz.prog 147 = some (.agg #[.int .i64 0, .int .i64 0, .string (bs []), .int .i64 0]) := by kernel_rfl
theorem ag_148 : aggOf Tryz.prog 148 = some none := by kernel_rfl
theorem sz_148 : sizeOf' Tryz.prog 148 = some 1 := by kernel_rfl
theorem ze_148 : zeroOf Tryz.prog 148 = some (.map none) := by kernel_rfl
theorem ag_149 : aggOf Tryz.prog 149 = some none := by kernel_rfl
theorem sz_149 : sizeOf' Tryz.prog 149 = some 1 := by kernel_rfl
theorem ze_149 : zeroOf Tryz.prog 149 = some (.map none) := by kernel_rfl
theorem ag_150 : aggOf Tryz.prog 150 = some (some 2) := by kernel_rfl
theorem sz_150 : sizeOf' Tryz.prog 150 = some 2 := by kernel_rfl
theorem fl_150 : flatOf Tryz.prog 150 = some 2 := by kernel_rfl
theorem fo_150_0 : fieldOff Tryz.prog 150 0 = some 0 := by kernel_rfl
theorem fo_150_1 : fieldOff Tryz.prog 150 1 = some 1 := by kernel_rfl
theorem ze_150 : zeroOf Tryz.prog 150 = some (.agg #[.map none, .map none]) := by kernel_rfl
theorem ag_151 : aggOf Tryz.prog 151 = some (some 2) := by kernel_rfl
theorem sz_151 : sizeOf' Tryz.prog 151 = some 2 := by kernel_rfl
theorem fl_151 : flatOf Tryz.prog 151 = some 2 := by kernel_rfl
theorem fo_151_0 : fieldOff Tryz.prog 151 0 = some 0 := by kernel_rfl
theorem fo_151_1 : fieldOff Tryz.prog 151 1 = some 1 := by kernel_rfl
theorem ze_151 : zeroOf Tryz.prog 151 = some (.agg #[.map none, .map none]) := by kernel_rfl
theorem ag_153 : aggOf Tryz.prog 153 = some (some 2) := by kernel_rfl
theorem sz_153 : sizeOf' Tryz.prog 153 = some 2 := by kernel_rfl
theorem fl_153 : flatOf Tryz.prog 153 = some 2 := by kernel_rfl
theorem fo_153_0 : fieldOff Tryz.prog 153 0 = some 0 := by kernel_rfl
theorem fo_153_1 : fieldOff Tryz.prog 153 1 = some 1 := by kernel_rfl
theorem ze_153 : zeroOf Tryz.prog 153 = some (.agg #[.int .i64 0, .string (bs [])]) := by kernel_rfl
theorem ag_154 : aggOf Tryz.prog 154 = some (some 2) := by kernel_rfl
theorem sz_154 : sizeOf' Tryz.prog 154 = some 2 := by kernel_rfl
theorem fl_154 : flatOf Tryz.prog 154 = some 2 := by kernel_rfl
theorem fo_154_0 : fieldOff Tryz.prog 154 0 = some 0 := by kernel_rfl
theorem fo_154_1 : fieldOff Tryz.prog 154 1 = some 1 := by kernel_rfl
theorem ze_154 : zeroOf Tryz.prog 154 = some (.agg #[.int .i64 0, .string (bs [])]) := by kernel_rfl
theorem ag_162 : aggOf Tryz.prog 162 = some none := by kernel_rfl
theorem sz_162 : sizeOf' Tryz.prog 162 = some 1 := by kernel_rfl
theorem el_162 : elemOf' Tryz.prog 162 = some (168, 3, 32) := by kernel_rfl
theorem ze_162 : zeroOf Tryz.prog 162 = some (.slice none 0 0) := by kernel_rfl
theorem ag_163 : aggOf Tryz.prog 163 = some (some 1) := by kernel_rfl
theorem sz_163 : sizeOf' Tryz.prog 163 = some 1 := by kernel_rfl
theorem fl_163 : flatOf Tryz.prog 163 = some 1 := by kernel_rfl
theorem fo_163_0 : fieldOff Tryz.prog 163 0 = some 0 := by kernel_rfl
theorem ze_163 : zeroOf Tryz.prog 163 = some (.agg #[.slice none 0 0]) := by kernel_rfl
theorem ag_164 : aggOf Tryz.prog 164 = some (some 1) := by kernel_rfl
theorem sz_164 : sizeOf' Tryz.prog 164 = some 1 := by kernel_rfl
theorem fl_164 : flatOf Tryz.prog 164 = some 1 := by kernel_rfl
theorem fo_164_0 : fieldOff Tryz.prog 164 0 = some 0 := by kernel_rfl
theorem ze_164 : zeroOf Tryz.prog 164 = some (.agg #[.slice none 0 0]) := by kernel_rfl
theorem ag_167 : aggOf Tryz.prog 167 = some (some 3) := by kernel_rfl
theorem sz_167 : sizeOf' Tryz.prog 167 = some 3 := by kernel_rfl
theorem fl_167 : flatOf Tryz.prog 167 = some 3 := by kernel_rfl
theorem fo_167_0 : fieldOff Tryz.prog 167 0 = some 0 := by kernel_rfl
theorem fo_167_1 : fieldOff Tryz.prog 167 1 = some 1 := by kernel_rfl
theorem fo_167_2 : fieldOff Tryz.prog 167 2 = some 2 := by kernel_rfl
theorem ze_167 : zeroOf Tryz.prog 167 = some (.agg #[.int .i64 0, .int .i64 0, .string (bs [])]) := by kernel_rfl
theorem ag_168 : aggOf Tryz.prog 168 = some (some 3) := by kernel_rfl
theorem sz_168 : sizeOf' Tryz.prog 168 = some 3 := by kernel_rfl
theorem fl_168 : flatOf Tryz.prog 168 = some 3 := by kernel_rfl
theorem fo_168_0 : fieldOff Tryz.prog 168 0 = some 0 := by kernel_rfl
theorem fo_168_1 : fieldOff Tryz.prog 168 1 = some 1 := by kernel_rfl
theorem fo_168_2 : fieldOff Tryz.prog 168 2 = some 2 := by kernel_rfl
theorem ze_168 : zeroOf Tryz.prog 168 = some (.agg #[.int .i64 0, .int .i64 0, .string (bs [])]) := by kernel_rfl
theorem ag_178 : aggOf Tryz.prog 178 = some none := by kernel_rfl
theorem sz_178 : sizeOf' Tryz.prog 178 = some 1 := by kernel_rfl
theorem ze_178 : zeroOf Tryz.prog 178 = some (.nilFunc) := by kernel_rfl
theorem ag_185 : aggOf Tryz.prog 185 = some none := by kernel_rfl
theorem sz_185 : sizeOf' Tryz.prog 185 = some 1 := by kernel_rfl
theorem ze_185 : zeroOf Tryz.prog 185 = some (.int .u64 0) := by kernel_rfl
theorem ag_188 : aggOf Tryz.prog 188 = some none := by kernel_rfl
theorem sz_188 : sizeOf' Tryz.prog 188 = some 1 := by kernel_rfl
theorem el_188 : elemOf' Tryz.prog 188 = some (154, 2, 24) := by kernel_rfl
theorem ze_188 : zeroOf Tryz.prog 188 = some (.slice none 0 0) := by kernel_rfl
theorem ag_199 : aggOf Tryz.prog 199 = some none := by kernel_rfl
theorem sz_199 : sizeOf' Tryz.prog 199 = some 1 := by kernel_rfl
theorem ze_199 : zeroOf Tryz.prog 199 = some (.int .i64 0) := by kernel_rfl
theorem ag_208 : aggOf Tryz.prog 208 = some none := by kernel_rfl
theorem sz_208 : sizeOf' Tryz.prog 208 = some 1 := by kernel_rfl
theorem ze_208 : zeroOf Tryz.prog 208 = some (.int .u32 0) := by kernel_rfl
theorem ag_210 : aggOf Tryz.prog 210 = some none := by kernel_rfl
theorem sz_210 : sizeOf' Tryz.prog 210 = some 1 := by kernel_rfl
theorem ze_210 : zeroOf Tryz.prog 210 = some (.int .u64 0) := by kernel_rfl
theorem ag_220 : aggOf Tryz.prog 220 = some none := by kernel_rfl
theorem sz_220 : sizeOf' Tryz.prog 220 = some 1 := by kernel_rfl
theorem ze_220 : zeroOf Tryz.prog 220 = some (.int .u64 0) := by kernel_rfl
theorem ag_224 : aggOf Tryz.prog 224 = some none := by kernel_rfl
theorem sz_224 : sizeOf' Tryz.prog 224 = some 1 := by kernel_rfl
theorem ze_224 : zeroOf Tryz.prog 224 = some (.pointer none) := by kernel_rfl
theorem ag_232 : aggOf Tryz.prog 232 = some none := by kernel_rfl
theorem sz_232 : sizeOf' Tryz.prog 232 = some 1 := by kernel_rfl
theorem ze_232 : zeroOf Tryz.prog 232 = some (.pointer none) := by kernel_rfl
theorem ag_238 : aggOf Tryz.prog 238 = some (some 256) := by kernel_rfl
theorem sz_238 : sizeOf' Tryz.prog 238 = some 256 := by kernel_rfl
theorem ar_238 : arrOf Tryz.prog 238 = some (256, 5, 1) := by kernel_rfl
theorem ag_239 : aggOf Tryz.prog 239 = some (some 2) := by kernel_rfl
theorem sz_239 : sizeOf' Tryz.prog 239 = some 2 := by kernel_rfl
theorem fl_239 : flatOf Tryz.prog 239 = some 2 := by kernel_rfl
theorem fo_239_0 : fieldOff Tryz.prog 239 0 = some 0 := by kernel_rfl
theorem fo_239_1 : fieldOff Tryz.prog 239 1 = some 1 := by kernel_rfl
theorem ze_239 : zeroOf Tryz.prog 239 = some (.agg #[.int .u8 0, .int .u8 0]) := by kernel_rfl
theorem ag_240 : aggOf Tryz.prog 240 = some (some 2) := by kernel_rfl
theorem sz_240 : sizeOf' Tryz.prog 240 = some 2 := by kernel_rfl
theorem fl_240 : flatOf Tryz.prog 240 = some 2 := by kernel_rfl
theorem fo_240_0 : fieldOff Tryz.prog 240 0 = some 0 := by kernel_rfl
theorem fo_240_1 : fieldOff Tryz.prog 240 1 = some 1 := by kernel_rfl
theorem ze_240 : zeroOf Tryz.prog 240 = some (.agg #[.int .u8 0, .int .u8 0]) := by kernel_rfl
theorem ag_241 : aggOf Tryz.prog 241 = some (some 32) := by kernel_rfl
theorem sz_241 : sizeOf' Tryz.prog 241 = some 32 := by kernel_rfl
theorem ar_241 : arrOf Tryz.prog 241 = some (16, 240, 2) := by kernel_rfl
theorem ze_241 : zeroOf Tryz.prog 241 = some (.agg #[.int .u8 0, .int .u8 0, .int .u8 0, .int .u8 0, .int .u8 0, .int .u8 0, .int .u8 0, .int .u8 0, .int .u8 0, .int .u8 0, .int .u8 0, .int .u8 0, .int .u8 0, .int .u8 0, .int .u8 0, .int .u8 0, .int .u8 0, .int .u8 0, .int .u8 0, .int .u8 0, .int .u8 0, .int .u8 0, .int .u8 0, .int .u8 0, .int .u8 0, .int .u8 0, .int .u8 0, .int .u8 0, .int .u8 0, .int .u8 0, .int .u8 0, .int .u8 0]) := by kernel_rfl
theorem ag_245 : aggOf Tryz.prog 245 = some (some 4) := by kernel_rfl
theorem sz_245 : sizeOf' Tryz.prog 245 = some 4 := by kernel_rfl
theorem fl_245 : flatOf Tryz.prog 245 = some 4 := by kernel_rfl
theorem fo_245_0 : fieldOff Tryz.prog 245 0 = some 0 := by kernel_rfl
theorem fo_245_1 : fieldOff Tryz.prog 245 1 = some 1 := by kernel_rfl
theorem fo_245_2 : fieldOff Tryz.prog 245 2 = some 2 := by kernel_rfl
theorem fo_245_3 : fieldOff Tryz.prog 245 3 = some 3 := by kernel_rfl
theorem ze_245 : zeroOf Tryz.prog 245 = some (.agg #[.pointer none, .pointer none, .pointer none, .string (bs [])]) := by kernel_rfl
theorem ag_246 : aggOf Tryz.prog 246 = some (some 4) := by kernel_rfl
theorem sz_246 : sizeOf' Tryz.prog 246 = some 4 := by kernel_rfl
theorem fl_246 : flatOf Tryz.prog 246 = some 4 := by kernel_rfl
theorem fo_246_0 : fieldOff Tryz.prog 246 0 = some 0 := by kernel_rfl
theorem fo_246_1 : fieldOff Tryz.prog 246 1 = some 1 := by kernel_rfl
theorem fo_246_2 : fieldOff Tryz.prog 246 2 = some 2 := by kernel_rfl
theorem fo_246_3 : fieldOff Tryz.prog 246 3 = some 3 := by kernel_rfl
theorem ze_246 : zeroOf Tryz.prog 246 = some (.agg #[.pointer none, .pointer none, .pointer none, .string (bs [])]) := by kernel_rfl
theorem ag_247 : aggOf Tryz.prog 247 = some (some 0) := by kernel_rfl
theorem sz_247 : sizeOf' Tryz.prog 247 = some 0 := by kernel_rfl
theorem ar_247 : arrOf Tryz.prog 247 = some (0, 16, 1) := by kernel_rfl
theorem ze_247 : zeroOf Tryz.prog 247 = some (.agg #[]) := by kernel_rfl
theorem ag_248 : aggOf Tryz.prog 248 = some (some 0) := by kernel_rfl
theorem sz_248 : sizeOf' Tryz.prog 248 = some 0 := by kernel_rfl
theorem ze_248 : zeroOf Tryz.prog 248 = some (.agg #[]) := by kernel_rfl
theorem ag_249 : aggOf Tryz.prog 249 = some (some 0) := by kernel_rfl
theorem sz_249 : sizeOf' Tryz.prog 249 = some 0 := by kernel_rfl
theorem ze_249 : zeroOf Tryz.prog 249 = some (.agg #[]) := by kernel_rfl
theorem ag_250 : aggOf Tryz.prog 250 = some none := by kernel_rfl
theorem sz_250 : sizeOf' Tryz.prog 250 = some 1 := by kernel_rfl
theorem ze_250 : zeroOf Tryz.prog 250 = some (.int .u8 0) := by kernel_rfl
theorem ag_251 : aggOf Tryz.prog 251 = some none := by kernel_rfl
theorem sz_251 : sizeOf' Tryz.prog 251 = some 1 := by kernel_rfl
theorem ze_251 : zeroOf Tryz.prog 251 = some (.int .u8 0) := by kernel_rfl
theorem ag_253 : aggOf Tryz.prog 253 = some none := by kernel_rfl
theorem sz_253 : sizeOf' Tryz.prog 253 = some 1 := by kernel_rfl
theorem ze_253 : zeroOf Tryz.prog 253 = some (.pointer none) := by kernel_rfl
theorem ag_254 : aggOf Tryz.prog 254 = some none := by kernel_rfl
theorem sz_254 : sizeOf' Tryz.prog 254 = some 1 := by kernel_rfl
theorem ze_254 : zeroOf Tryz.prog 254 = some (.int .i32 0) := by kernel_rfl
theorem ag_255 : aggOf Tryz.prog 255 = some none := by kernel_rfl
theorem sz_255 : sizeOf' Tryz.prog 255 = some 1 := by kernel_rfl
theorem ze_255 : zeroOf Tryz.prog 255 = some (.int .i32 0) := by kernel_rfl
theorem ag_256 : aggOf Tryz.prog 256 = some (some 11) := by kernel_rfl
theorem sz_256 : sizeOf' Tryz.prog 256 = some 11 := by kernel_rfl
theorem fl_256 : flatOf Tryz.prog 256 = some 11 := by kernel_rfl
theorem fo_256_0 : fieldOff Tryz.prog 256 0 = some 0 := by kernel_rfl
theorem fo_256_1 : fieldOff Tryz.prog 256 1 = some 1 := by kernel_rfl
theorem fo_256_2 : fieldOff Tryz.prog 256 2 = some 2 := by kernel_rfl
theorem fo_256_3 : fieldOff Tryz.prog 256 3 = some 3 := by kernel_rfl
theorem fo_256_4 : fieldOff Tryz.prog 256 4 = some 4 := by kernel_rfl
theorem fo_256_5 : fieldOff Tryz.prog 256 5 = some 5 := by kernel_rfl
theorem fo_256_6 : fieldOff Tryz.prog 256 6 = some 6 := by kernel_rfl
theorem fo_256_7 : fieldOff Tryz.prog 256 7 = some 7 := by kernel_rfl
theorem fo_256_8 : fieldOff Tryz.prog 256 8 = some 8 := by kernel_rfl
theorem fo_256_9 : fieldOff Tryz.prog 256 9 = some 9 := by kernel_rfl
theorem fo_256_10 : fieldOff Tryz.prog 256 10 = some 10 := by kernel_rfl
theorem ze_256 : zeroOf Tryz.prog 256 = some (.agg #[.int .u64 0, .int .u64 0, .int .u32 0, .int .u8 0, .int .u8 0, .int .u8 0, .int .u8 0, .nilFunc, .pointer none, .int .i32 0, .int .i32 0]) := by kernel_rfl
theorem ag_257 : aggOf Tryz.prog 257 = some (some 11) := by kernel_rfl
theorem sz_257 : sizeOf' Tryz.prog 257 = some 11 := by kernel_rfl
theorem fl_257 : flatOf Tryz.prog 257 = some 11 := by kernel_rfl
theorem fo_257_0 : fieldOff Tryz.prog 257 0 = some 0 := by kernel_rfl
theorem fo_257_1 : fieldOff Tryz.prog 257 1 = some 1 := by kernel_rfl
theorem fo_257_2 : fieldOff Tryz.prog 257 2 = some 2 := by kernel_rfl
theorem fo_257_3 : fieldOff Tryz.prog 257 3 = some 3 := by kernel_rfl
theorem fo_257_4 : fieldOff Tryz.prog 257 4 = some 4 := by kernel_rfl
theorem fo_257_5 : fieldOff Tryz.prog 257 5 = some 5 := by kernel_rfl
theorem fo_257_6 : fieldOff Tryz.prog 257 6 = some 6 := by kernel_rfl
theorem fo_257_7 : fieldOff Tryz.prog 257 7 = some 7 := by kernel_rfl
theorem fo_257_8 : fieldOff Tryz.prog 257 8 = some 8 := by kernel_rfl
theorem fo_257_9 : fieldOff Tryz.prog 257 9 = some 9 := by kernel_rfl
theorem fo_257_10 : fieldOff Tryz.prog 257 10 = some 10 := by kernel_rfl
theorem ze_257 : zeroOf Tryz.prog 257 = some (.agg #[.int .u64 0, .int .u64 0, .int .u32 0, .int .u8 0, .int .u8 0, .int .u8 0, .int .u8 0, .nilFunc, .pointer none, .int .i32 0, .int .i32 0]) := by kernel_rfl
theorem ag_258 : aggOf Tryz.prog 258 = some none := by kernel_rfl
theorem sz_258 : sizeOf' Tryz.prog 258 = some 1 := by kernel_rfl
theorem ze_258 : zeroOf Tryz.prog 258 = some (.pointer none) := by kernel_rfl
end Go.Proofs.YtnnbelmpbmfdnaaGreatDoor

/- Own work: paths as plain data. -/
namespace Go.Proofs.YtnnbelmpbmfdnaaGreatDoor
open Go

abbrev Bs := List UInt8
def letterB (c : UInt8) : Bool := (decide (97 ≤ c.toNat) && decide (c.toNat ≤ 122)) || (decide (65 ≤ c.toNat) && decide (c.toNat ≤ 90)) || (decide (48 ≤ c.toNat) && decide (c.toNat ≤ 57)) || decide (c.toNat = 95) || decide (c.toNat = 45) || decide (c.toNat = 46)
def isNameZ (s : Bs) : Bool := !decide (s = []) && !decide (s = [46]) && !decide (s = [46, 46]) && s.all letterB
/-- The texts between slashes. -/
def splitZ : Bs → List Bs
  | [] => [[]]
  | c :: r => if c = 47 then [] :: splitZ r else match splitZ r with
    | h :: t => (c :: h) :: t
    | [] => [[c]]
theorem splitZ_ne (s : Bs) : splitZ s ≠ [] := by
  induction s with
  | nil => simp [splitZ]
  | cons c r ih =>
    unfold splitZ
    split
    · simp
    · split <;> simp
def checkZ (p : Bs) : Int :=
  if p = [47] then 0
  else if (splitZ p).head? ≠ some [] ∨ (splitZ p).length = 1 ∨ (splitZ p).tail.all isNameZ = false then 40
  else if p.length > 60 ∨ (splitZ p).length > 7 then 41 else 0
/-- The bytes ahead of the first slash, and those behind it. -/
def cutZ0 : Bs → Bs
  | [] => []
  | c :: r => if c = 47 then [] else c :: cutZ0 r
theorem split_none {s : Bs} (h : (47 : UInt8) ∉ s) : splitZ s = [s] := by
  induction s with
  | nil => rfl
  | cons c r ih =>
    have h1 : c ≠ 47 := fun e => h (by rw [e]; exact List.mem_cons_self)
    unfold splitZ
    rw [if_neg h1, ih (fun hm => h (List.mem_cons_of_mem _ hm))]
theorem split_at {a r : Bs} (h : (47 : UInt8) ∉ a) : splitZ (a ++ 47 :: r) = a :: splitZ r := by
  induction a with
  | nil => simp [splitZ]
  | cons c a ih =>
    have h1 : c ≠ 47 := fun e => h (by rw [e]; exact List.mem_cons_self)
    rw [List.cons_append, splitZ, if_neg h1, ih (fun hm => h (List.mem_cons_of_mem _ hm))]
theorem split_len (s : Bs) : (splitZ s).length = s.count 47 + 1 := by
  induction s with
  | nil => rfl
  | cons c r ih =>
    unfold splitZ
    split
    · rename_i h; subst h; simp [ih]
    · rename_i h
      rw [List.count_cons_of_ne (by simpa using h), ← ih]
      split
      · rename_i h2; simp [h2]
      · rename_i h2; exact absurd h2 (splitZ_ne r)
theorem letter_of {c : UInt8} (h : (97 ≤ c.toNat ∧ c.toNat ≤ 122) ∨ (65 ≤ c.toNat ∧ c.toNat ≤ 90) ∨ (48 ≤ c.toNat ∧ c.toNat ≤ 57) ∨ c.toNat = 95 ∨ c.toNat = 45 ∨ c.toNat = 46) : letterB c = true := by
  unfold letterB
  simp only [Bool.or_eq_true, Bool.and_eq_true, decide_eq_true_eq]
  omega
theorem letter_not {c : UInt8} (h : ¬ ((97 ≤ c.toNat ∧ c.toNat ≤ 122) ∨ (65 ≤ c.toNat ∧ c.toNat ≤ 90) ∨ (48 ≤ c.toNat ∧ c.toNat ≤ 57) ∨ c.toNat = 95 ∨ c.toNat = 45 ∨ c.toNat = 46)) : letterB c = false := by
  rw [← Bool.not_eq_true]
  intro g
  unfold letterB at g
  simp only [Bool.or_eq_true, Bool.and_eq_true, decide_eq_true_eq] at g
  omega
theorem all_next {s : Bs} {i : Nat} (hi : i < s.length) (h : (s.take i).all letterB = true) (hc : letterB s[i] = true) : (s.take (i + 1)).all letterB = true := by
  rw [List.take_succ_eq_append_getElem hi, List.all_append, h]
  simp [hc]
theorem name_bad {s : Bs} {i : Nat} (hi : i < s.length) (hc : letterB s[i] = false) : isNameZ s = false := by
  unfold isNameZ
  have : s.all letterB = false := by
    rw [← Bool.not_eq_true]
    intro g
    have := List.all_eq_true.1 g _ (List.getElem_mem hi)
    rw [hc] at this; cases this
  rw [this, Bool.and_false]
end Go.Proofs.YtnnbelmpbmfdnaaGreatDoor
/- Own work: structs that are compared, and structs as keys of maps. -/

namespace Go.Proofs.YtnnbelmpbmfdnaaGreatDoor
open Go

/-- One field of two structs: its comparison. -/
def FEq (P : Program) (d : Nat) (xs ys : Array Value) (f : Field) (r : Bool) : Prop :=
  f.name ≠ "_" ∧ ∀ w, ∃ a b, (part f.type xs f.offset).run P w = .ok a w ∧ (part f.type ys f.offset).run P w = .ok b w ∧ (Op.equalIn d f.type a b).run P w = .ok r w
inductive FEqs (P : Program) (d : Nat) (xs ys : Array Value) : List Field → List Bool → Prop
  | nil : FEqs P d xs ys [] []
  | cons {f fs r rs} : FEq P d xs ys f r → FEqs P d xs ys fs rs → FEqs P d xs ys (f :: fs) (r :: rs)
theorem eqFields_row {P : Program} {d : Nat} {xs ys : Array Value} {fs : List Field} {rs : List Bool} (h : FEqs P d xs ys fs rs) (w : World) : (Op.eqFields d xs ys fs).run P w = .ok (rs.all id) w := by
  induction h with
  | nil => rfl
  | @cons f fs r rs h1 _ ih =>
    obtain ⟨hn, hr⟩ := h1
    obtain ⟨a, b, q1, q2, q3⟩ := hr w
    unfold Op.eqFields
    rw [if_pos hn, run_bind q1, run_bind q2, run_bind q3]
    cases r
    · rfl
    · simpa using ih
/-- A type's comparison, at a depth. -/
def EqAt (P : Program) (d : Nat) (t : TypeId) (x y : Value) (r : Bool) : Prop := ∀ w, (Op.equalIn d t x y).run P w = .ok r w
theorem EqAt.int {P : Program} {d : Nat} {t : TypeId} {k : IntKind} (ht : P.underlying t = some (.int k)) (a b : Int) : EqAt P (d + 1) t (.int k a) (.int k b) (decide (a = b)) := by
  intro w
  rw [run_equalIn_int w d t k k a b ht, beq_dec]
theorem EqAt.bool {P : Program} {d : Nat} {t : TypeId} (ht : P.underlying t = some .bool) (a b : Bool) : EqAt P (d + 1) t (.bool a) (.bool b) (decide (a = b)) := by
  intro w
  rw [run_equalIn_bool' w d t a b ht]
  cases a <;> cases b <;> rfl
theorem EqAt.str {P : Program} {d : Nat} {t : TypeId} (ht : P.underlying t = some .string) (a b : List UInt8) : EqAt P (d + 1) t (vstr a) (vstr b) (decide (a = b)) := by
  intro w
  unfold Op.equalIn
  rw [run_bind (run_underlying ht)]
  show Result.ok (bs a == bs b) w = _
  rw [bs_beq]
theorem EqAt.struct {P : Program} {d : Nat} {t : TypeId} {fs : Array Field} (ht : P.underlying t = some (.struct fs)) (hp : P.stoodInHeld t = false) {xs ys : List Value} {rs : List Bool} (h : FEqs P d xs.toArray ys.toArray fs.toList rs) : EqAt P (d + 1) t (.agg xs.toArray) (.agg ys.toArray) (rs.all id) := by
  intro w
  have hf : P.fieldsOf t = fs := by unfold Program.fieldsOf; rw [ht]
  rw [run_equalIn_struct w d t _ _ (by rw [hf]; exact ht) hp, hf]
  exact eqFields_row h w
section parts
variable {P : Program} {w : World}
theorem run_part_cell {t : TypeId} {xs : List Value} {off : Nat} {v : Value} (h : aggOf P t = some none) (hc : xs[off]? = some v) : (part t xs.toArray off).run P w = .ok v w := by
  unfold part
  rw [run_bind (run_isAgg h)]
  simp only [Option.isSome_none, Bool.false_eq_true, if_false]
  rw [show xs.toArray[off]? = some v by simpa using hc]
  rfl
theorem run_part_agg {t : TypeId} {k : Nat} {xs : List Value} {off : Nat} (h : aggOf P t = some (some k)) : (part t xs.toArray off).run P w = .ok (.agg ((xs.drop off).take k).toArray) w := by
  unfold part
  rw [run_bind (run_isAgg h)]
  simp only [Option.isSome_some, if_true]
  rw [run_bind (run_sizeOf (sizeOf_of_agg h))]
  show Result.ok (Value.agg (xs.toArray.extract off (off + k))) w = _
  rw [List.extract_toArray, List.extract_eq_take_drop, show off + k - off = k by omega]
end parts
theorem FEq.cell {P : Program} {d : Nat} {xs ys : List Value} {f : Field} {a b : Value} {r : Bool} (hn : f.name ≠ "_") (hag : aggOf P f.type = some none) (hx : xs[f.offset]? = some a) (hy : ys[f.offset]? = some b) (he : EqAt P d f.type a b r) : FEq P d xs.toArray ys.toArray f r :=
  ⟨hn, fun w => ⟨a, b, run_part_cell hag (by simpa using hx), run_part_cell hag (by simpa using hy), he w⟩⟩
theorem FEq.agg {P : Program} {d k : Nat} {xs ys : List Value} {f : Field} {r : Bool} (hn : f.name ≠ "_") (hag : aggOf P f.type = some (some k)) (he : EqAt P d f.type (.agg ((xs.drop f.offset).take k).toArray) (.agg ((ys.drop f.offset).take k).toArray) r) : FEq P d xs.toArray ys.toArray f r :=
  ⟨hn, fun w => ⟨_, _, run_part_agg hag, run_part_agg hag, he w⟩⟩
section
variable {P : Program} {E : Env} {L R : List HP} {ty : TypeId} {w : World}
theorem Quiet.structEq {t t' : TypeId} {x y : Operand} {xs ys : List Value} {r : Bool} (hx : ev E x = some (.agg xs.toArray)) (hy : ev E y = some (.agg ys.toArray)) (hg : P.eqGuardType P.depth t = false) (he : EqAt P 10000 t (.agg xs.toArray) (.agg ys.toArray) r) :
    Quiet P ⟨none, .binOp .eql t x y t', ty, "", #[], none⟩ E L (.bool r) := by
  intro ρ w ha _
  show (do pure (Next.value (← (do eqGuard .eql t x y (ρ x) (ρ y); binOp .eql t (ρ x) (ρ y)))) : Sem Next).run P w = _
  rw [ha x _ hx, ha y _ hy]
  refine run_v ?_
  rw [run_bind (run_eqGuard_agg w .eql t x y _ _ hg), run_eql_struct, he w]; rfl
theorem Quiet.structNe {t t' : TypeId} {x y : Operand} {xs ys : List Value} {r : Bool} (hx : ev E x = some (.agg xs.toArray)) (hy : ev E y = some (.agg ys.toArray)) (hg : P.eqGuardType P.depth t = false) (he : EqAt P 10000 t (.agg xs.toArray) (.agg ys.toArray) r) :
    Quiet P ⟨none, .binOp .neq t x y t', ty, "", #[], none⟩ E L (.bool (!r)) := by
  intro ρ w ha _
  show (do pure (Next.value (← (do eqGuard .neq t x y (ρ x) (ρ y); binOp .neq t (ρ x) (ρ y)))) : Sem Next).run P w = _
  rw [ha x _ hx, ha y _ hy]
  refine run_v ?_
  rw [run_bind (run_eqGuard_agg w .neq t x y _ _ hg), run_neq_struct, he w]; rfl
end
/-! ### Structs of bigger parts -/
def placesN (P : Program) (fs : Array Field) : Option (List (Nat × Nat)) := fs.toList.mapM fun f => (P.info? f.type).map fun i => (f.offset, i.size)
theorem mapM_placesN {P : Program} {fs : Array Field} {pl : List (Nat × Nat)} (h : placesN P fs = some pl) (w : World) : (fs.mapM (m := Sem) fun f => do pure (f.offset, ← sizeOf f.type)).run P w = .ok pl.toArray w := by
  have key : ∀ (l : List Field) (pl : List (Nat × Nat)), (l.mapM fun f => (P.info? f.type).map fun i => (f.offset, i.size)) = some pl → (l.mapM (m := Sem) fun f => do pure (f.offset, ← sizeOf f.type)).run P w = .ok pl w := by
    intro l
    induction l with
    | nil => intro pl h; simp at h; subst h; rfl
    | cons f l ih =>
      intro pl h
      rw [List.mapM_cons] at h
      simp only [bind, Option.bind_eq_some_iff, pure, Option.some.injEq, Option.map_eq_some_iff] at h
      obtain ⟨a, ⟨i, hi, rfl⟩, bs, hb, rfl⟩ := h
      rw [List.mapM_cons]
      have h2 : sizeOf' P f.type = some i.size := by unfold sizeOf'; rw [hi]; rfl
      rw [run_bind (a := (f.offset, i.size)) (w' := w) (by rw [run_bind (run_sizeOf h2)]; rfl), run_bind (ih bs hb)]
      rfl
  have hm : (fs.mapM (m := Sem) fun f => do pure (f.offset, ← sizeOf f.type)) = (Functor.map List.toArray (fs.toList.mapM (m := Sem) fun f => do pure (f.offset, ← sizeOf f.type))) := by
    rw [Array.mapM_eq_mapM_toList]
  rw [hm]
  rw [show (Functor.map List.toArray (fs.toList.mapM (m := Sem) fun f => do pure (f.offset, ← sizeOf f.type)) : Sem _) = ((fs.toList.mapM (m := Sem) fun f => do pure (f.offset, ← sizeOf f.type)) >>= fun l => pure l.toArray) from rfl]
  rw [run_bind (key _ _ h)]
  rfl
theorem Quiet.buildN {P : Program} {E : Env} {L : List HP} {ty : TypeId} {t : TypeId} {parts : Array (Nat × Operand)} {fs : Array Field} {pl : List (Nat × Nat)} {zl cells : List Value} {us : List (Nat × Value)} (hus : P.underlying t = some (.struct fs)) (hpl : placesN P fs = some pl) (hz : zeroOf P t = some (.agg zl.toArray))
    (hu : parts.toList.map (fun p => (p.1, ev E p.2)) = us.map (fun p => (p.1, some p.2))) (hfill : Instr.fill (fun i => pl.toArray[i]?) zl.toArray us = some cells.toArray) : Quiet P ⟨none, .build t parts, ty, "", #[], none⟩ E L (.agg cells.toArray) := by
  intro ρ w ha _
  refine run_v ?_
  show (Instr.build t (parts.map fun p => (p.1, ρ p.2))).run P w = _
  unfold Instr.build
  rw [run_bind (run_zero hz)]
  dsimp only
  rw [run_bind (run_underlying hus)]
  dsimp only
  rw [run_bind (mapM_placesN hpl w)]
  have hparts : (parts.map fun p => (p.1, ρ p.2)).toList = us := by
    rw [Array.toList_map]; exact agree_parts ha _ _ hu
  rw [hparts]
  rw [show Value.cells (.agg zl.toArray) = zl.toArray from rfl, hfill]
  rfl
/-! ### Keys -/
theorem find_asking {P : Program} {kt : TypeId} {K : Type} [DecidableEq K] {kv : K → Value} (he : ∀ a b, EqAt P 10000 kt (kv a) (kv b) (decide (a = b))) (k : K) : ∀ (es : List MapEntry) (ks : List K) (i : Nat) (w : World), es.map (·.key) = ks.map kv →
    (Instr.findAsking kt (kv k) es i).run P w = .ok ((posK k ks).bind fun j => (es[j]?).map fun e => (i + j, e.val)) w := by
  intro es
  induction es with
  | nil => intro ks i w h; cases ks with
    | nil => rfl
    | cons a l => simp at h
  | cons e es ih =>
    intro ks i w h
    cases ks with
    | nil => simp at h
    | cons a l =>
      simp only [List.map_cons, List.cons.injEq] at h
      unfold Instr.findAsking
      have hq : (Op.equal kt (kv k) e.key).run P w = .ok (decide (k = a)) w := by
        unfold Op.equal; rw [h.1]; exact he k a w
      rw [run_bind hq]
      by_cases hk : k = a
      · subst hk
        simp [posK, run_pure]
      · rw [decide_eq_false hk, posK, if_neg hk]
        simp only [Bool.false_eq_true, if_false]
        rw [ih l (i + 1) w h.2]
        cases posK k l with
        | none => rfl
        | some j => simp only [Option.map_some, Option.bind_some, List.getElem?_cons_succ, show i + 1 + j = i + (j + 1) by omega]
theorem Quiet.lookupV {P : Program} {E : Env} {L R : List HP} {ty : TypeId} {K β : Type} [DecidableEq K] {kv : K → Value} {enc : β → Value} {kt et : TypeId} (hl : KeyLaw P kt kv) {t : TypeId} {x y : Operand} {m : List (K × β)} {r : Nat} {k : K} {z v : Value} {ents : List (Value × Value)} (h1 : ∀ b, alook m k = some b → enc b = v) (h0 : alook m k = none → z = v) (hx : ev E x = some (.map (some r))) (hy : ev E y = some (kv k)) (ht : P.underlying t = some (.map kt et)) (hz : zeroOf P et = some z)
    (hL : Pick (mapR r ents) L R) (he : ents = m.map fun x => (kv x.1, enc x.2)) : Quiet P ⟨none, .lookup t x y false, ty, "", #[], none⟩ E L v := by
  rcases h : alook m k with _ | b
  · rw [← h0 h]; exact Quiet.lookupN hl h hx hy ht hz hL he
  · rw [← h1 b h]; exact Quiet.lookupY hl h hx hy ht hz hL he
/-- One field of a key: it may be one. -/
def FCk (P : Program) (e : Bool) (d : Nat) (xs : Array Value) (f : Field) : Prop :=
  f.name ≠ "_" ∧ ∀ w, ∃ a, (part f.type xs f.offset).run P w = .ok a w ∧ (Instr.checkKey e d f.type a).run P w = .ok () w
theorem check_struct {P : Program} {e : Bool} {d : Nat} {t : TypeId} {fs : Array Field} (ht : P.underlying t = some (.struct fs)) {xs : Array Value} (h : ∀ f ∈ fs.toList, FCk P e d xs f) (w : World) : (Instr.checkKey e (d + 1) t (.agg xs)).run P w = .ok () w := by
  simp only [Instr.checkKey, Sem.run_bind, run_underlying ht, Result.andThen_ok]
  rw [← Array.forIn_toList]
  generalize fs.toList = l at h
  clear ht
  induction l with
  | nil => simp
  | cons f l ih =>
    obtain ⟨hn, hr⟩ := h f List.mem_cons_self
    obtain ⟨a, q1, q2⟩ := hr w
    have ih' := ih (fun g hg => h g (List.mem_cons_of_mem _ hg))
    simp only [List.forIn_cons, Sem.run_bind, Sem.run_ite, if_pos hn, q1, q2, Result.andThen_ok, Sem.run_pure]
    exact ih'
theorem check_leaf {P : Program} {e : Bool} {d : Nat} {t : TypeId} {v : Value} {k : TypeDesc} (ht : P.underlying t = some k) (hk : k = .string ∨ (∃ q, k = .int q) ∨ k = .bool) (w : World) : (Instr.checkKey e (d + 1) t v).run P w = .ok () w := by
  unfold Instr.checkKey
  rw [run_bind (run_underlying ht)]
  rcases hk with rfl | ⟨q, rfl⟩ | rfl <;> rfl
theorem FCk.cell {P : Program} {e : Bool} {d : Nat} {xs : List Value} {f : Field} {a : Value} {k : TypeDesc} (hn : f.name ≠ "_") (hag : aggOf P f.type = some none) (hx : xs[f.offset]? = some a) (ht : P.underlying f.type = some k) (hk : k = .string ∨ (∃ q, k = .int q) ∨ k = .bool) : FCk P e (d + 1) xs.toArray f :=
  ⟨hn, fun w => ⟨a, run_part_cell hag hx, check_leaf ht hk w⟩⟩
theorem KeyLaw.struct {P : Program} {kt : TypeId} {fs : Array Field} {K : Type} [DecidableEq K] {kv : K → Value} (hu : P.underlying kt = some (.struct fs)) (he : ∀ a b, EqAt P 10000 kt (kv a) (kv b) (decide (a = b)))
    (hc : ∀ a e w, (Instr.checkKey e 10000 kt (kv a)).run P w = .ok () w) (hb : ∀ a, Instr.sameBits 10000 (kv a) (kv a) = true) : KeyLaw P kt kv where
  find := fun k es ks w h => by
    unfold Instr.findKey
    rw [run_bind (run_underlying hu)]
    cases es with
    | nil =>
      cases ks with
      | nil => rfl
      | cons a l => simp at h
    | cons e es =>
      have e1 : Instr.findNow (.struct fs) (kv k) (e :: es) 0 = none := by unfold Instr.findNow; rfl
      rw [e1]
      dsimp only
      have := find_asking he k (e :: es) ks 0 w h
      simp only [Nat.zero_add] at this
      exact this
  check := hc
  same := hb
end Go.Proofs.YtnnbelmpbmfdnaaGreatDoor
/- Own work: what all layers share, as plain data: events, rows of ACLs, stats; texts in their order; sorted tables. -/
namespace Go.Proofs.YtnnbelmpbmfdnaaGreatDoor
open Go

abbrev Ev := Int × (Bs × Int)
def evC (e : Ev) : List Value := [vint e.1, vstr e.2.1, vint e.2.2]
abbrev Ac := Int × Bs
def acC (a : Ac) : List Value := [vint a.1, vstr a.2]
structure Stt where
  cz : Int
  mz : Int
  pz : Int
  ver : Int
  cver : Int
  av : Int
  own : Int
  len : Int
  kids : Int
theorem Stt.ext' {a b : Stt} (h : [a.cz, a.mz, a.pz, a.ver, a.cver, a.av, a.own, a.len, a.kids] = [b.cz, b.mz, b.pz, b.ver, b.cver, b.av, b.own, b.len, b.kids]) : a = b := by
  cases a; cases b; simp at h; simp [h]
instance : DecidableEq Stt := fun a b => decidable_of_iff ([a.cz, a.mz, a.pz, a.ver, a.cver, a.av, a.own, a.len, a.kids] = [b.cz, b.mz, b.pz, b.ver, b.cver, b.av, b.own, b.len, b.kids]) ⟨Stt.ext', fun h => by rw [h]⟩
def st0 : Stt := ⟨0, 0, 0, 0, 0, 0, 0, 0, 0⟩
def stC (s : Stt) : List Value := [vint s.cz, vint s.mz, vint s.pz, vint s.ver, vint s.cver, vint s.av, vint s.own, vint s.len, vint s.kids]
/-! ### Structs compared -/
theorem ev_eq (d : Nat) (a b : Ev) : EqAt Tryz.prog (d + 2) 75 (.agg (evC a).toArray) (.agg (evC b).toArray) (decide (a = b)) := by
  have h := EqAt.struct (d := d + 1) (xs := evC a) (ys := evC b) Tryz.underlying75 (by kernel_rfl)
    (.cons (FEq.cell (by decide) ag_3 rfl rfl (EqAt.int Tryz.underlying3 a.1 b.1)) (.cons (FEq.cell (by decide) ag_9 rfl rfl (EqAt.str Tryz.underlying9 a.2.1 b.2.1)) (.cons (FEq.cell (by decide) ag_3 rfl rfl (EqAt.int Tryz.underlying3 a.2.2 b.2.2)) .nil)))
  have e : ([decide (a.1 = b.1), decide (a.2.1 = b.2.1), decide (a.2.2 = b.2.2)].all id) = decide (a = b) := by
    obtain ⟨a1, a2, a3⟩ := a; obtain ⟨b1, b2, b3⟩ := b
    simp [Bool.decide_and]
  rw [← e]; exact h
theorem st_eq (d : Nat) (a b : Stt) : EqAt Tryz.prog (d + 2) 43 (.agg (stC a).toArray) (.agg (stC b).toArray) (decide (a = b)) := by
  have q := fun x y : Int => EqAt.int (d := d) Tryz.underlying3 x y
  have h := EqAt.struct (d := d + 1) (xs := stC a) (ys := stC b) Tryz.underlying43 (by kernel_rfl)
    (.cons (FEq.cell (by decide) ag_3 rfl rfl (q a.cz b.cz)) (.cons (FEq.cell (by decide) ag_3 rfl rfl (q a.mz b.mz)) (.cons (FEq.cell (by decide) ag_3 rfl rfl (q a.pz b.pz)) (.cons (FEq.cell (by decide) ag_3 rfl rfl (q a.ver b.ver)) (.cons (FEq.cell (by decide) ag_3 rfl rfl (q a.cver b.cver))
      (.cons (FEq.cell (by decide) ag_3 rfl rfl (q a.av b.av)) (.cons (FEq.cell (by decide) ag_3 rfl rfl (q a.own b.own)) (.cons (FEq.cell (by decide) ag_3 rfl rfl (q a.len b.len)) (.cons (FEq.cell (by decide) ag_3 rfl rfl (q a.kids b.kids)) .nil)))))))))
  have e : ([decide (a.cz = b.cz), decide (a.mz = b.mz), decide (a.pz = b.pz), decide (a.ver = b.ver), decide (a.cver = b.cver), decide (a.av = b.av), decide (a.own = b.own), decide (a.len = b.len), decide (a.kids = b.kids)].all id) = decide (a = b) := by
    cases a; cases b
    simp [Bool.decide_and]
  rw [← e]; exact h
theorem ac_eq (d : Nat) (a b : Ac) : EqAt Tryz.prog (d + 2) 104 (.agg (acC a).toArray) (.agg (acC b).toArray) (decide (a = b)) := by
  have h := EqAt.struct (d := d + 1) (xs := acC a) (ys := acC b) Tryz.underlying104 (by kernel_rfl)
    (.cons (FEq.cell (by decide) ag_3 rfl rfl (EqAt.int Tryz.underlying3 a.1 b.1)) (.cons (FEq.cell (by decide) ag_9 rfl rfl (EqAt.str Tryz.underlying9 a.2 b.2)) .nil))
  have e : ([decide (a.1 = b.1), decide (a.2 = b.2)].all id) = decide (a = b) := by
    obtain ⟨a1, a2⟩ := a; obtain ⟨b1, b2⟩ := b
    simp [Bool.decide_and]
  rw [← e]; exact h
theorem flatMap_cell {α : Type} {f : α → List Value} {sz k : Nat} {l : List α} {i : Nat} (hf : ∀ x ∈ l, (f x).length = sz) (hi : i < l.length) (hk : k < sz) : (l.flatMap f)[i * sz + k]? = (f l[i])[k]? := by
  have h := flatMap_at hf hi
  have h2 : (((l.flatMap f).drop (i * sz)).take sz)[k]? = (f l[i])[k]? := by rw [h]
  rw [List.getElem?_take, if_pos hk, List.getElem?_drop] at h2
  exact h2
theorem ev_cell {l : List Ev} {i k : Nat} (hi : i < l.length) (hk : k < 3) : (l.flatMap evC)[i * 3 + k]? = (evC l[i])[k]? := flatMap_cell (f := evC) (sz := 3) (fun _ _ => rfl) hi hk
theorem slR_makeN {T : TypeId} {b m sz : Nat} {l : List Value} {h : Hp} (hl : l.length = m * sz) (hp : ptc b l T h) : slR T sz (.slice (some ⟨b, 0, none⟩) m m) m l h :=
  .inr ⟨b, m, [], (0, 0), rfl, by rw [List.append_nil]; exact hp, hl, by simp; omega, Nat.le_refl _, nfz0 _ _⟩
/-- A row that is read, and nobody's to write. -/
def rdO (sz : Nat) (v : Value) (n : Nat) (ys : List Value) : HP := fun h => rdS sz h v n ys
section
variable {W : World} {n : Nat} {ds : List Deferred} {E : Env} {L R : List HP} {X : Act → World → Prop}
theorem G.slMakeN (sz m : Nat) {T : TypeId} {b : Nat} {l xs : List Value} (hL : Pick (ptc b l T) L R) (hx : l = xs) (hl : xs.length = m * sz) (h : G W n ds E (slR T sz (.slice (some ⟨b, 0, none⟩) m m) m xs :: R) X) : G W n ds E L X := by
  subst hx
  exact fun a w he hk hs => h a w he hk (sep_imp (fun _ hp => slR_makeN hl hp) (hs.pick hL))
theorem G.toRd {T : TypeId} {sz m : Nat} {v : Value} {xs : List Value} (hL : Pick (slR T sz v m xs) L R) (h : G W n ds E (rdO sz v m xs :: R) X) : G W n ds E L X :=
  fun a w he hk hs => h a w he hk (sep_imp (fun _ hp => slR_rd hp) (hs.pick hL))
end
theorem G.rdNil {W : World} {n : Nat} {ds : List Deferred} {E : Env} {L R : List HP} {X : Act → World → Prop} {p : HP} {sz m c : Nat} {ys : List Value} (hr : ∀ h : Hp, p h → rdS sz h (.slice none m c) m ys) (hL : Pick p L R) (h : m = 0 → G W n ds E L X) : G W n ds E L X := by
  intro a w he hk hs
  obtain ⟨h1, -, hp⟩ := sep_head (hs.pick hL)
  rcases hr _ hp with ⟨h0, -⟩ | ⟨b, off, cap, l, T, fr, hv, -⟩
  · exact h h0 a w he hk hs
  · simp at hv
theorem big_one {α : Type} {f : α → HP} {x : α} {h : Hp} (hp : f x h) : bigR f [x] h :=
  ⟨h, fun _ => none, fun _ => .inr rfl, fun _ _ e => e, fun _ _ e => (by cases e), hp, trivial⟩
theorem OpSpec.mapInsert {P : Program} {E : Env} {ty : TypeId} {K β : Type} [DecidableEq K] {kv : K → Value} {enc : β → Value} {kt et : TypeId} (hl : KeyLaw P kt kv) {t : TypeId} {x y z : Operand} {m : List (K × β)} {r : Nat} {k : K} {v : β} {ents : List (Value × Value)} (hx : ev E x = some (.map (some r))) (hy : ev E y = some (kv k)) (hz : ev E z = some (enc v)) (ht : P.underlying t = some (.map kt et))
    (he : ents = m.map fun x => (kv x.1, enc x.2)) : OpSpec P ⟨none, .insert t x y z, ty, "", #[], none⟩ E [mapR r ents] fun _ L' => L' = [mapR r ((aset m k v).map fun x => (kv x.1, enc x.2))] :=
  fun ρ w F ha hs => OpSpec.mapSet (ty := ty) hl hx hy hz ht he ρ w F ha hs
theorem nodup_len {α : Type} [DecidableEq α] : ∀ {l m : List α}, l.Nodup → (∀ x ∈ l, x ∈ m) → l.length ≤ m.length := by
  intro l
  induction l with
  | nil => intro m _ _; simp
  | cons a l ih =>
    intro m hn hs
    obtain ⟨h1, h2⟩ := List.nodup_cons.1 hn
    have ha := hs a List.mem_cons_self
    have := ih (m := m.erase a) h2 fun x hx => (List.mem_erase_of_ne (fun (e : x = a) => h1 (e ▸ hx))).2 (hs x (List.mem_cons_of_mem _ hx))
    rw [List.length_erase_of_mem ha] at this
    have hp := List.length_pos_of_mem ha
    rw [List.length_cons]; omega
/-! ### Texts in their order -/
structure Lin (K : Type) [LT K] : Prop where
  irr : ∀ a : K, ¬ a < a
  tr : ∀ a b c : K, a < b → b < c → a < c
  tri : ∀ a b : K, a < b ∨ a = b ∨ b < a
theorem linB : Lin Bs where
  irr := fun a => List.lt_irrefl a
  tr := fun _ _ _ h1 h2 => List.lt_trans h1 h2
  tri := fun a b => by
    rcases Decidable.em (a < b) with h | h
    · exact .inl h
    · rcases Decidable.em (b < a) with h2 | h2
      · exact .inr (.inr h2)
      · exact .inr (.inl (List.le_antisymm (List.not_lt.1 h2) (List.not_lt.1 h)))
theorem linI : Lin Int where
  irr := fun a => Int.lt_irrefl a
  tr := fun _ _ _ h1 h2 => Int.lt_trans h1 h2
  tri := fun a b => Int.lt_trichotomy a b
/-! ### SortedK tables -/
def sset {K β : Type} [LT K] [DecidableEq K] [DecidableLT K] : List (K × β) → K → β → List (K × β)
  | [], k, v => [(k, v)]
  | x :: l, k, v => if x.1 = k then (k, v) :: l else if k < x.1 then (k, v) :: x :: l else x :: sset l k v
def SortedK {K β : Type} [LT K] (l : List (K × β)) : Prop := (l.map (·.1)).Pairwise (· < ·)
theorem SortedK.nodup {K β : Type} [LT K] (ho : Lin K) {l : List (K × β)} (h : SortedK l) : (l.map (·.1)).Nodup := List.Pairwise.imp (S := fun a b : K => a ≠ b) (fun {a b} hab e => ho.irr b (by rw [e] at hab; exact hab)) h
theorem SortedK.filter {K β : Type} [LT K] {l : List (K × β)} (h : SortedK l) (f : K × β → Bool) : SortedK (l.filter f) := List.Pairwise.sublist (List.Sublist.map _ List.filter_sublist) h
theorem sset_keys {K β : Type} [LT K] [DecidableEq K] [DecidableLT K] (l : List (K × β)) (k x : K) (v : β) : x ∈ (sset l k v).map (·.1) ↔ x = k ∨ x ∈ l.map (·.1) := by
  induction l with
  | nil => simp [sset]
  | cons y l ih =>
    unfold sset
    split
    · rename_i h; simp [h]
    · split
      · simp
      · rw [List.map_cons, List.mem_cons, ih, List.map_cons, List.mem_cons]
        constructor
        · rintro (h | h | h)
          · exact .inr (.inl h)
          · exact .inl h
          · exact .inr (.inr h)
        · rintro (h | h | h)
          · exact .inr (.inl h)
          · exact .inl h
          · exact .inr (.inr h)
theorem SortedK.sset {K β : Type} [LT K] [DecidableEq K] [DecidableLT K] (ho : Lin K) {l : List (K × β)} (h : SortedK l) (k : K) (v : β) : SortedK (sset l k v) := by
  induction l with
  | nil => simp [SortedK, Go.Proofs.YtnnbelmpbmfdnaaGreatDoor.sset]
  | cons y l ih =>
    obtain ⟨h1, h2⟩ := List.pairwise_cons.1 h
    unfold Go.Proofs.YtnnbelmpbmfdnaaGreatDoor.sset
    split
    · rename_i e; subst e; exact List.pairwise_cons.2 ⟨h1, h2⟩
    · rename_i e
      split
      · rename_i hl
        refine List.pairwise_cons.2 ⟨fun a ha => ?_, h⟩
        rcases List.mem_cons.1 ha with rfl | ha
        · exact hl
        · exact ho.tr _ _ _ hl (h1 a ha)
      · rename_i hl
        refine List.pairwise_cons.2 ⟨fun a ha => ?_, ih h2⟩
        rcases (sset_keys l k a v).1 ha with rfl | ha
        · rcases ho.tri y.1 a with g | g | g
          · exact g
          · exact absurd g e
          · exact absurd g hl
        · exact h1 a ha
theorem al_sset {K β : Type} [LT K] [DecidableEq K] [DecidableLT K] (l : List (K × β)) (k x : K) (v : β) : alook (sset l k v) x = if x = k then some v else alook l x := by
  induction l with
  | nil => simp [sset, alook]
  | cons y l ih =>
    obtain ⟨a, b⟩ := y
    unfold sset
    dsimp only
    split
    · rename_i e; subst e
      by_cases hx : x = a <;> simp [alook, hx]
    · rename_i e
      split
      · by_cases hx : x = k <;> simp [alook, hx]
      · by_cases hx : x = a
        · subst hx; simp [alook, e]
        · simp [alook, hx, ih]
theorem al_filter {K β : Type} [DecidableEq K] {l : List (K × β)} (f : K → Bool) (x : K) : alook (l.filter fun y => f y.1) x = if f x = true then alook l x else none := by
  induction l with
  | nil => simp [alook]
  | cons y l ih =>
    obtain ⟨a, b⟩ := y
    by_cases hf : f a = true
    · rw [List.filter_cons_of_pos (by simpa using hf)]
      by_cases hx : x = a
      · subst hx; simp [alook, hf]
      · simp only [alook, hx, if_false]; exact ih
    · rw [List.filter_cons_of_neg (by simpa using hf), ih]
      by_cases hx : x = a
      · subst hx; simp [hf]
      · simp only [alook, hx, if_false]
theorem sset_len {K β : Type} [LT K] [DecidableEq K] [DecidableLT K] (l : List (K × β)) (k : K) (v : β) : (sset l k v).length ≤ l.length + 1 ∧ l.length ≤ (sset l k v).length := by
  induction l with
  | nil => simp [sset]
  | cons y l ih =>
    unfold sset
    split
    · simp
    · split
      · simp
      · simp; omega
/-- Two sorted tables with the same answers are the same. -/
theorem sorted_same {K β : Type} [LT K] [DecidableEq K] (ho : Lin K) : ∀ {l m : List (K × β)}, SortedK l → SortedK m → (∀ k, alook l k = alook m k) → l = m
  | [], [], _, _, _ => rfl
  | [], y :: m, _, _, h => by have := h y.1; simp [alook] at this
  | x :: l, [], _, _, h => by have := h x.1; simp [alook] at this
  | x :: l, y :: m, hl, hm, h => by
    obtain ⟨h1, h2⟩ := List.pairwise_cons.1 hl
    obtain ⟨g1, g2⟩ := List.pairwise_cons.1 hm
    obtain ⟨a, b⟩ := x; obtain ⟨c, d⟩ := y
    dsimp only at h1 g1
    have hx := h a
    have hy := h c
    have key : a = c := by
      simp only [alook, if_true] at hx hy
      by_cases e : a = c
      · exact e
      · rw [if_neg e] at hx
        rw [if_neg (fun g => e g.symm)] at hy
        have m1 : a ∈ m.map (·.1) := al_isSome.1 (by rw [← hx]; rfl)
        have m2 : c ∈ l.map (·.1) := al_isSome.1 (by rw [hy]; rfl)
        exact absurd (ho.tr _ _ _ (g1 a m1) (h1 c m2)) (ho.irr _)
    subst key
    have hb : b = d := by simpa [alook] using hx
    subst hb
    congr 1
    refine sorted_same ho h2 g2 fun k => ?_
    have hk := h k
    by_cases e : k = a
    · subst e
      have n1 : alook l k = none := al_none.2 fun g => ho.irr _ (h1 k g)
      have n2 : alook m k = none := al_none.2 fun g => ho.irr _ (g1 k g)
      rw [n1, n2]
    · simpa [alook, e] using hk
def amod {K β : Type} [DecidableEq K] (l : List (K × β)) (k : K) (f : β → β) : List (K × β) := l.map fun x => if x.1 = k then (x.1, f x.2) else x
theorem amod_keys {K β : Type} [DecidableEq K] (l : List (K × β)) (k : K) (f : β → β) : (amod l k f).map (·.1) = l.map (·.1) := by
  unfold amod
  rw [List.map_map]
  refine List.map_congr_left fun x _ => ?_
  dsimp only [Function.comp]
  split <;> rfl
theorem al_amod {K β : Type} [DecidableEq K] (l : List (K × β)) (k : K) (f : β → β) (x : K) : alook (amod l k f) x = if x = k then (alook l x).map f else alook l x := by
  induction l with
  | nil => simp [amod, alook]
  | cons y l ih =>
    obtain ⟨a, b⟩ := y
    unfold amod at ih ⊢
    rw [List.map_cons]
    dsimp only
    by_cases ha : a = k
    · subst ha
      rw [if_pos rfl]
      by_cases hx : x = a
      · subst hx; simp [alook]
      · simp only [alook, hx, if_false] at ih ⊢; exact ih
    · rw [if_neg ha]
      by_cases hx : x = a
      · subst hx; simp [alook, ha]
      · simp only [alook, hx, if_false] at ih ⊢; exact ih
theorem amod_len {K β : Type} [DecidableEq K] (l : List (K × β)) (k : K) (f : β → β) : (amod l k f).length = l.length := by unfold amod; simp
theorem SortedK.amod {K β : Type} [LT K] [DecidableEq K] {l : List (K × β)} (h : SortedK l) (k : K) (f : β → β) : SortedK (amod l k f) := by
  unfold SortedK; rw [amod_keys]; exact h
end Go.Proofs.YtnnbelmpbmfdnaaGreatDoor
/- Own work: what stands ahead of a path's last name, and below it: plain. -/

namespace Go.Proofs.YtnnbelmpbmfdnaaGreatDoor
open Go

def lidxTo (p : Bs) : Nat → Int
  | 0 => -1
  | n + 1 => if p.getD n 0 = 47 then (n : Int) else lidxTo p n
def lidxZ (p : Bs) : Int := lidxTo p p.length
def dnL (n : Nat) : Nat → Int
  | 0 => (n : Int) - 1
  | k + 1 => dnL n k - 1
theorem dnL_eq (n k : Nat) : dnL n k = (n : Int) - 1 - k := by
  induction k with
  | zero => unfold dnL; omega
  | succ k ih => unfold dnL; omega
theorem lidxTo_range (p : Bs) (n : Nat) : -1 ≤ lidxTo p n ∧ lidxTo p n < n := by
  induction n with
  | zero => simp [lidxTo]
  | succ n ih =>
    unfold lidxTo
    split <;> omega
theorem lidx_range (p : Bs) : -1 ≤ lidxZ p ∧ lidxZ p < p.length := lidxTo_range p _
theorem lidxTo_no {p : Bs} : ∀ {n : Nat}, (∀ i, i < n → p.getD i 0 ≠ 47) → lidxTo p n = -1
  | 0, _ => rfl
  | n + 1, h => by
    unfold lidxTo
    rw [if_neg (h n (by omega)), lidxTo_no (fun i hi => h i (by omega))]
theorem lidx_none {p : Bs} (h : (47 : UInt8) ∉ p) : lidxZ p = -1 := by
  refine lidxTo_no fun i hi e => h ?_
  rw [List.getD_eq_getElem?_getD, List.getElem?_eq_getElem hi, Option.getD_some] at e
  rw [← e]; exact List.getElem_mem hi
theorem lidxTo_at {p : Bs} {k : Nat} (hk : p.getD k 0 = 47) : ∀ n, k < n → (∀ i, k < i → i < n → p.getD i 0 ≠ 47) → lidxTo p n = k
  | 0, h, _ => by omega
  | n + 1, h, hno => by
    unfold lidxTo
    by_cases e : n = k
    · subst e; rw [if_pos hk]
    · rw [if_neg (hno n (by omega) (by omega))]
      exact lidxTo_at hk n (by omega) fun i h1 h2 => hno i h1 (by omega)
theorem lidx_cut {a b : Bs} (h : (47 : UInt8) ∉ b) : lidxZ (a ++ 47 :: b) = a.length := by
  refine lidxTo_at ?_ _ (by simp) fun i h1 h2 e => h ?_
  · rw [List.getD_eq_getElem?_getD, List.getElem?_append_right (Nat.le_refl _)]; simp
  · rw [List.getD_eq_getElem?_getD, List.getElem?_append_right (by omega)] at e
    obtain ⟨j, rfl⟩ : ∃ j, i = a.length + (j + 1) := ⟨i - a.length - 1, by omega⟩
    simp at h2
    rw [show a.length + (j + 1) - a.length = j + 1 by omega, List.getElem?_cons_succ, List.getElem?_eq_getElem (by omega), Option.getD_some] at e
    rw [← e]; exact List.getElem_mem (by omega)
def parentZ (p : Bs) : Bs := if lidxZ p < 0 ∨ p = [47] then [] else if lidxZ p = 0 then [47] else p.take (lidxZ p).toNat
def baseZ (p : Bs) : Bs := p.drop (lidxZ p + 1).toNat
def sfx (q s : Bs) : Prop := q.length ≤ s.length ∧ s.drop (s.length - q.length) = q
instance (q s : Bs) : Decidable (sfx q s) := inferInstanceAs (Decidable (_ ∧ _))
def trimZ (s q : Bs) : Bs := if sfx q s then s.take (s.length - q.length) else s
def kidZ (p name : Bs) : Bs := (if p = [47] then [47] else p ++ [47]) ++ name
def pfx (q s : Bs) : Prop := s.take q.length = q
instance (q s : Bs) : Decidable (pfx q s) := inferInstanceAs (Decidable (_ = _))
def underZ (p q : Bs) : Prop := pfx (kidZ q []) p ∧ p ≠ kidZ q []
instance (p q : Bs) : Decidable (underZ p q) := inferInstanceAs (Decidable (_ ∧ _))
theorem trim_nil (s : Bs) : trimZ s [] = s := by
  unfold trimZ sfx
  simp
theorem trim_len (s q : Bs) : (trimZ s q).length ≤ s.length := by
  unfold trimZ
  split
  · rw [List.length_take]; omega
  · exact Nat.le_refl _
theorem byte_eq {c d : UInt8} (h : (c.toNat : Int) = (d.toNat : Int)) : c = d := UInt8.toNat_inj.1 (by omega)
theorem trim_root : trimZ [47] [47] = [] := by decide
theorem kid_trim (p name : Bs) : trimZ p (if p = [47] then [47] else []) ++ [47] ++ name = kidZ p name := by
  unfold kidZ
  by_cases h : p = [47]
  · subst h; rw [if_pos rfl, if_pos rfl, trim_root]; rfl
  · rw [if_neg h, if_neg h, trim_nil]
theorem parent_len (p : Bs) : (parentZ p).length ≤ max p.length 1 := by
  unfold parentZ
  split
  · simp
  · split
    · simp; omega
    · rw [List.length_take]; omega
theorem base_len (p : Bs) : (baseZ p).length ≤ p.length := by
  unfold baseZ; rw [List.length_drop]; omega
theorem kid_len (p name : Bs) : (kidZ p name).length ≤ p.length + 1 + name.length := by
  unfold kidZ
  split
  · simp; omega
  · simp; omega
/-- A path's last name. -/
theorem cut_last {p : Bs} (h : 0 ≤ lidxZ p) : p = p.take (lidxZ p).toNat ++ 47 :: p.drop ((lidxZ p).toNat + 1) ∧ (47 : UInt8) ∉ p.drop ((lidxZ p).toNat + 1) := by
  have key : ∀ n, n ≤ p.length → 0 ≤ lidxTo p n → p.getD (lidxTo p n).toNat 0 = 47 ∧ ∀ i, (lidxTo p n).toNat < i → i < n → p.getD i 0 ≠ 47 := by
    intro n
    induction n with
    | zero => intro _ h; simp [lidxTo] at h
    | succ n ih =>
      intro hn h
      unfold lidxTo at h ⊢
      split
      · rename_i e
        refine ⟨by simpa using e, fun i h1 h2 => ?_⟩
        simp at h1; omega
      · rename_i e
        rw [if_neg e] at h
        obtain ⟨g1, g2⟩ := ih (by omega) h
        refine ⟨g1, fun i h1 h2 => ?_⟩
        by_cases hi : i = n
        · subst hi; exact e
        · exact g2 i h1 (by omega)
  obtain ⟨g1, g2⟩ := key p.length (Nat.le_refl _) h
  have hr := lidx_range p
  have hlt : (lidxZ p).toNat < p.length := by omega
  refine ⟨?_, fun hm => ?_⟩
  · have e : p[(lidxZ p).toNat] = 47 := by
      have : p.getD (lidxZ p).toNat 0 = 47 := g1
      rw [List.getD_eq_getElem?_getD, List.getElem?_eq_getElem hlt, Option.getD_some] at this
      exact this
    have h2 := List.take_append_drop (lidxZ p).toNat p
    rw [List.drop_eq_getElem_cons hlt, e] at h2
    exact h2.symm
  · obtain ⟨i, hi, e⟩ := List.mem_iff_getElem.1 hm
    rw [List.length_drop] at hi
    rw [List.getElem_drop] at e
    refine g2 ((lidxZ p).toNat + 1 + i) (by show (lidxZ p).toNat < _; omega) (by omega) ?_
    rw [List.getD_eq_getElem?_getD, List.getElem?_eq_getElem (by omega), Option.getD_some]
    exact e
end Go.Proofs.YtnnbelmpbmfdnaaGreatDoor
/-
  DERIVED: THE SHELF's CONTRACTS AT THIS DUMP, IN PLAIN WORDS (tools/lay-plain.mjs out of 'YtnnbelmpbmfdnaaGreatDoorLay.lean', which tools/lay-shelf.mjs wrote): THE SAME DECLARATIONS UNDER THE SAME NAMES: 'import', 'namespace', 'open', 'def', 'theorem' AND NOTHING ELSE: no command of the shelf's: FOR A HAND-IN. Each laying: the table of numbers ('.._ren') and one theorem, a field a fact of the dump's own or the kernel's comparison; each contract: ONE APPLICATION.
-/

namespace Go.Proofs
open Go.Shelf
def Tryz.sortA_ren : Go.Shelf.Ren := ⟨fun | 5 => 84 | 8 => 115 | 7 => 114 | 19 => 141 | 20 => 142 | 10 => 132 | 11 => 133 | 12 => 134 | 13 => 135 | 14 => 136 | 15 => 137 | 16 => 138 | 17 => 139 | 18 => 140 | 30 => 160 | 31 => 161 | 32 => 162 | 33 => 163 | 34 => 164 | 35 => 165 | 40 => 178 | n => n, fun | 23 => 52 | 25 => 3 | 3 => 3 | 32 => 185 | 22 => 52 | 0 => 0 | 44 => 208 | 46 => 210 | 4 => 4 | 36 => 200 | 35 => 199 | 41 => 205 | 5 => 5 | 9 => 9 | 53 => 220 | 57 => 224 | 63 => 232 | 64 => 233 | n => n, fun | n => n⟩
theorem Tryz.sortA : Go.Proofs.SlLaysM.n5 Tryz.prog Tryz.sortA_ren := {
  mixed := by kernel_rfl
  f5 := ⟨Tryz.f84.name, by decide, Tryz.func84.trans (congrArg some (by kernel_rfl))⟩
  f7 := ⟨Tryz.f114.name, by decide, Tryz.func114.trans (congrArg some (by kernel_rfl))⟩
  f8 := Tryz.func115.trans (congrArg some (by kernel_rfl))
  f10 := ⟨Tryz.f132.name, by decide, Tryz.func132.trans (congrArg some (by kernel_rfl))⟩
  f11 := ⟨Tryz.f133.name, by decide, Tryz.func133.trans (congrArg some (by kernel_rfl))⟩
  f12 := ⟨Tryz.f134.name, by decide, Tryz.func134.trans (congrArg some (by kernel_rfl))⟩
  f13 := ⟨Tryz.f135.name, by decide, Tryz.func135.trans (congrArg some (by kernel_rfl))⟩
  f14 := ⟨Tryz.f136.name, by decide, Tryz.func136.trans (congrArg some (by kernel_rfl))⟩
  f15 := ⟨Tryz.f137.name, by decide, Tryz.func137.trans (congrArg some (by kernel_rfl))⟩
  f16 := ⟨Tryz.f138.name, by decide, Tryz.func138.trans (congrArg some (by kernel_rfl))⟩
  f17 := ⟨Tryz.f139.name, by decide, Tryz.func139.trans (congrArg some (by kernel_rfl))⟩
  f18 := ⟨Tryz.f140.name, by decide, Tryz.func140.trans (congrArg some (by kernel_rfl))⟩
  f19 := Tryz.func141.trans (congrArg some (by kernel_rfl))
  f20 := Tryz.func142.trans (congrArg some (by kernel_rfl))
  f30 := ⟨Tryz.f160.name, by decide, Tryz.func160.trans (congrArg some (by kernel_rfl))⟩
  f31 := Tryz.func161.trans (congrArg some (by kernel_rfl))
  f32 := Tryz.func162.trans (congrArg some (by kernel_rfl))
  f33 := ⟨Tryz.f163.name, by decide, Tryz.func163.trans (congrArg some (by kernel_rfl))⟩
  f34 := ⟨Tryz.f164.name, by decide, Tryz.func164.trans (congrArg some (by kernel_rfl))⟩
  f35 := ⟨Tryz.f165.name, by decide, Tryz.func165.trans (congrArg some (by kernel_rfl))⟩
  f40 := ⟨Tryz.f178.name, by decide, Tryz.func178.trans (congrArg some (by kernel_rfl))⟩
  t0 := Tryz.underlying0
  a0 := Tryz.isAgg0
  z0 := Tryz.sizeOf0
  v0 := Tryz.zeroValue0
  t3 := Tryz.underlying3
  a3 := Tryz.isAgg3
  z3 := Tryz.sizeOf3
  v3 := Tryz.zeroValue3
  t4 := Tryz.underlying4
  a4 := Tryz.isAgg4
  z4 := Tryz.sizeOf4
  v4 := Tryz.zeroValue4
  t5 := Tryz.underlying5
  a5 := Tryz.isAgg5
  z5 := Tryz.sizeOf5
  v5 := Tryz.zeroValue5
  t9 := Tryz.underlying9
  a9 := Tryz.isAgg9
  z9 := Tryz.sizeOf9
  v9 := Tryz.zeroValue9
  t22 := Tryz.underlying52
  a22 := Tryz.isAgg52
  z22 := Tryz.sizeOf52
  v22 := Tryz.zeroValue52
  t23 := Tryz.underlying52
  a23 := Tryz.isAgg52
  z23 := Tryz.sizeOf52
  v23 := Tryz.zeroValue52
  t25 := Tryz.underlying3
  a25 := Tryz.isAgg3
  z25 := Tryz.sizeOf3
  v25 := Tryz.zeroValue3
  t32 := Tryz.underlying185
  a32 := Tryz.isAgg185
  z32 := Tryz.sizeOf185
  v32 := Tryz.zeroValue185
  t35 := Tryz.underlying199
  a35 := Tryz.isAgg199
  z35 := Tryz.sizeOf199
  v35 := Tryz.zeroValue199
  t36 := Tryz.underlying200
  a36 := Tryz.isAgg200
  z36 := Tryz.sizeOf200
  v36 := Tryz.zeroValue200
  t41 := Tryz.underlying205
  a41 := Tryz.isAgg205
  z41 := Tryz.sizeOf205
  v41 := Tryz.zeroValue205
  t44 := Tryz.underlying208
  a44 := Tryz.isAgg208
  z44 := Tryz.sizeOf208
  v44 := Tryz.zeroValue208
  t46 := Tryz.underlying210
  a46 := Tryz.isAgg210
  z46 := Tryz.sizeOf210
  v46 := Tryz.zeroValue210
  t53 := Tryz.underlying220
  a53 := Tryz.isAgg220
  z53 := Tryz.sizeOf220
  v53 := Tryz.zeroValue220
  t57 := Tryz.underlying224
  a57 := Tryz.isAgg224
  z57 := Tryz.sizeOf224
  v57 := Tryz.zeroValue224
  t63 := Tryz.underlying232
  a63 := Tryz.isAgg232
  z63 := Tryz.sizeOf232
  v63 := Tryz.zeroValue232
  t64 := Tryz.underlying233
  a64 := Tryz.isAgg233
  z64 := Tryz.sizeOf233
  v64 := Tryz.zeroValue233 }
def Tryz.keysA_ren : Go.Shelf.Ren := ⟨fun | 7 => 109 | 10 => 128 | n => n, fun | 23 => 108 | 26 => 3 | 3 => 112 | 28 => 178 | 0 => 0 | 27 => 177 | 33 => 194 | 4 => 4 | n => n, fun | n => n⟩
theorem Tryz.keysA : Go.Proofs.SlLaysZI.n7 Tryz.prog Tryz.keysA_ren := {
  mixed := by kernel_rfl
  f7 := ⟨Tryz.f109.name, by decide, Tryz.func109.trans (congrArg some (by kernel_rfl))⟩
  f10 := ⟨Tryz.f128.name, by decide, Tryz.func128.trans (congrArg some (by kernel_rfl))⟩
  t0 := Tryz.underlying0
  a0 := Tryz.isAgg0
  z0 := Tryz.sizeOf0
  v0 := Tryz.zeroValue0
  t4 := Tryz.underlying4
  a4 := Tryz.isAgg4
  z4 := Tryz.sizeOf4
  v4 := Tryz.zeroValue4
  t23 := Tryz.underlying108
  a23 := Tryz.isAgg108
  z23 := Tryz.sizeOf108
  v23 := Tryz.zeroValue108
  t26 := Tryz.underlying3
  a26 := Tryz.isAgg3
  z26 := Tryz.sizeOf3
  v26 := Tryz.zeroValue3
  t27 := Tryz.underlying177
  a27 := Tryz.isAgg177
  z27 := Tryz.sizeOf177
  v27 := Tryz.zeroValue177
  t28 := Tryz.underlying178
  a28 := Tryz.isAgg178
  z28 := Tryz.sizeOf178
  v28 := Tryz.zeroValue178
  t33 := Tryz.underlying194
  a33 := Tryz.isAgg194
  z33 := Tryz.sizeOf194
  v33 := Tryz.zeroValue194 }
def Tryz.sortedA_ren : Go.Shelf.Ren := ⟨fun | 6 => 108 | 8 => 127 | 9 => 84 | 11 => 157 | 13 => 115 | 12 => 114 | 23 => 141 | 24 => 142 | 14 => 132 | 15 => 133 | 16 => 134 | 17 => 135 | 18 => 136 | 19 => 137 | 20 => 138 | 21 => 139 | 22 => 140 | 25 => 160 | 26 => 161 | 27 => 162 | 28 => 163 | 29 => 164 | 30 => 165 | 31 => 178 | n => n, fun | 26 => 3 | 28 => 178 | 24 => 52 | 0 => 0 | 3 => 3 | 37 => 185 | 48 => 208 | 50 => 210 | 4 => 4 | 40 => 200 | 39 => 199 | 45 => 205 | 5 => 5 | 9 => 9 | 51 => 220 | 55 => 224 | 57 => 232 | 58 => 233 | 33 => 194 | n => n, fun | n => n⟩
theorem Tryz.sortedA : Go.Proofs.SlLaysZI.n6 Tryz.prog Tryz.sortedA_ren := {
  mixed := by kernel_rfl
  f6 := ⟨Tryz.f108.name, by decide, Tryz.func108.trans (congrArg some (by kernel_rfl))⟩
  f8 := ⟨Tryz.f127.name, by decide, Tryz.func127.trans (congrArg some (by kernel_rfl))⟩
  f11 := ⟨Tryz.f157.name, by decide, Tryz.func157.trans (congrArg some (by kernel_rfl))⟩
  t0 := Tryz.underlying0
  a0 := Tryz.isAgg0
  z0 := Tryz.sizeOf0
  v0 := Tryz.zeroValue0
  t24 := Tryz.underlying52
  a24 := Tryz.isAgg52
  z24 := Tryz.sizeOf52
  v24 := Tryz.zeroValue52
  t26 := Tryz.underlying3
  a26 := Tryz.isAgg3
  z26 := Tryz.sizeOf3
  v26 := Tryz.zeroValue3
  t28 := Tryz.underlying178
  a28 := Tryz.isAgg178
  z28 := Tryz.sizeOf178
  v28 := Tryz.zeroValue178
  i26 := by kernel_rfl }
def Tryz.compactA_ren : Go.Shelf.Ren := ⟨fun | 20 => 85 | n => n, fun | 22 => 52 | 3 => 3 | 4 => 4 | 0 => 0 | n => n, fun | n => n⟩
theorem Tryz.compactA : Go.Proofs.Lays2.n20 Tryz.prog Tryz.compactA_ren := {
  mixed := by kernel_rfl
  f20 := Tryz.func85.trans (congrArg some (by kernel_rfl))
  t0 := Tryz.underlying0
  a0 := Tryz.isAgg0
  z0 := Tryz.sizeOf0
  v0 := Tryz.zeroValue0
  t3 := Tryz.underlying3
  a3 := Tryz.isAgg3
  z3 := Tryz.sizeOf3
  v3 := Tryz.zeroValue3
  t4 := Tryz.underlying4
  a4 := Tryz.isAgg4
  z4 := Tryz.sizeOf4
  v4 := Tryz.zeroValue4
  t22 := Tryz.underlying52
  a22 := Tryz.isAgg52
  z22 := Tryz.sizeOf52
  v22 := Tryz.zeroValue52
  i3 := by kernel_rfl }
end Go.Proofs
/- Own work: 'slices.Sorted(maps.Keys(m))' at int keys, out of the kit's contracts, in the words of SlCore. -/
namespace Go.Proofs.YtnnbelmpbmfdnaaGreatDoor
open Go Go.RowKit Go.Maps Go.Sort Go.Shelf

theorem sep_more {b : Nat} {o : Obj} {L : List HP} {h h' : Hp} (hs : sep L h) (hnb : h b = none) (hb : h' b = some o) (hle : ∀ c o, h c = some o → h' c = some o) : sep (pt b o :: L) h' := by
  refine ⟨fun c => if c = b then some o else none, h, fun c => ?_, fun c o' e => ?_, hle, if_pos rfl, hs⟩
  · by_cases e : c = b
    · exact .inr (e ▸ hnb)
    · exact .inl (if_neg e)
  · by_cases hc : c = b
    · subst hc; simp at e; rw [← e]; exact hb
    · simp [hc] at e
theorem below_le {w w' : World} (hb : Below w.heap.size w w') (c : Nat) (o : Obj) (h : w.heap[c]? = some o) : w'.heap[c]? = some o := by
  have hlt : c < w.heap.size := by
    rcases Nat.lt_or_ge c w.heap.size with h' | h'
    · exact h'
    · rw [Array.getElem?_eq_none h'] at h; cases h
  rw [hb.block c hlt]; exact h
theorem St.below {L : List HP} {w w' : World} (hs : St L w) (hb : Below w.heap.size w w') : St L w' := sep_mono hs (below_le hb)
theorem Keeps.below {w w' : World} (hb : Below w.heap.size w w') : Keeps w w' := ⟨hb.os, hb.tape, hb.output, hb.size⟩
theorem St.own {L : List HP} {w w' : World} {e : TypeId} {sz n : Nat} {v : Value} {xs : List Value} (hs : St L w) (hb : Below w.heap.size w w') (ho : w'.ownsRow w.heap.size e sz v n xs) : St (slR e sz v n xs :: L) w' := by
  obtain ⟨h1, h2⟩ := ho
  rcases h2 with ⟨rfl, rfl⟩ | ⟨g, cap, cur, rfl, hg, hcur, h3, h4, h5, h6⟩
  · have : xs = [] := by simpa using h1
    subst this
    exact ⟨fun _ => none, _, fun _ => .inl rfl, fun _ _ e => (by cases e), fun _ _ e => e, slR_nil _ _ _, hs.below hb⟩
  · have hnone : w.heap[g]? = none := Array.getElem?_eq_none hg
    refine sep_imp (fun h hp => ?_) (sep_more (o := .cells cur e (0, 0)) hs hnone hcur (below_le hb))
    refine .inr ⟨g, cap, cur.toList.drop (n * sz), (0, 0), rfl, ?_, h1, ?_, h3, nfz0 _ _⟩
    · have : (xs ++ cur.toList.drop (n * sz)).toArray = cur := by rw [← h6, List.take_append_drop]
      rw [this]; exact hp
    · rw [← h6]; simp; rw [← h5]; omega

theorem wf_i64 {x : Int} (h : -9223372036854775808 ≤ x ∧ x ≤ 9223372036854775807) : (Lit.int .i64 x).wf = true := by
  simp only [Lit.wf, Bool.and_eq_true, decide_eq_true_eq]
  have e1 : IntKind.i64.min = -9223372036854775808 := by decide
  have e2 : IntKind.i64.max = 9223372036854775807 := by decide
  rw [e1, e2]; exact h
def sortI (l : List Int) : List Int := l.mergeSort (fun x y => decide (x ≤ y))
theorem keys_fn {P : Program} {ρ : Ren} (L : SlLaysZI.n7 P ρ) (mb : Option Nat) : Fn P (ρ.f 7) #[.map mb] [] fun v Lp => ∃ b, v = .func (.func (ρ.f 10)) #[] #[vptr b] ∧ Lp = [ptc b [.map mb] (ρ.t 23)] := by
  intro F w hs
  refine (callsIn_wide.1 (AnyZI.keys_in L Fence.wide 1 trivial rfl mb w)).mono ?_
  rintro e w' ⟨rfl, rfl⟩
  exact ⟨_, _, ⟨_, rfl, rfl⟩, rfl, St.new (L := F) hs _, Keeps.new _ _⟩
theorem sorted_fn {P : Program} {ρ ρs ρm : Ren} (L : SlLaysZI.n7 P ρ) (LS : SlLaysZI.n6 P ρs) (LM : SlLaysM.n5 P ρm) (hm : ρm.f 5 = ρs.f 9) (e9 : ∀ args w, (callFunc (ρs.f 9) args).run P w = .ok (.enter (ρs.f 9) args) w) (e10 : ∀ args w, (callFunc (ρ.f 10) args).run P w = .ok (.enter (ρ.f 10) args) w)
    (hk : P.underlying (ρ.t 26) = some (.int .i64)) {b r : Nat} {T : TypeId} {β : Type} {enc : β → Value} (m : List (Int × β)) (hnd : (m.map (·.1)).Nodup) (hbd : ∀ x ∈ m, -9223372036854775808 ≤ x.1 ∧ x.1 ≤ 9223372036854775807) (hlen : m.length ≤ 1099511627776) :
    Fn P (ρs.f 6) #[.func (.func (ρ.f 10)) #[] #[vptr b]] [ptc b [.map (some r)] T, mapR r (m.map fun x => (vint x.1, enc x.2))] fun v Lp => (∃ a c, v = .slice a m.length c) ∧
      Lp = [slR (ρs.t 26) 1 v m.length ((sortI (m.map (·.1))).map vint), mapR r (m.map fun x => (vint x.1, enc x.2))] := by
  intro F w hs
  have hcell : w.cell? ⟨b, 0, none⟩ = some (.map (some r)) := cell_of (l := [Value.map (some r)]) (St.pt (L := _) hs) rfl
  obtain ⟨hr1, ar, es, clock, hes, hents, hborn, hnb⟩ := sep_head (sep_tail hs)
  have hes' := ar _ _ hes
  have hlen' : es.length = m.length := by have := congrArg List.length hents; simpa using this
  have hkeys : es.map (fun e => e.key) = m.map (fun x => vint x.1) := by
    have := congrArg (List.map Prod.fst) hents; rw [List.map_map, List.map_map] at this; exact this
  let R : Value → Option (DataW Unit × List MemPlace) := fun _ => some (.lit (.bool true), [])
  have hkey : ∀ x ∈ es, ∃ k : Int, x.key = vint k ∧ -9223372036854775808 ≤ k ∧ k ≤ 9223372036854775807 := by
    intro x hx
    have : x.key ∈ es.map (fun e => e.key) := List.mem_map_of_mem hx
    rw [hkeys] at this
    obtain ⟨y, hy, he⟩ := List.mem_map.1 this
    exact ⟨y.1, he.symm, hbd y hy⟩
  have hrd : ∀ x ∈ es, ∀ k, x.key = vint k → Go.WideElems.rd P (ρ.t 26) R x = some (.int .i64 k, .lit (.bool true)) := by
    intro x hx k hxk
    obtain ⟨k', h1, h2⟩ := hkey x hx
    have : k' = k := by rw [h1] at hxk; simpa using hxk
    subst this
    have hko : keyOf P (ρ.t 26) x.key = some (.int .i64 k') := by
      rw [hxk]; simp [keyOf, hk, mapKey, wf_i64 h2]
    unfold Go.WideElems.rd; rw [hko]; rfl
  have hown : w.ownsMap P (ρ.t 26) R r m.length (.map ((es.map (Go.WideElems.rg P (ρ.t 26) R)).foldr DataW.insert [])) := by
    refine ⟨es.toArray, clock, hes', ⟨?_, ⟨by simpa using hborn, by simpa using hnb, ?_⟩, ?_⟩, by simpa using Nat.le_of_eq hlen', by simp⟩
    · simp only [List.size_toArray, maxLen]; omega
    · have e1 : es.toArray.toList.map (·.key) = m.map (fun x => vint x.1) := by simpa using hkeys
      rw [e1]
      have e2 : m.map (fun x => vint x.1) = (m.map (·.1)).map vint := by simp
      rw [e2]
      exact List.pairwise_map.2 (List.Pairwise.imp (fun hne he => hne (by simpa using he)) hnd)
    · intro x hx
      have hx' : x ∈ es := by simpa using hx
      obtain ⟨k, h1, -⟩ := hkey x hx'
      exact ⟨_, hrd x hx' k h1⟩
  have hD : (intKeys (DataW.map ((es.map (Go.WideElems.rg P (ρ.t 26) R)).foldr DataW.insert []))).Perm (m.map (·.1)) := by
    show (((es.map (Go.WideElems.rg P (ρ.t 26) R)).foldr DataW.insert []).map fun p => Go.intOf p.1).Perm _
    refine (List.Perm.map _ (Go.WideShapes.sorted_perm _)).trans ?_
    have : (es.map (Go.WideElems.rg P (ρ.t 26) R)).map (fun p => Go.intOf p.1) = m.map (·.1) := by
      have h1 : (es.map (Go.WideElems.rg P (ρ.t 26) R)).map (fun p => Go.intOf p.1) = (es.map (fun e => e.key)).map (fun v => match v with | .int _ k => k | _ => 0) := by
        rw [List.map_map, List.map_map]
        refine List.map_congr_left fun x hx => ?_
        obtain ⟨k, h1, -⟩ := hkey x hx
        simp only [Function.comp, Go.WideElems.rg, hrd x hx k h1, Option.getD_some, Go.intOf, h1]
      rw [h1, hkeys, List.map_map]; rfl
    rw [this]
  have hsize : Maps.size (DataW.map ((es.map (Go.WideElems.rg P (ρ.t 26) R)).foldr DataW.insert [])) = m.length := by
    simp [Maps.size, length_sorted, hlen']
  have hblt : b < w.heap.size := by
    rcases Nat.lt_or_ge b w.heap.size with h | h
    · exact h
    · simp [World.cell?, Array.getElem?_eq_none h] at hcell
  have hseq := AnyZI.keys_gives (ρ := ρ) { L with } Fence.wide 2 trivial rfl (by omega) b r m.length _ w hblt hcell hown
  have hsorts : ∀ k, AnyZI.SortsIn P ρs Fence.wide k := fun k =>
    ⟨fun blk off cap ss W hH hblk hsz => by
        rw [← hm]; exact callsIn_wide.2 (AnyM.slices_Sort_int LM blk off cap ss W hH hblk hsz),
     fun p cap W => by rw [← hm]; exact callsIn_wide.2 (AnyM.slices_Sort_int_none LM p cap W)⟩
  have hS := AnyZI.sorted_in LS Fence.wide 5 trivial trivial trivial trivial rfl (by omega) (hsorts _) e9 (ρ.f 10) #[vptr b] trivial e10 _ _ (by rw [hsize, maxLen]; omega) (by rw [hsize]; omega) w hseq
  refine (callsIn_wide.1 hS).mono ?_
  rintro e w' ⟨v, ss, rfl, hp, hrow, -, hb⟩
  have hperm : ss.Perm (m.map (·.1)) := hp.trans hD
  have hss : (ss.mergeSort fun x y => decide (x ≤ y)) = sortI (m.map (·.1)) := mergeSort_of_perm_i hperm
  have hl : ss.length = m.length := by rw [hperm.length_eq]; simp
  rw [hss, hl] at hrow
  have hshape : ∃ a c, v = .slice a m.length c := by
    rcases hrow.2 with ⟨rfl, h0⟩ | ⟨g, cap, cur, rfl, -⟩
    · exact ⟨_, _, by rw [h0]⟩
    · exact ⟨_, _, rfl⟩
  refine ⟨v, _, ⟨hshape, rfl⟩, rfl, ?_, Keeps.below hb⟩
  exact St.own (sep_tail hs) hb hrow
end Go.Proofs.YtnnbelmpbmfdnaaGreatDoor
/- Own work: slices.Sort at []int, out of the shelf's contract, for a slice that is owned. -/
namespace Go.Proofs.YtnnbelmpbmfdnaaGreatDoor
open Go Go.Sort

theorem sortI_perm (l : List Int) : (sortI l).Perm l := List.mergeSort_perm _ _
theorem sortI_length (l : List Int) : (sortI l).length = l.length := (sortI_perm l).length_eq
theorem sortI_mem {l : List Int} {x : Int} : x ∈ sortI l ↔ x ∈ l := (sortI_perm l).mem_iff
theorem sort_fn {P : Program} {ρ : Go.Shelf.Ren} (LM : SlLaysM.n5 P ρ) (e : TypeId) (v : Value) (n : Nat) (xs : List Int) (hn : n < 4611686018427387904) :
    Fn P (ρ.f 5) #[v] [slR e 1 v n (xs.map vint)] fun u L => u = .tuple #[] ∧ L = [slR e 1 v n ((sortI xs).map vint)] := by
  intro F w hs
  have hs' : St ((fun h => ∃ y : List Value × (Nat × Nat) × (Option (Nat × Nat)), (y.2.2 = none ∧ v = .slice none 0 0 ∧ n = 0 ∧ xs = []) ∨ (∃ b cap, y.2.2 = some (b, cap) ∧ v = .slice (some ⟨b, 0, none⟩) n cap ∧ h b = some (.cells (List.toArray (xs.map vint ++ y.1)) e y.2.1) ∧ xs.length = n ∧ cap ≤ xs.length + y.1.length ∧ n ≤ cap ∧ nfz y.2.1 0 cap)) :: F) w := by
    refine sep_imp (fun h hp => ?_) hs
    rcases hp with ⟨h1, h2, h3⟩ | ⟨b, cap, rest, fr, h1, h2, h3, h4, h5, h6⟩
    · exact ⟨([], (0, 0), none), .inl ⟨rfl, h1, h2, by simpa using h3⟩⟩
    · exact ⟨(rest, fr, some (b, cap)), .inr ⟨b, cap, rfl, h1, h2, by simpa using h3, by simpa using h4, h5, by simpa using h6⟩⟩
  obtain ⟨⟨rest, fr, o⟩, h1, h2, hd, a1, a2, hp, hF⟩ := sep_ex hs'
  rcases hp with ⟨-, rfl, rfl, rfl⟩ | ⟨b, cap, -, rfl, p1, p2, p3, p4, p5⟩
  · refine (AnyM.slices_Sort_int_none LM none 0 w).mono ?_
    rintro e w' ⟨rfl, rfl⟩
    refine ⟨_, _, ⟨rfl, rfl⟩, rfl, ?_, .refl _⟩
    have e : sortI [] = [] := List.eq_nil_of_length_eq_zero (List.mergeSort_perm _ _).length_eq
    rw [e]; exact hs
  · subst p2
    have hb := a1 _ _ p1
    have hlt : b < w.heap.size := by
      rcases Nat.lt_or_ge b w.heap.size with h | h
      · exact h
      · simp [Array.getElem?_eq_none h] at hb
    have hH : Holds (Value.int .i64) w b 0 xs.toArray := by
      intro j hj
      have hj' : j < xs.length := by simpa using hj
      have hb' : w.heap[b]? = some (.cells (xs.map vint ++ rest).toArray e fr) := hb
      refine ⟨?_, ?_⟩
      · simp only [World.cell?, hb', Nat.zero_add, Option.isSome_none, Bool.false_eq_true, if_false]
        rw [List.getElem?_toArray, List.getElem?_append_left (by simpa using hj')]
        simp [hj']
      · have := p5 j (by omega) (by dsimp only at p3 p4 ⊢; omega)
        simp only [World.frozen?, hb', Nat.zero_add]
        simpa using this
    refine (AnyM.slices_Sort_int LM b 0 cap xs w hH hlt hn).mono ?_
    rintro en w' ⟨rfl, k, os, rfl⟩
    refine ⟨_, _, ⟨rfl, rfl⟩, rfl, ?_, ?_⟩
    · have h2b : h2 b = none := (hd b).resolve_left (by rw [p1]; simp)
      have hsz : (sortI xs).length = xs.length := by rw [show (sortI xs).length = xs.length from (List.mergeSort_perm _ _).length_eq]
      have hnew : (grow (putRow (Value.int .i64) (Sort.ahead w k) b 0 (sortI xs).toArray) os).heap[b]? = some (.cells (putCells (Value.int .i64) 0 (sortI xs).toArray (xs.map vint ++ rest).toArray) e fr) := heap_sortedI _ hb
      have hrow : (putCells (Value.int .i64) 0 (sortI xs).toArray (xs.map vint ++ rest).toArray) = ((sortI xs).map vint ++ rest).toArray := by
        apply Array.ext_getElem?
        intro j
        simp only [putCells, Array.getElem?_mapIdx, List.getElem?_toArray, Nat.zero_le, true_and, Nat.zero_add, Nat.sub_zero, List.size_toArray]
        by_cases hj : j < xs.length
        · rw [List.getElem?_append_left (by simpa using hj), List.getElem?_append_left (by simpa [hsz] using hj)]
          simp [hj, hsz]
        · rw [List.getElem?_append_right (by simp; omega), List.getElem?_append_right (by simp [hsz]; omega)]
          simp [hj, hsz]
      refine ⟨fun c => if c = b then some (.cells ((sortI xs).map vint ++ rest).toArray e fr) else none, h2, fun c => ?_, fun c o e => ?_, fun c o hc => ?_, ?_, hF⟩
      · by_cases e : c = b
        · exact .inr (e ▸ h2b)
        · exact .inl (if_neg e)
      · by_cases hc : c = b
        · subst hc; simp at e; subst e; rw [← hrow]; exact hnew
        · simp [hc] at e
      · have hcb : c ≠ b := by rintro rfl; rw [h2b] at hc; cases hc
        have hold := a2 _ _ hc
        have hclt : c < w.heap.size := by
          rcases Nat.lt_or_ge c w.heap.size with h | h
          · exact h
          · simp [Array.getElem?_eq_none h] at hold
        have := (grownBy_sortedI (w := w) (g := b) (n := k) (os := os) (sortI xs).toArray).block c hclt (fun e => hcb (by simpa using e))
        show (grow (putRow (Value.int .i64) (Sort.ahead w k) b 0 (sortI xs).toArray) os).heap[c]? = _
        rw [this]; exact hold
      · exact .inr ⟨b, cap, rest, fr, rfl, if_pos rfl, by simp [hsz], by simpa [hsz] using p3, p4, by simpa using p5⟩
    · refine ⟨rfl, rfl, rfl, ?_⟩
      show w.heap.size ≤ ((putRow (Value.int .i64) (Sort.ahead w k) b 0 _).heap ++ os).size
      simp [putRow, mapBlock, Sort.ahead]
end Go.Proofs.YtnnbelmpbmfdnaaGreatDoor
/- Own work: 'slices.Sorted(maps.Keys(m))' and slices.Sort at string keys, out of the kit's contracts, in the words of SlCore. -/

namespace Go.Proofs.YtnnbelmpbmfdnaaGreatDoor
open Go Go.RowKit Go.Maps Go.Sort Go.Shelf

abbrev leS : Bs → Bs → Bool := fun x y => decide (x ≤ y)
def sortS (l : List Bs) : List Bs := l.mergeSort leS
theorem encStr_vstr (s : Bs) : encStr s = vstr s := rfl
theorem keysS_fn {P : Program} {ρ : Ren} (L : SlLaysZ.n7 P ρ) (mb : Option Nat) : Fn P (ρ.f 7) #[.map mb] [] fun v Lp => ∃ b, v = .func (.func (ρ.f 10)) #[] #[vptr b] ∧ Lp = [ptc b [.map mb] (ρ.t 23)] := by
  intro F w hs
  refine (callsIn_wide.1 (AnyZ.keys_in L Fence.wide 1 trivial rfl mb w)).mono ?_
  rintro e w' ⟨rfl, rfl⟩
  exact ⟨_, _, ⟨_, rfl, rfl⟩, rfl, St.new (L := F) hs _, Keeps.new _ _⟩
theorem sortedS_fn {P : Program} {ρ ρs ρm : Ren} (L : SlLaysZ.n7 P ρ) (LS : SlLaysZ.n6 P ρs) (LM : SlLaysM.n6 P ρm) (hm : ρm.f 6 = ρs.f 9) (e9 : ∀ args w, (callFunc (ρs.f 9) args).run P w = .ok (.enter (ρs.f 9) args) w) (e10 : ∀ args w, (callFunc (ρ.f 10) args).run P w = .ok (.enter (ρ.f 10) args) w)
    (hk : P.underlying (ρ.t 26) = some .string) {b r : Nat} {T : TypeId} {β : Type} {enc : β → Value} (m : List (Bs × β)) (hnd : (m.map (·.1)).Nodup) (hbd : ∀ x ∈ m, x.1.length ≤ maxLen) (hlen : m.length ≤ 1099511627776) :
    Fn P (ρs.f 6) #[.func (.func (ρ.f 10)) #[] #[vptr b]] [ptc b [.map (some r)] T, mapR r (m.map fun x => (vstr x.1, enc x.2))] fun v Lp => (∃ a c, v = .slice a m.length c) ∧
      Lp = [slR (ρs.t 26) 1 v m.length (strs (sortS (m.map (·.1)))), mapR r (m.map fun x => (vstr x.1, enc x.2))] := by
  intro F w hs
  have hcell : w.cell? ⟨b, 0, none⟩ = some (.map (some r)) := cell_of (l := [Value.map (some r)]) (St.pt (L := _) hs) rfl
  obtain ⟨hr1, ar, es, clock, hes, hents, hborn, hnb⟩ := sep_head (sep_tail hs)
  have hes' := ar _ _ hes
  have hlen' : es.length = m.length := by have := congrArg List.length hents; simpa using this
  have hkeys : es.map (fun e => e.key) = m.map (fun x => vstr x.1) := by
    have := congrArg (List.map Prod.fst) hents; rw [List.map_map, List.map_map] at this; exact this
  let R : Value → Option (DataW Unit × List MemPlace) := fun _ => some (.lit (.bool true), [])
  have hkey : ∀ x ∈ es, ∃ k : Bs, x.key = vstr k ∧ k.length ≤ maxLen := by
    intro x hx
    have : x.key ∈ es.map (fun e => e.key) := List.mem_map_of_mem hx
    rw [hkeys] at this
    obtain ⟨y, hy, he⟩ := List.mem_map.1 this
    exact ⟨y.1, he.symm, hbd y hy⟩
  have hrd : ∀ x ∈ es, ∀ k, x.key = vstr k → Go.WideElems.rd P (ρ.t 26) R x = some (.string k, .lit (.bool true)) := by
    intro x hx k hxk
    obtain ⟨k', h1, h2⟩ := hkey x hx
    have : k' = k := by rw [h1] at hxk; simpa using hxk
    subst this
    have hko : keyOf P (ρ.t 26) x.key = some (.string k') := by
      rw [hxk]; simp [keyOf, hk, mapKey, vstr, bs]; exact (bs_size k').symm ▸ h2
    unfold Go.WideElems.rd; rw [hko]; rfl
  have hown : w.ownsMap P (ρ.t 26) R r m.length (.map ((es.map (Go.WideElems.rg P (ρ.t 26) R)).foldr DataW.insert [])) := by
    refine ⟨es.toArray, clock, hes', ⟨?_, ⟨by simpa using hborn, by simpa using hnb, ?_⟩, ?_⟩, by simpa using Nat.le_of_eq hlen', by simp⟩
    · simp only [List.size_toArray, maxLen]; omega
    · have e1 : es.toArray.toList.map (·.key) = m.map (fun x => vstr x.1) := by simpa using hkeys
      rw [e1]
      have e2 : m.map (fun x => vstr x.1) = (m.map (·.1)).map vstr := by simp
      rw [e2]
      exact List.pairwise_map.2 (List.Pairwise.imp (fun hne he => hne (by simpa [vstr, bs] using he)) hnd)
    · intro x hx
      have hx' : x ∈ es := by simpa using hx
      obtain ⟨k, h1, -⟩ := hkey x hx'
      exact ⟨_, hrd x hx' k h1⟩
  have hD : (strKeys (DataW.map ((es.map (Go.WideElems.rg P (ρ.t 26) R)).foldr DataW.insert []))).Perm (m.map (·.1)) := by
    show (((es.map (Go.WideElems.rg P (ρ.t 26) R)).foldr DataW.insert []).map fun p => Go.strOf p.1).Perm _
    refine (List.Perm.map _ (Go.WideShapes.sorted_perm _)).trans ?_
    have : (es.map (Go.WideElems.rg P (ρ.t 26) R)).map (fun p => Go.strOf p.1) = m.map (·.1) := by
      have h1 : (es.map (Go.WideElems.rg P (ρ.t 26) R)).map (fun p => Go.strOf p.1) = (es.map (fun e => e.key)).map (fun v => match v with | .string s => s.data.toList | _ => []) := by
        rw [List.map_map, List.map_map]
        refine List.map_congr_left fun x hx => ?_
        obtain ⟨k, h1, -⟩ := hkey x hx
        simp only [Function.comp, Go.WideElems.rg, hrd x hx k h1, Option.getD_some, Go.strOf, h1]
      rw [h1, hkeys, List.map_map]; rfl
    rw [this]
  have hsize : Maps.size (DataW.map ((es.map (Go.WideElems.rg P (ρ.t 26) R)).foldr DataW.insert [])) = m.length := by
    simp [Maps.size, length_sorted, hlen']
  have hblt : b < w.heap.size := by
    rcases Nat.lt_or_ge b w.heap.size with h | h
    · exact h
    · simp [World.cell?, Array.getElem?_eq_none h] at hcell
  have hseq := AnyZ.keys_gives (ρ := ρ) { L with } Fence.wide 2 trivial rfl (by omega) b r m.length _ w hblt hcell hown
  have hsorts : ∀ k, AnyZ.SortsIn P ρs Fence.wide k := fun k =>
    ⟨fun blk off cap ss W hH hblk hsz => by
        rw [← hm]; exact callsIn_wide.2 (AnyM.slices_Sort_string LM blk off cap ss W hH hblk hsz),
     fun p cap W => by rw [← hm]; exact callsIn_wide.2 (AnyM.slices_Sort_string_none LM p cap W)⟩
  have hS := AnyZ.sorted_in LS Fence.wide 5 trivial trivial trivial trivial rfl (by omega) (hsorts _) e9 (ρ.f 10) #[vptr b] trivial e10 _ _ (by rw [hsize, maxLen]; omega) (by rw [hsize]; omega) w hseq
  refine (callsIn_wide.1 hS).mono ?_
  rintro e w' ⟨v, ss, rfl, hp, hrow, -, hb⟩
  have hperm : ss.Perm (m.map (·.1)) := hp.trans hD
  have hss : (ss.mergeSort fun x y => decide (x ≤ y)) = sortS (m.map (·.1)) := mergeSort_of_perm hperm
  have hl : ss.length = m.length := by rw [hperm.length_eq]; simp
  rw [hss, hl] at hrow
  have hshape : ∃ a c, v = .slice a m.length c := by
    rcases hrow.2 with ⟨rfl, h0⟩ | ⟨g, cap, cur, rfl, -⟩
    · exact ⟨_, _, by rw [h0]⟩
    · exact ⟨_, _, rfl⟩
  refine ⟨v, _, ⟨hshape, rfl⟩, rfl, ?_, Keeps.below hb⟩
  exact St.own (sep_tail hs) hb hrow
theorem sortS_perm (l : List Bs) : (sortS l).Perm l := List.mergeSort_perm _ _
theorem sortS_length (l : List Bs) : (sortS l).length = l.length := (sortS_perm l).length_eq
theorem sortS_mem {l : List Bs} {x : Bs} : x ∈ sortS l ↔ x ∈ l := (sortS_perm l).mem_iff
theorem sortS_fn {P : Program} {ρ : Go.Shelf.Ren} (LM : SlLaysM.n6 P ρ) (e : TypeId) (v : Value) (n : Nat) (xs : List Bs) (hn : n < 4611686018427387904) :
    Fn P (ρ.f 6) #[v] [slR e 1 v n (strs xs)] fun u L => u = .tuple #[] ∧ L = [slR e 1 v n (strs (sortS xs))] := by
  intro F w hs
  have hs' : St ((fun h => ∃ y : List Value × (Nat × Nat) × (Option (Nat × Nat)), (y.2.2 = none ∧ v = .slice none 0 0 ∧ n = 0 ∧ xs = []) ∨ (∃ b cap, y.2.2 = some (b, cap) ∧ v = .slice (some ⟨b, 0, none⟩) n cap ∧ h b = some (.cells (List.toArray (strs xs ++ y.1)) e y.2.1) ∧ xs.length = n ∧ cap ≤ xs.length + y.1.length ∧ n ≤ cap ∧ nfz y.2.1 0 cap)) :: F) w := by
    refine sep_imp (fun h hp => ?_) hs
    rcases hp with ⟨h1, h2, h3⟩ | ⟨b, cap, rest, fr, h1, h2, h3, h4, h5, h6⟩
    · exact ⟨([], (0, 0), none), .inl ⟨rfl, h1, h2, by simpa using h3⟩⟩
    · exact ⟨(rest, fr, some (b, cap)), .inr ⟨b, cap, rfl, h1, h2, by simpa using h3, by simpa using h4, h5, by simpa using h6⟩⟩
  obtain ⟨⟨rest, fr, o⟩, h1, h2, hd, a1, a2, hp, hF⟩ := sep_ex hs'
  rcases hp with ⟨-, rfl, rfl, rfl⟩ | ⟨b, cap, -, rfl, p1, p2, p3, p4, p5⟩
  · refine (AnyM.slices_Sort_string_none LM none 0 w).mono ?_
    rintro e w' ⟨rfl, rfl⟩
    refine ⟨_, _, ⟨rfl, rfl⟩, rfl, ?_, .refl _⟩
    have e : sortS [] = [] := List.eq_nil_of_length_eq_zero (List.mergeSort_perm _ _).length_eq
    rw [e]; exact hs
  · subst p2
    have hb := a1 _ _ p1
    have hlt : b < w.heap.size := by
      rcases Nat.lt_or_ge b w.heap.size with h | h
      · exact h
      · simp [Array.getElem?_eq_none h] at hb
    have hH : Holds encStr w b 0 xs.toArray := by
      intro j hj
      have hj' : j < xs.length := by simpa using hj
      have hb' : w.heap[b]? = some (.cells (strs xs ++ rest).toArray e fr) := hb
      refine ⟨?_, ?_⟩
      · simp only [World.cell?, hb', Nat.zero_add, Option.isSome_none, Bool.false_eq_true, if_false]
        rw [List.getElem?_toArray, List.getElem?_append_left (by simpa using hj')]
        simp [hj']
      · have := p5 j (by omega) (by dsimp only at p3 p4 ⊢; omega)
        simp only [World.frozen?, hb', Nat.zero_add]
        simpa using this
    refine (AnyM.slices_Sort_string LM b 0 cap xs w hH hlt hn).mono ?_
    rintro en w' ⟨rfl, k, os, rfl⟩
    refine ⟨_, _, ⟨rfl, rfl⟩, rfl, ?_, ?_⟩
    · have h2b : h2 b = none := (hd b).resolve_left (by rw [p1]; simp)
      have hsz : (sortS xs).length = xs.length := by rw [show (sortS xs).length = xs.length from (List.mergeSort_perm _ _).length_eq]
      have hnew : (grow (putRow encStr (Sort.ahead w k) b 0 (sortS xs).toArray) os).heap[b]? = some (.cells (putCells encStr 0 (sortS xs).toArray (strs xs ++ rest).toArray) e fr) := heap_sorted _ hb
      have hrow : (putCells encStr 0 (sortS xs).toArray (strs xs ++ rest).toArray) = (strs (sortS xs) ++ rest).toArray := by
        apply Array.ext_getElem?
        intro j
        simp only [putCells, Array.getElem?_mapIdx, List.getElem?_toArray, Nat.zero_le, true_and, Nat.zero_add, Nat.sub_zero, List.size_toArray]
        by_cases hj : j < xs.length
        · rw [List.getElem?_append_left (by simpa using hj), List.getElem?_append_left (by simpa [hsz] using hj)]
          simp [hj, hsz]
        · rw [List.getElem?_append_right (by simp; omega), List.getElem?_append_right (by simp [hsz]; omega)]
          simp [hj, hsz]
      refine ⟨fun c => if c = b then some (.cells (strs (sortS xs) ++ rest).toArray e fr) else none, h2, fun c => ?_, fun c o e => ?_, fun c o hc => ?_, ?_, hF⟩
      · by_cases e : c = b
        · exact .inr (e ▸ h2b)
        · exact .inl (if_neg e)
      · by_cases hc : c = b
        · subst hc; simp at e; subst e; rw [← hrow]; exact hnew
        · simp [hc] at e
      · have hcb : c ≠ b := by rintro rfl; rw [h2b] at hc; cases hc
        have hold := a2 _ _ hc
        have hclt : c < w.heap.size := by
          rcases Nat.lt_or_ge c w.heap.size with h | h
          · exact h
          · simp [Array.getElem?_eq_none h] at hold
        have := (grownBy_sorted (w := w) (g := b) (n := k) (os := os) (sortS xs).toArray).block c hclt (fun e => hcb (by simpa using e))
        show (grow (putRow encStr (Sort.ahead w k) b 0 (sortS xs).toArray) os).heap[c]? = _
        rw [this]; exact hold
      · exact .inr ⟨b, cap, rest, fr, rfl, if_pos rfl, by simp [hsz], by simpa [hsz] using p3, p4, by simpa using p5⟩
    · refine ⟨rfl, rfl, rfl, ?_⟩
      show w.heap.size ≤ ((putRow encStr (Sort.ahead w k) b 0 _).heap ++ os).size
      simp [putRow, mapBlock, Sort.ahead]
end Go.Proofs.YtnnbelmpbmfdnaaGreatDoor
/- Own work: loops over a map that is not written meanwhile: the iterator and the map as one atom. -/
namespace Go.Proofs.YtnnbelmpbmfdnaaGreatDoor
open Go

/-- An iterator over a map: m are the map's entries (f: as they lie there), s those that were handed out. -/
def rangeR {α : Type} (f : α → Value × Value) (it r : Nat) (m s : List α) : HP := fun h => ∃ (zs ss rest : List (MapEntry × α)) (clock : Nat),
  h r = some (.map (zs.map (·.1)).toArray clock) ∧ h it = some (.mapIter (some r) clock (ss.map (·.1.born)).toArray clock) ∧ r ≠ it ∧ zs.map (·.2) = m ∧
  (∀ z ∈ zs, z.1.born < clock ∧ (z.1.key, z.1.val) = f z.2) ∧ (zs.map (·.1.born)).Nodup ∧ zs.Perm (ss ++ rest) ∧ ss.map (·.2) = s
theorem rangeR_map {α : Type} {f : α → Value × Value} {it r : Nat} {m s : List α} {h : Hp} (hr : rangeR f it r m s h) : mapR r (m.map f) h := by
  obtain ⟨zs, ss, rest, clock, h1, h2, h3, h4, h5, h6, h7, h8⟩ := hr
  refine ⟨zs.map (·.1), clock, h1, ?_, ?_, by rw [List.map_map]; exact h6⟩
  · subst h4
    rw [List.map_map, List.map_map]
    exact List.map_congr_left fun z hz => (h5 z hz).2
  · intro e he
    obtain ⟨z, hz, rfl⟩ := List.mem_map.1 he
    exact (h5 z hz).1
theorem getElem_erase_perm {α : Type} : ∀ {l : List α} {j : Nat} (hj : j < l.length), l.Perm (l[j] :: l.eraseIdx j) := by
  intro l
  induction l with
  | nil => intro j hj; simp at hj
  | cons a l ih =>
    intro j hj
    cases j with
    | zero => simp
    | succ j =>
      simp only [List.getElem_cons_succ, List.eraseIdx_cons_succ]
      exact (List.Perm.cons a (ih (by simpa using hj))).trans (List.Perm.swap _ _ _)
section
variable {P : Program} {E : Env} {L R : List HP} {ty : TypeId} {w : World}
theorem OpSpec.range {α : Type} {f : α → Value × Value} {m : List α} {t kt et : TypeId} {x : Operand} {r : Nat} {ents : List (Value × Value)} (hx : ev E x = some (.map (some r))) (ht : P.underlying t = some (.map kt et)) (he : ents = m.map f) :
    OpSpec P ⟨none, .range t x, ty, "", #[], none⟩ E [mapR r ents] fun v L' => ∃ it, v = vptr it ∧ L' = [rangeR f it r m []] := by
  intro ρ w F ha hs
  subst he
  obtain ⟨h1, a1, es, c, hb, hes, hbo, hnd⟩ := sep_head hs
  have hb' := a1 _ _ hb
  have hlt : r < w.heap.size := by
    rcases Nat.lt_or_ge r w.heap.size with h | h
    · exact h
    · simp [Array.getElem?_eq_none h] at hb'
  have hrun : (execOp ρ ⟨none, .range t x, ty, "", #[], none⟩).run P w = .ok (.value (vptr w.heap.size)) { w with heap := w.heap.push (.mapIter (some r) c #[] c) } := by
    refine run_v ?_
    show (Instr.range t (ρ x)).run P w = _
    rw [ha x _ hx]; exact Go.run_range_map w t kt et r _ _ ht hb'
  unfold Runs; rw [hrun]
  refine ⟨_, ⟨_, rfl, rfl⟩, ?_, Keeps.new _ _⟩
  have hn := St.new hs (.mapIter (some r) c #[] c)
  obtain ⟨g1, g2, gd, b1, b2, gp, k1, k2, kd, c1, c2, kp, kF⟩ := hn
  have kr : k1 r = some (.map es.toArray c) := by
    obtain ⟨es', c', q1, -⟩ := kp
    have q2 := b2 _ _ (c1 _ _ q1)
    have q3 : (w.heap.push (.mapIter (some r) c #[] c))[r]? = some (.map es.toArray c) := by
      rw [Array.getElem?_push_lt hlt]; rw [Array.getElem?_eq_getElem hlt] at hb'; exact hb'
    have q2' : (w.heap.push (.mapIter (some r) c #[] c))[r]? = some (.map es'.toArray c') := q2
    rw [q3] at q2'
    rw [q1, ← q2']
  refine ⟨hunion g1 k1, k2, fun b => ?_, fun b o e => ?_, fun b o e => b2 _ _ (c2 _ _ e), ?_, kF⟩
  · cases e : k2 b with
    | none => exact .inr rfl
    | some o =>
      refine .inl ?_
      have e1 : g1 b = none := (gd b).resolve_right (by rw [c2 _ _ e]; simp)
      have e2 : k1 b = none := (kd b).resolve_right (by rw [e]; simp)
      simp [hunion, e1, e2]
  · rcases hunion_some e with e | e
    · exact b1 _ _ e
    · exact b2 _ _ (c1 _ _ e)
  · have hne : r ≠ w.heap.size := by omega
    have hgr : g1 r = none := (gd r).resolve_right (by rw [c1 _ _ kr]; simp)
    have hl : es.length = m.length := by have := congrArg List.length hes; simpa using this
    refine ⟨es.zip m, [], es.zip m, c, ?_, hunion_left gp, hne, ?_, ?_, ?_, by simp, rfl⟩
    · rw [List.map_fst_zip (by omega)]
      simp [hunion, hgr, kr]
    · rw [List.map_snd_zip (by omega)]
    · intro z hz
      refine ⟨hbo _ (List.of_mem_zip hz).1, ?_⟩
      obtain ⟨i, hi, rfl⟩ := List.mem_iff_getElem.1 hz
      simp only [List.length_zip] at hi
      have := congrArg (fun l => l[i]?) hes
      simp [show i < es.length by omega, show i < m.length by omega] at this
      simpa using this
    · have : (es.zip m).map (fun z => z.1.born) = ((es.zip m).map (·.1)).map (·.born) := by rw [List.map_map]; rfl
      rw [this, List.map_fst_zip (by omega)]; exact hnd

theorem perm_left {α : Type} {zs ss rest : List (MapEntry × α)} (hp : zs.Perm (ss ++ rest)) (hn : (zs.map (·.1.born)).Nodup) : (zs.map (·.1)).filter (fun e => !((ss.map (·.1.born)).toArray.contains e.born)) = (zs.filter fun z => !((ss.map (·.1.born)).contains z.1.born)).map (·.1) ∧
    (zs.filter fun z => !((ss.map (·.1.born)).contains z.1.born)).Perm rest := by
  constructor
  · rw [List.filter_map]
    congr 1
    refine List.filter_congr fun z _ => ?_
    simp
  · refine (hp.filter _).trans ?_
    rw [List.filter_append]
    have hn' : ((ss ++ rest).map (·.1.born)).Nodup := (hp.map _).nodup_iff.1 hn
    rw [List.map_append] at hn'
    obtain ⟨n1, n2, n3⟩ := List.nodup_append.1 hn'
    have e1 : ss.filter (fun z => !((ss.map (·.1.born)).contains z.1.born)) = [] := by
      rw [List.filter_eq_nil_iff]
      intro z hz
      have : (ss.map (·.1.born)).contains z.1.born = true := by rw [List.contains_eq_mem]; exact decide_eq_true (List.mem_map.2 ⟨z, hz, rfl⟩)
      rw [this]; simp
    have e2 : rest.filter (fun z => !((ss.map (·.1.born)).contains z.1.born)) = rest := by
      rw [List.filter_eq_self]
      intro z hz
      simp only [Bool.not_eq_true', List.contains_eq_mem, decide_eq_false_iff_not]
      intro hm
      exact n3 _ hm _ (List.mem_map.2 ⟨z, hz, rfl⟩) rfl
    rw [e1, e2, List.nil_append]
theorem OpSpec.next {α : Type} {f : α → Value × Value} {m s : List α} {x : Operand} {it r : Nat} (hx : ev E x = some (vptr it)) :
    OpSpec P ⟨none, .next x false, ty, "", #[], none⟩ E [rangeR f it r m s] fun v L' => (v = .tuple #[.bool false] ∧ m.Perm s ∧ L' = [rangeR f it r m s]) ∨
      ∃ y rest, v = .tuple #[.bool true, (f y).1, (f y).2] ∧ m.Perm (s ++ y :: rest) ∧ L' = [rangeR f it r m (s ++ [y])] := by
  intro ρ w F ha hs
  obtain ⟨h1, h2, hd, a1, a2, ⟨zs, ss, rest, clock, q1, q2, q3, q4, q5, q6, q7, q8⟩, hF⟩ := hs
  have hr := a1 _ _ q1
  have hi := a1 _ _ q2
  have hgr : ∀ {w' : World}, w'.heap[r]? = some (.map (zs.map (·.1)).toArray clock) → (getObj r).run P w' = .ok (.map (zs.map (·.1)).toArray clock) w' := fun h => run_getMap h
  have hgi : (getObj it).run P w = .ok (.mapIter (some r) clock (ss.map (·.1.born)).toArray clock) w := by
    simp only [getObj, Sem.run, hi]
  have hold : ∀ e ∈ (zs.map (·.1)).toArray.toList, e.born < clock := by
    intro e he
    simp only [List.mem_map] at he
    obtain ⟨z, hz, rfl⟩ := he
    exact (q5 z hz).1
  have htest := Go.next_test_false (ss.map (·.1.born)).toArray (zs.map (·.1)).toArray clock clock hold (Nat.le_refl _)
  obtain ⟨p1, p2⟩ := perm_left q7 q6
  have hleft : (zs.map (·.1)).toArray.filter (fun e => !(ss.map (·.1.born)).toArray.contains e.born) = ((zs.filter fun z => !((ss.map (·.1.born)).contains z.1.born)).map (·.1)).toArray := by
    rw [← p1, List.filter_toArray]
  generalize (zs.filter fun z => !((ss.map (·.1.born)).contains z.1.born)) = lft at p2 hleft
  have hmem : ∀ z ∈ lft, z ∈ zs := fun z hz => q7.mem_iff.2 (List.mem_append_right _ (p2.mem_iff.1 hz))
  have e1 : ((lft.map (·.1)).toArray).filter (fun x => decide (x.born < clock)) = (lft.map (·.1)).toArray := by
    apply Array.filter_eq_self.2
    intro e he
    simp only [List.mem_toArray, List.mem_map] at he
    obtain ⟨z, hz, rfl⟩ := he
    simpa using (q5 z (hmem z hz)).1
  have e2 : ((lft.map (·.1)).toArray).filter (fun x => decide (x.born ≥ clock)) = #[] := by
    rw [Array.filter_eq_empty_iff]
    intro e he
    simp only [List.mem_toArray, List.mem_map] at he
    obtain ⟨z, hz, rfl⟩ := he
    have := (q5 z (hmem z hz)).1
    simp; omega
  have hstart : (execOp ρ ⟨none, .next x false, ty, "", #[], none⟩).run P w = (do pure (Next.value (← Instr.next (vptr it) false ty)) : Sem Next).run P w := by
    show (do pure (Next.value (← Instr.next (ρ x) false ty)) : Sem Next).run P w = _
    rw [ha x _ hx]
  by_cases h0 : lft = []
  · subst h0
    have hrun : (Instr.next (vptr it) false ty).run P w = .ok (.tuple #[.bool false]) w := by
      simp only [Instr.next, Sem.run_bind, hgi, Result.andThen, hgr hr, htest, Bool.false_eq_true, if_false, hleft, e1, e2]
      simp [choose, Sem.run, Question.forced]
    unfold Runs
    rw [hstart, run_v hrun]
    refine ⟨_, .inl ⟨rfl, ?_, rfl⟩, ⟨h1, h2, hd, a1, a2, ⟨zs, ss, rest, clock, q1, q2, q3, q4, q5, q6, q7, q8⟩, hF⟩, .refl _⟩
    have : rest = [] := p2.nil_eq.symm
    subst this
    rw [← q4, ← q8]
    simpa using q7.map (·.2)
  · have hne : ((lft.map (·.1)).toArray).isEmpty = false := by
      cases lft with
      | nil => exact absurd rfl h0
      | cons a l => simp
    have hch : ∃ (j : Nat) (k : Nat), j < lft.length ∧ (choose (Question.mapNext lft.length)).run P w = .ok j { w with drawn := w.drawn + k } := by
      have h0' : 0 < lft.length := List.length_pos_iff.2 h0
      by_cases hf : lft.length ≤ 1
      · exact ⟨0, 0, by omega, by simp [choose, Sem.run, Question.forced, hf]⟩
      · exact ⟨_, 1, Nat.mod_lt _ (by omega), by
          simp only [choose, Sem.run, Question.forced, decide_eq_true_eq, hf, if_false, Question.cut]
          rfl⟩
    obtain ⟨j, k, hj, hrunc⟩ := hch
    have hitlt : it < w.heap.size := by
      rcases Nat.lt_or_ge it w.heap.size with h | h
      · exact h
      · simp [Array.getElem?_eq_none h] at hi
    have hrun : (Instr.next (vptr it) false ty).run P w = .ok (.tuple #[.bool true, lft[j].1.key, lft[j].1.val]) { w with drawn := w.drawn + k, heap := w.heap.setIfInBounds it (.mapIter (some r) clock ((ss.map (·.1.born)).toArray.push lft[j].1.born) clock) } := by
      simp only [Instr.next, Sem.run_bind, hgi, Result.andThen, hgr hr, htest, Bool.false_eq_true, if_false, hleft, e1, e2]
      simp only [Array.append_empty, hne, Bool.false_eq_true, if_false, Array.empty_append, Array.size_map, List.size_toArray, List.length_map, hrunc]
      simp only [Array.getElem?_map, List.getElem?_toArray, List.getElem?_map, List.getElem?_eq_getElem hj, Option.map_some]
      simp only [Sem.run_bind, setObj, Sem.run, hi, Result.andThen]
      rfl
    unfold Runs
    rw [hstart, run_v hrun]
    have hz : lft[j] ∈ lft := List.getElem_mem hj
    have hzz := q5 _ (hmem _ hz)
    have hkv : (f lft[j].2) = (lft[j].1.key, lft[j].1.val) := hzz.2.symm
    have hp3 : zs.Perm ((ss ++ [lft[j]]) ++ lft.eraseIdx j) := by
      refine q7.trans ?_
      rw [List.append_assoc]
      refine List.Perm.append_left _ (p2.symm.trans ?_)
      have : lft.Perm (lft[j] :: lft.eraseIdx j) := getElem_erase_perm hj
      exact this
    refine ⟨[rangeR f it r m (s ++ [lft[j].2])], .inr ⟨lft[j].2, (lft.eraseIdx j).map (·.2), by rw [hkv], ?_, rfl⟩, ?_, ⟨rfl, rfl, rfl, by simp⟩⟩
    · rw [← q4, ← q8]
      have := hp3.map (·.2)
      simpa using this
    · have h2it : h2 it = none := (hd it).resolve_left (by rw [q2]; simp)
      refine ⟨fun c => if c = it then some (.mapIter (some r) clock ((ss.map (·.1.born)).toArray.push lft[j].1.born) clock) else h1 c, h2, fun c => ?_, fun c o e => ?_, fun c o e => ?_, ?_, hF⟩
      · by_cases e : c = it
        · exact .inr (e ▸ h2it)
        · simp only [e, if_false]; exact hd c
      · by_cases hc : c = it
        · subst hc; simp at e; subst e; simp [hitlt]
        · simp only [hc, if_false] at e
          simp only [Array.getElem?_setIfInBounds, Ne.symm hc, if_false]
          exact a1 _ _ e
      · have hc : c ≠ it := by rintro rfl; rw [h2it] at e; cases e
        simp only [Array.getElem?_setIfInBounds, Ne.symm hc, if_false]
        exact a2 _ _ e
      · refine ⟨zs, ss ++ [lft[j]], lft.eraseIdx j, clock, by simp only [q3, if_false]; exact q1, by simp, q3, q4, q5, q6, hp3, by simp [q8]⟩
theorem Quiet.entry {α : Type} {f : α → Value × Value} {m s : List α} {x : Operand} {it r : Nat} {y : α} (hx : ev E x = some (vptr it)) (hL : Pick (rangeR f it r m (s ++ [y])) L R) :
    Quiet P ⟨none, .entry x, ty, "", #[], none⟩ E L (.tuple #[(f y).1, (f y).2]) := by
  intro ρ w ha hs
  obtain ⟨h1, a1, zs, ss, rest, clock, q1, q2, q3, q4, q5, q6, q7, q8⟩ := sep_head (hs.pick hL)
  have hr := a1 _ _ q1
  have hi := a1 _ _ q2
  refine run_v ?_
  show (Instr.entry (ρ x)).run P w = _
  rw [ha x _ hx]
  obtain ⟨ss', z, rfl, h8⟩ : ∃ ss' z, ss = ss' ++ [z] ∧ z.2 = y := by
    rcases List.eq_nil_or_concat ss with rfl | ⟨ss', z, rfl⟩
    · simp at q8
    · refine ⟨ss', z, by simp, ?_⟩
      simp at q8
      exact q8.2
  have hz : z ∈ zs := q7.mem_iff.2 (by simp)
  have hkv := (q5 z hz).2
  rw [h8] at hkv
  have hgi : (getObj it).run P w = .ok (.mapIter (some r) clock ((ss' ++ [z]).map (·.1.born)).toArray clock) w := by
    simp only [getObj, Sem.run, hi]
  have hback : ((ss' ++ [z]).map (·.1.born)).toArray.back? = some z.1.born := by simp
  have hf : (zs.map (·.1)).toArray.find? (·.born == z.1.born) = some z.1 := by
    rw [← Array.find?_toList]
    exact Go.find_born z.1 _ (by rw [List.map_map]; exact q6) (List.mem_map.2 ⟨z, hz, rfl⟩)
  simp only [Instr.entry, Sem.run_bind, hgi, Result.andThen, hback, run_getMap hr, bne_self_eq_false, Bool.false_eq_true, if_false, hf, ← hkv]
  rfl
theorem Quiet.entryE {α : Type} {f : α → Value × Value} {m s : List α} {x : Operand} {it r : Nat} {y : α} {v : Value} (hx : ev E x = some (vptr it)) (hL : Pick (rangeR f it r m (s ++ [y])) L R) (hv : Value.tuple #[(f y).1, (f y).2] = v) :
    Quiet P ⟨none, .entry x, ty, "", #[], none⟩ E L v := hv ▸ Quiet.entry hx hL
theorem G.rangeDone {W : World} {n : Nat} {ds : List Deferred} {X : Act → World → Prop} {α : Type} {f : α → Value × Value} {m s : List α} {it r : Nat} (hL : Pick (rangeR f it r m s) L R) (h : G W n ds E (mapR r (m.map f) :: R) X) : G W n ds E L X :=
  fun a w he hk hs => h a w he hk (sep_imp (fun _ hp => rangeR_map hp) (hs.pick hL))
end
end Go.Proofs.YtnnbelmpbmfdnaaGreatDoor
/- Own work: a tree as plain data: nodes by rising paths, sessions by rising numbers; what each transaction does. -/

namespace Go.Proofs.YtnnbelmpbmfdnaaGreatDoor
open Go

structure Nd where
  data : Bs
  acl : List Ac
  st : Stt
instance : DecidableEq Nd := fun a b => decidable_of_iff (a.data = b.data ∧ a.acl = b.acl ∧ a.st = b.st) ⟨fun ⟨h1, h2, h3⟩ => by cases a; cases b; cases h1; cases h2; cases h3; rfl, fun h => by rw [h]; exact ⟨rfl, rfl, rfl⟩⟩
structure Tr where
  nodes : List (Bs × Nd)
  sess : List (Int × (Int × Bs))
  zx : Int
theorem Tr.ext' {a b : Tr} (h1 : a.nodes = b.nodes) (h2 : a.sess = b.sess) (h3 : a.zx = b.zx) : a = b := by
  cases a; cases b; cases h1; cases h2; cases h3; rfl
/-- A part of a transaction: its own fields; where its lists lie. -/
structure Pt where
  kind : Int
  path : Bs
  data : Bs
  aclV : Value
  acl : List Ac
  own : Int
  num : Int
  err : Int
  subsV : Value
def ptC (x : Pt) : List Value := [vint x.kind, vstr x.path, vstr x.data, x.aclV, vint x.own, vint x.num, vint x.err, x.subsV]
/-- A node's own numbers, without Length and Kids. -/
def ableZ (p : Bs) : Prop := p ≠ [47] ∧ checkZ p = 0
instance (p : Bs) : Decidable (ableZ p) := inferInstanceAs (Decidable (_ ∧ _))
def thereT (τ : Tr) (p : Bs) : Prop := (alook τ.nodes p).isSome = true
instance (τ : Tr) (p : Bs) : Decidable (thereT τ p) := inferInstanceAs (Decidable (_ = _))
def kidN (num zx : Int) (n : Nd) : Nd := { n with st := { n.st with cver := num, pz := zx } }
def setN (d : Bs) (num zx : Int) (n : Nd) : Nd := { n with data := d, st := { n.st with ver := num, mz := zx } }
def aclN (acl : List Ac) (num : Int) (n : Nd) : Nd := { n with acl := acl, st := { n.st with av := num } }
def newN (x : Pt) (zx : Int) : Nd := ⟨x.data, x.acl, { st0 with cz := zx, mz := zx, pz := zx, own := x.own }⟩
def kidT (τ : Tr) (p : Bs) (num zx : Int) : Tr := { τ with nodes := amod τ.nodes p (kidN num zx) }
def createZ (τ : Tr) (x : Pt) (zx : Int) : Tr × List Ev :=
  if ableZ x.path ∧ thereT τ (parentZ x.path) then
    (kidT { τ with nodes := sset τ.nodes x.path (newN x zx) } (parentZ x.path) x.num zx, [(if thereT τ x.path then 3 else 1, (x.path, zx)), (4, (parentZ x.path, zx))])
  else (τ, [])
def hitT (x p : Bs) : Bool := decide (x = p) || decide (underZ x p)
def cutT (τ : Tr) (p : Bs) : Tr := { τ with nodes := τ.nodes.filter fun y => !hitT y.1 p }
def eraseZ (τ : Tr) (x : Pt) (zx : Int) : Tr × List Ev :=
  if ableZ x.path then
    (kidT (cutT τ x.path) (parentZ x.path) x.num zx, if thereT τ x.path then (2, (x.path, zx)) :: (if thereT (cutT τ x.path) (parentZ x.path) then [(4, (parentZ x.path, zx))] else []) else [])
  else (τ, [])
def partZ (τ : Tr) (x : Pt) (zx : Int) : Tr × List Ev :=
  if x.kind = 1 then createZ τ x zx
  else if x.kind = 2 then eraseZ τ x zx
  else if x.kind = 3 ∧ thereT τ x.path then ({ τ with nodes := amod τ.nodes x.path (setN x.data x.num zx) }, [(3, (x.path, zx))])
  else if x.kind = 4 ∧ thereT τ x.path then ({ τ with nodes := amod τ.nodes x.path (aclN x.acl x.num) }, [])
  else (τ, [])
def partsZ (τ : Tr) (zx : Int) (l : List Pt) : Tr × List Ev := l.foldl (fun r x => ((partZ r.1 x zx).1, r.2 ++ (partZ r.1 x zx).2)) (τ, [])
theorem parts_nil (τ : Tr) (zx : Int) : partsZ τ zx [] = (τ, []) := rfl
theorem parts_snoc (τ : Tr) (zx : Int) (l : List Pt) (x : Pt) : partsZ τ zx (l ++ [x]) = ((partZ (partsZ τ zx l).1 x zx).1, (partsZ τ zx l).2 ++ (partZ (partsZ τ zx l).1 x zx).2) := by
  unfold partsZ; rw [List.foldl_append]; rfl
def isDel (x : Pt) : Bool := decide (x.kind = 2)
def dropS (τ : Tr) (id : Int) : Tr := { τ with sess := τ.sess.filter fun y => !decide (y.1 = id) }
def openS (τ : Tr) (id n : Int) (s : Bs) : Tr := { τ with sess := sset τ.sess id (n, s) }
def zxT (τ : Tr) (zx : Int) : Tr := { τ with zx := zx }
def applyZ (τ0 : Tr) (zx : Int) (x : Pt) (subs : List Pt) : Tr × (List Ev × Int) :=
  let τ := zxT τ0 zx
  if x.kind = 5 then (if 0 < x.own then openS τ x.own x.num x.data else τ, ([], 0))
  else if x.kind = 6 then (dropS (partsZ τ zx (subs.filter isDel)).1 x.own, ((partsZ τ zx (subs.filter isDel)).2, 0))
  else if x.kind = 7 then ((partsZ τ zx subs).1, ((partsZ τ zx subs).2, 0))
  else if x.kind = 8 then (τ, ([], x.err))
  else ((partZ τ x zx).1, ((partZ τ x zx).2, 0))
def kidsZ (τ : Tr) (p : Bs) : List Bs := (τ.nodes.filter fun y => !decide (y.1 = [47]) && decide (parentZ y.1 = p)).map fun y => baseZ y.1
def statZ (τ : Tr) (p : Bs) : Option Stt := (alook τ.nodes p).map fun n => { n.st with len := n.data.length, kids := (kidsZ τ p).length }
def pathsZ (τ : Tr) : List Bs := τ.nodes.map (·.1)
def ownedZ (τ : Tr) (s : Int) : List Bs := (τ.nodes.filter fun y => !decide (s = 0) && decide (y.2.st.own = s)).map (·.1)
def newT : Tr := ⟨[([47], ⟨[], [(31, [119, 111, 114, 108, 100])], st0⟩)], [], 0⟩
/-! ### What is always so -/
structure Tr.Ok (τ : Tr) (N : Nat) : Prop where
  sorted : SortedK τ.nodes
  ssorted : SortedK τ.sess
  few : τ.nodes.length ≤ N
  able : ∀ x ∈ τ.nodes, x.1 = [47] ∨ ableZ x.1
  ids : ∀ x ∈ τ.sess, 1 ≤ x.1
  acls : ∀ x ∈ τ.nodes, x.2.acl.length ≤ 1048576
  sfew : τ.sess.length ≤ N
theorem able_len {p : Bs} (h : p = [47] ∨ ableZ p) : p.length ≤ 60 := by
  rcases h with rfl | ⟨h1, h2⟩
  · decide
  · unfold checkZ at h2
    rw [if_neg h1] at h2
    split at h2
    · cases h2
    · split at h2
      · cases h2
      · omega
theorem Tr.Ok.more {τ : Tr} {N M : Nat} (h : τ.Ok N) (hm : N ≤ M) : τ.Ok M := { h with few := Nat.le_trans h.few hm, sfew := Nat.le_trans h.sfew hm }
theorem newT_ok : newT.Ok 1 := ⟨by unfold SortedK newT; simp, by unfold SortedK newT; simp, by simp [newT], by simp [newT], by simp [newT], by simp [newT], by simp [newT]⟩
theorem Tr.Ok.zx {τ : Tr} {N : Nat} (h : τ.Ok N) (z : Int) : (zxT τ z).Ok N := ⟨h.sorted, h.ssorted, h.few, h.able, h.ids, h.acls, h.sfew⟩
theorem amod_mem {K β : Type} [DecidableEq K] {l : List (K × β)} {k : K} {f : β → β} {x : K × β} (h : x ∈ amod l k f) : ∃ y ∈ l, y.1 = x.1 ∧ (x.2 = y.2 ∨ (y.1 = k ∧ x.2 = f y.2)) := by
  obtain ⟨y, hy, rfl⟩ := List.mem_map.1 h
  refine ⟨y, hy, ?_⟩
  split
  · rename_i e; exact ⟨rfl, .inr ⟨e, rfl⟩⟩
  · exact ⟨rfl, .inl rfl⟩
theorem sset_mem {K β : Type} [LT K] [DecidableEq K] [DecidableLT K] {l : List (K × β)} {k : K} {v : β} {x : K × β} (h : x ∈ sset l k v) : x = (k, v) ∨ x ∈ l := by
  induction l with
  | nil => simpa [sset] using h
  | cons y l ih =>
    unfold sset at h
    split at h
    · rcases List.mem_cons.1 h with rfl | h
      · exact .inl rfl
      · exact .inr (List.mem_cons_of_mem _ h)
    · split at h
      · rcases List.mem_cons.1 h with rfl | h
        · exact .inl rfl
        · exact .inr h
      · rcases List.mem_cons.1 h with rfl | h
        · exact .inr List.mem_cons_self
        · exact (ih h).imp id (List.mem_cons_of_mem _)
theorem Tr.Ok.mod {τ : Tr} {N : Nat} (h : τ.Ok N) (p : Bs) (f : Nd → Nd) (hf : ∀ n, (f n).acl.length ≤ 1048576 ∨ (f n).acl = n.acl) : ({ τ with nodes := amod τ.nodes p f } : Tr).Ok N := by
  refine ⟨h.sorted.amod p f, h.ssorted, by show (amod τ.nodes p f).length ≤ N; rw [amod_len]; exact h.few, fun x hx => ?_, h.ids, fun x hx => ?_, h.sfew⟩
  · obtain ⟨y, hy, e, -⟩ := amod_mem hx
    rw [← e]; exact h.able y hy
  · obtain ⟨y, hy, -, e | ⟨-, e⟩⟩ := amod_mem hx
    · rw [e]; exact h.acls y hy
    · rw [e]
      rcases hf y.2 with g | g
      · exact g
      · rw [g]; exact h.acls y hy
theorem Tr.Ok.kid {τ : Tr} {N : Nat} (h : τ.Ok N) (p : Bs) (num zx : Int) : (kidT τ p num zx).Ok N := h.mod p _ fun _ => .inr rfl
theorem Tr.Ok.lay {τ : Tr} {N : Nat} (h : τ.Ok N) {p : Bs} (hp : p = [47] ∨ ableZ p) (n : Nd) (hn : n.acl.length ≤ 1048576) : ({ τ with nodes := sset τ.nodes p n } : Tr).Ok (N + 1) := by
  refine ⟨h.sorted.sset linB p n, h.ssorted, ?_, fun x hx => ?_, h.ids, fun x hx => ?_, Nat.le_succ_of_le h.sfew⟩
  · have := (sset_len τ.nodes p n).1
    have := h.few
    show (sset τ.nodes p n).length ≤ N + 1
    omega
  · rcases sset_mem hx with rfl | hx
    · exact hp
    · exact h.able x hx
  · rcases sset_mem hx with rfl | hx
    · exact hn
    · exact h.acls x hx
theorem Tr.Ok.cut {τ : Tr} {N : Nat} (h : τ.Ok N) (p : Bs) : (cutT τ p).Ok N :=
  ⟨h.sorted.filter _, h.ssorted, Nat.le_trans (List.length_filter_le _ _) h.few, fun x hx => h.able x (List.mem_filter.1 hx).1, h.ids, fun x hx => h.acls x (List.mem_filter.1 hx).1, h.sfew⟩
theorem Tr.Ok.part {τ : Tr} {N : Nat} (h : τ.Ok N) (x : Pt) (zx : Int) (hx : x.acl.length ≤ 1048576) : (partZ τ x zx).1.Ok (N + 1) := by
  unfold partZ
  split
  · unfold createZ
    split
    · rename_i g; exact (h.lay (.inr g.1) (newN x zx) hx).kid _ _ _
    · exact h.more (Nat.le_add_right N 1)
  split
  · unfold eraseZ
    split
    · exact ((h.cut _).kid _ _ _).more (Nat.le_add_right N 1)
    · exact h.more (Nat.le_add_right N 1)
  split
  · exact (h.mod x.path (setN x.data x.num zx) fun _ => .inr rfl).more (Nat.le_add_right N 1)
  split
  · exact (h.mod x.path (aclN x.acl x.num) fun _ => .inl hx).more (Nat.le_add_right N 1)
  · exact h.more (Nat.le_add_right N 1)
theorem Tr.Ok.parts {τ : Tr} {N : Nat} (h : τ.Ok N) (zx : Int) (l : List Pt) (hl : ∀ x ∈ l, x.acl.length ≤ 1048576) : (partsZ τ zx l).1.Ok (N + l.length) := by
  have key : ∀ (l : List Pt) (r : Tr × List Ev) (N : Nat), r.1.Ok N → (∀ x ∈ l, x.acl.length ≤ 1048576) → (l.foldl (fun r x => ((partZ r.1 x zx).1, r.2 ++ (partZ r.1 x zx).2)) r).1.Ok (N + l.length) := by
    intro l
    induction l with
    | nil => intro r N h _; exact h
    | cons x l ih =>
      intro r N h hl
      rw [List.foldl_cons]
      refine (ih ((partZ r.1 x zx).1, r.2 ++ (partZ r.1 x zx).2) (N + 1) (h.part x zx (hl x (by simp))) (fun y hy => hl y (by simp [hy]))).more ?_
      rw [List.length_cons]; omega
  exact key l _ N h hl
theorem Tr.Ok.dropS {τ : Tr} {N : Nat} (h : τ.Ok N) (id : Int) : (dropS τ id).Ok N :=
  ⟨h.sorted, h.ssorted.filter _, h.few, h.able, fun x hx => h.ids x (List.mem_filter.1 hx).1, h.acls, Nat.le_trans (List.length_filter_le _ _) h.sfew⟩
theorem Tr.Ok.openS {τ : Tr} {N : Nat} (h : τ.Ok N) {id : Int} (hi : 0 < id) (n : Int) (s : Bs) : (openS τ id n s).Ok (N + 1) := by
  refine ⟨h.sorted, h.ssorted.sset linI _ _, Nat.le_succ_of_le h.few, h.able, fun x hx => ?_, h.acls, Nat.le_trans (sset_len τ.sess id (n, s)).1 (Nat.succ_le_succ h.sfew)⟩
  rcases sset_mem hx with rfl | hx
  · dsimp only; omega
  · exact h.ids x hx
theorem Tr.Ok.apply {τ : Tr} {N : Nat} (h : τ.Ok N) (zx : Int) (x : Pt) (subs : List Pt) (hx : x.acl.length ≤ 1048576) (hs : ∀ y ∈ subs, y.acl.length ≤ 1048576) : (applyZ τ zx x subs).1.Ok (N + 1 + subs.length) := by
  have h0 := h.zx zx
  unfold applyZ
  dsimp only
  split
  · split
    · rename_i g; exact (h0.openS g _ _).more (by omega)
    · exact h0.more (by omega)
  split
  · refine ((h0.parts zx (subs.filter isDel) fun y hy => hs y (List.mem_filter.1 hy).1).dropS _).more ?_
    have := List.length_filter_le isDel subs
    omega
  split
  · exact (h0.parts zx subs hs).more (by omega)
  split
  · exact h0.more (by omega)
  · exact (h0.part x zx hx).more (by omega)
end Go.Proofs.YtnnbelmpbmfdnaaGreatDoor
/- Own work: what stands for a tree in memory; how its plain data and its maps belong together. -/

namespace Go.Proofs.YtnnbelmpbmfdnaaGreatDoor
open Go

/-- A node in memory: its place, where its ACL lies, what it is. -/
abbrev Nm := Nat × (Value × Nd)
abbrev NmM := List (Bs × Nm)
abbrev SsM := List (Int × (Int × Bs))
def ndC (v : Value) (n : Nd) : List Value := [vstr n.data, v, vint n.st.cz, vint n.st.mz, vint n.st.pz, vint n.st.ver, vint n.st.cver, vint n.st.av, vint n.st.own, vint n.st.len, vint n.st.kids]
def ndV (x : Nm) : Value := vptr x.1
def ssV (x : Int × Bs) : Value := .agg #[vint x.1, vstr x.2]
def ndE (m : NmM) : List (Value × Value) := m.map fun x => (vstr x.1, ndV x.2)
def ssE (s : SsM) : List (Value × Value) := s.map fun x => (vint x.1, ssV x.2)
def inN (x : Bs × Nm) : HP := fun h => ∃ _ : Unit, sep [ptc x.2.1 (ndC x.2.2.1 x.2.2.2) 106, rdO 2 x.2.2.1 x.2.2.2.acl.length (x.2.2.2.acl.flatMap acC)] h
structure TrI (τ : Tr) (m : NmM) (s : SsM) : Prop where
  keys : (m.map (·.1)).Nodup
  look : ∀ p, (alook m p).map (fun x : Nm => x.2.2) = alook τ.nodes p
  skeys : (s.map (·.1)).Nodup
  slook : ∀ i, alook s i = alook τ.sess i
def treeR (t : Nat) (τ : Tr) : HP := fun h => ∃ x : (Nat × Nat) × (NmM × SsM), TrI τ x.2.1 x.2.2 ∧ sep [ptc t [.map (some x.1.1), .map (some x.1.2), vint τ.zx] 110, mapR x.1.1 (ndE x.2.1), mapR x.1.2 (ssE x.2.2), bigR inN x.2.1] h
section
variable {W : World} {n : Nat} {ds : List Deferred} {E : Env} {L R : List HP} {X : Act → World → Prop}
theorem G.trOpen {t : Nat} {τ : Tr} (hL : Pick (treeR t τ) L R) (h : ∀ rn rs m s, TrI τ m s → G W n ds E (ptc t [.map (some rn), .map (some rs), vint τ.zx] 110 :: mapR rn (ndE m) :: mapR rs (ssE s) :: bigR inN m :: R) X) : G W n ds E L X :=
  G.focus hL (G.open (q := fun x : (Nat × Nat) × (NmM × SsM) => [ptc t [.map (some x.1.1), .map (some x.1.2), vint τ.zx] 110, mapR x.1.1 (ndE x.2.1), mapR x.1.2 (ssE x.2.2), bigR inN x.2.1]) (φ := fun x : (Nat × Nat) × (NmM × SsM) => TrI τ x.2.1 x.2.2) (fun _ hp => hp) fun x hx => h x.1.1 x.1.2 x.2.1 x.2.2 hx)
theorem G.trFold {t rn rs : Nat} {τ : Tr} {m : NmM} {s : SsM} {l : List Value} {e1 e2 : List (Value × Value)} (hI : TrI τ m s) (hL : Picks [ptc t l 110, mapR rn e1, mapR rs e2, bigR inN m] L R) (hl : l = [.map (some rn), .map (some rs), vint τ.zx]) (h1 : e1 = ndE m) (h2 : e2 = ssE s)
    (h : G W n ds E (treeR t τ :: R) X) : G W n ds E L X := by
  subst hl; subst h1; subst h2
  exact G.fold hL (fun _ hp => ⟨((rn, rs), (m, s)), hI, hp⟩) h
theorem G.trCast {t : Nat} {τ τ' : Tr} (hL : Pick (treeR t τ) L R) (hw : τ' = τ) (h : G W n ds E (treeR t τ' :: R) X) : G W n ds E L X := by
  subst hw; exact G.focus hL h
theorem G.ndOpen {x : Bs × Nm} (hL : Pick (inN x) L R) (h : G W n ds E (ptc x.2.1 (ndC x.2.2.1 x.2.2.2) 106 :: rdO 2 x.2.2.1 x.2.2.2.acl.length (x.2.2.2.acl.flatMap acC) :: R) X) : G W n ds E L X :=
  G.focus hL (G.open (q := fun _ : Unit => [ptc x.2.1 (ndC x.2.2.1 x.2.2.2) 106, rdO 2 x.2.2.1 x.2.2.2.acl.length (x.2.2.2.acl.flatMap acC)]) (φ := fun _ => True) (fun _ hp => let ⟨u, hs⟩ := hp; ⟨u, trivial, hs⟩) fun _ _ => h)
theorem G.ndFold {x : Bs × Nm} {l : List Value} {k : Nat} {v : Value} {ys : List Value} (hL : Picks [ptc x.2.1 l 106, rdO 2 v k ys] L R) (hl : l = ndC x.2.2.1 x.2.2.2) (hv : v = x.2.2.1) (hk : k = x.2.2.2.acl.length) (hy : ys = x.2.2.2.acl.flatMap acC)
    (h : G W n ds E (inN x :: R) X) : G W n ds E L X := by
  subst hl; subst hv; subst hk; subst hy
  exact G.fold hL (fun _ hp => ⟨(), hp⟩) h
end
/-! ### Who keeps it -/
theorem TrI.at {τ : Tr} {m : NmM} {s : SsM} (h : TrI τ m s) {p : Bs} {x : Nm} (hx : alook m p = some x) : alook τ.nodes p = some x.2.2 := by rw [← h.look, hx]; rfl
theorem TrI.none_iff {τ : Tr} {m : NmM} {s : SsM} (h : TrI τ m s) {p : Bs} : alook m p = none ↔ ¬ thereT τ p := by
  unfold thereT; rw [← h.look]; cases alook m p <;> simp
theorem TrI.some_iff {τ : Tr} {m : NmM} {s : SsM} (h : TrI τ m s) {p : Bs} {x : Nm} (hx : alook m p = some x) : thereT τ p := by
  unfold thereT; rw [← h.look, hx]; rfl
theorem TrI.zx {τ : Tr} {m : NmM} {s : SsM} (h : TrI τ m s) (z : Int) : TrI (zxT τ z) m s := ⟨h.keys, h.look, h.skeys, h.slook⟩
/-- A node is written. -/
theorem TrI.mod {τ : Tr} {m : NmM} {s : SsM} (h : TrI τ m s) {p : Bs} {x y : Nm} (hx : alook m p = some x) (f : Nd → Nd) (hy : y.2.2 = f x.2.2) : TrI { τ with nodes := amod τ.nodes p f } (aset m p y) s := by
  refine ⟨nodup_aset h.keys _ _, fun q => ?_, h.skeys, h.slook⟩
  show _ = alook (amod τ.nodes p f) q
  rw [al_aset, al_amod, ← h.look q]
  by_cases e : q = p
  · subst e; rw [if_pos rfl, if_pos rfl, hx]; simp [hy]
  · rw [if_neg e, if_neg e]
theorem amod_none {K β : Type} [DecidableEq K] {l : List (K × β)} {k : K} (h : alook l k = none) (f : β → β) : amod l k f = l := by
  have hk := al_none.1 h
  unfold amod
  conv => rhs; rw [← List.map_id l]
  refine List.map_congr_left fun x hx => ?_
  rw [if_neg (fun e => hk (List.mem_map.2 ⟨x, hx, e⟩))]; rfl
theorem TrI.kidN {τ : Tr} {m : NmM} {s : SsM} (h : TrI τ m s) {p : Bs} (hx : alook m p = none) (f : Nd → Nd) : ({ τ with nodes := amod τ.nodes p f } : Tr) = τ := by
  have : alook τ.nodes p = none := by rw [← h.look, hx]; rfl
  rw [amod_none this]
theorem TrI.lay {τ : Tr} {m : NmM} {s : SsM} (h : TrI τ m s) (p : Bs) (x : Nm) : TrI { τ with nodes := sset τ.nodes p x.2.2 } (aset m p x) s := by
  refine ⟨nodup_aset h.keys _ _, fun q => ?_, h.skeys, h.slook⟩
  show _ = alook (sset τ.nodes p x.2.2) q
  rw [al_aset, al_sset, ← h.look q]
  by_cases e : q = p
  · subst e; rw [if_pos rfl, if_pos rfl]; rfl
  · rw [if_neg e, if_neg e]
theorem TrI.open {τ : Tr} {m : NmM} {s : SsM} (h : TrI τ m s) (id n : Int) (c : Bs) : TrI (openS τ id n c) m (aset s id (n, c)) := by
  refine ⟨h.keys, h.look, nodup_aset h.skeys _ _, fun i => ?_⟩
  show _ = alook (sset τ.sess id (n, c)) i
  rw [al_aset, al_sset, h.slook]
theorem TrI.drop {τ : Tr} {m : NmM} {s : SsM} (h : TrI τ m s) (id : Int) : TrI (dropS τ id) m (adel s id) := by
  refine ⟨h.keys, h.look, nodup_adel h.skeys _, fun i => ?_⟩
  show _ = alook (τ.sess.filter fun y => !decide (y.1 = id)) i
  rw [al_adel h.skeys, al_filter (fun k => !decide (k = id)), h.slook]
  by_cases e : i = id
  · subst e; simp
  · simp [e]
/-- The paths, rising, whatever order the map has. -/
theorem TrI.perm {τ : Tr} {m : NmM} {s : SsM} (h : TrI τ m s) {N : Nat} (ho : τ.Ok N) : (m.map (·.1)).Perm (pathsZ τ) := by
  refine (List.perm_ext_iff_of_nodup h.keys (ho.sorted.nodup linB)).2 fun p => ?_
  rw [← al_isSome, ← al_isSome, ← h.look]; simp
theorem TrI.len {τ : Tr} {m : NmM} {s : SsM} (h : TrI τ m s) {N : Nat} (ho : τ.Ok N) : m.length = τ.nodes.length := by
  have := (h.perm ho).length_eq
  simpa [pathsZ] using this
theorem TrI.sperm {τ : Tr} {m : NmM} {s : SsM} (h : TrI τ m s) {N : Nat} (ho : τ.Ok N) : s.Perm τ.sess :=
  al_ext_perm h.skeys (ho.ssorted.nodup linI) h.slook
theorem sortS_id {l : List Bs} (h : l.Pairwise (· < ·)) : sortS l = l := by
  unfold sortS
  refine List.mergeSort_of_pairwise (h.imp fun hab => ?_)
  simp only [leS, decide_eq_true_eq]; exact List.le_of_lt hab
theorem sortS_of_perm {l l' : List Bs} (h : l.Perm l') : sortS l = sortS l' := mergeSort_of_perm h
theorem TrI.paths {τ : Tr} {m : NmM} {s : SsM} (h : TrI τ m s) {N : Nat} (ho : τ.Ok N) : sortS (m.map (·.1)) = pathsZ τ := by
  rw [sortS_of_perm (h.perm ho)]; exact sortS_id ho.sorted
theorem TrI.plen {τ : Tr} {m : NmM} {s : SsM} (h : TrI τ m s) {N : Nat} (ho : τ.Ok N) : ∀ x ∈ m, x.1.length ≤ 60 := fun x hx => by
  have h1 : alook τ.nodes x.1 = some x.2.2.2 := h.at (al_of_mem h.keys hx)
  exact able_len (ho.able _ (al_mem h1))
theorem TrI.acl {τ : Tr} {m : NmM} {s : SsM} (h : TrI τ m s) {N : Nat} (ho : τ.Ok N) {p : Bs} {x : Nm} (hx : alook m p = some x) : x.2.2.acl.length ≤ 1048576 := ho.acls _ (al_mem (h.at hx))
theorem ndE_set {m : NmM} {p : Bs} {x y : Nm} (h : alook m p = some x) (hp : y.1 = x.1) : ndE (aset m p y) = ndE m := aset_map h (by simp [ndV, hp])
theorem hit_del {τ : Tr} {m : NmM} {s : SsM} (h : TrI τ m s) {q p : Bs} : TrI { τ with nodes := τ.nodes.filter fun y => !decide (y.1 = q) } (adel m q) s ∧ p = p := by
  refine ⟨⟨nodup_adel h.keys _, fun r => ?_, h.skeys, h.slook⟩, rfl⟩
  show _ = alook (τ.nodes.filter fun y => !decide (y.1 = q)) r
  rw [al_adel h.keys, al_filter (fun k => !decide (k = q)), ← h.look r]
  by_cases e : r = q
  · subst e; simp
  · simp [e]
/-- What is left when the paths of a list that are hitT are gone. -/
def cutL (τ : Tr) (p : Bs) (l : List Bs) : Tr := { τ with nodes := τ.nodes.filter fun y => !(decide (y.1 ∈ l) && hitT y.1 p) }
theorem cutL_nil (τ : Tr) (p : Bs) : cutL τ p [] = τ := Tr.ext' (List.filter_eq_self.2 fun _ _ => by simp) rfl rfl
theorem cutL_all (τ : Tr) (p : Bs) : cutL τ p (pathsZ τ) = cutT τ p := by
  refine Tr.ext' ?_ rfl rfl
  show τ.nodes.filter _ = τ.nodes.filter _
  refine List.filter_congr fun y hy => ?_
  have : y.1 ∈ pathsZ τ := List.mem_map_of_mem hy
  simp [this]
theorem cutL_skip (τ : Tr) {p q : Bs} (l : List Bs) (h : hitT q p = false) : cutL τ p (l ++ [q]) = cutL τ p l := by
  refine Tr.ext' ?_ rfl rfl
  show τ.nodes.filter _ = τ.nodes.filter _
  refine List.filter_congr fun y _ => ?_
  by_cases e : y.1 = q
  · rw [e, h]; simp
  · simp [e]
theorem cutL_hit (τ : Tr) {p q : Bs} (l : List Bs) (h : hitT q p = true) : cutL τ p (l ++ [q]) = { cutL τ p l with nodes := (cutL τ p l).nodes.filter fun y => !decide (y.1 = q) } := by
  refine Tr.ext' ?_ rfl rfl
  show τ.nodes.filter _ = (τ.nodes.filter _).filter _
  rw [List.filter_filter]
  refine List.filter_congr fun y _ => ?_
  by_cases e : y.1 = q
  · rw [e, h]; simp
  · simp [e]
theorem TrI.del {τ : Tr} {m : NmM} {s : SsM} (h : TrI τ m s) (q : Bs) : TrI { τ with nodes := τ.nodes.filter fun y => !decide (y.1 = q) } (adel m q) s := (hit_del (p := q) h).1
/-! ### Kids -/
theorem lt_cut : ∀ (c : Bs) {x y : Bs}, c ++ x < c ++ y ↔ x < y
  | [], _, _ => Iff.rfl
  | a :: c, x, y => by
    rw [List.cons_append, List.cons_append, List.cons_lt_cons_iff]
    constructor
    · rintro (h | ⟨-, h⟩)
      · exact absurd h (UInt8.lt_irrefl a)
      · exact (lt_cut c).1 h
    · intro h; exact .inr ⟨rfl, (lt_cut c).2 h⟩
def preZ (p : Bs) : Bs := p.take (lidxZ p).toNat
theorem split_cons (c : UInt8) (r : Bs) : splitZ (c :: r) = if c = 47 then [] :: splitZ r else match splitZ r with
    | h :: t => (c :: h) :: t
    | [] => [[c]] := rfl
theorem able_cut {p : Bs} (h : ableZ p) : 0 ≤ lidxZ p ∧ preZ p ≠ [47] ∧ p = preZ p ++ 47 :: baseZ p ∧ isNameZ (baseZ p) = true := by
  obtain ⟨h1, h2⟩ := h
  unfold checkZ at h2
  rw [if_neg h1] at h2
  have h3 : ¬ ((splitZ p).head? ≠ some [] ∨ (splitZ p).length = 1 ∨ (splitZ p).tail.all isNameZ = false) := by
    intro g; rw [if_pos g] at h2; cases h2
  have hlen : (splitZ p).length ≠ 1 := fun e => h3 (.inr (.inl e))
  have hall : (splitZ p).tail.all isNameZ = true := by
    cases e : (splitZ p).tail.all isNameZ with
    | true => rfl
    | false => exact absurd (.inr (.inr e)) h3
  have hmem : (47 : UInt8) ∈ p := by
    apply Decidable.byContradiction
    intro g
    exact hlen (by rw [split_none g]; rfl)
  have h0 : 0 ≤ lidxZ p := by
    apply Decidable.byContradiction
    intro g
    obtain ⟨i, hi, e⟩ := List.mem_iff_getElem.1 hmem
    have key : ∀ n, n ≤ p.length → lidxTo p n < 0 → ∀ j, j < n → p.getD j 0 ≠ 47 := by
      intro n
      induction n with
      | zero => intro _ _ j hj; omega
      | succ n ih =>
        intro hn hl j hj
        unfold lidxTo at hl
        split at hl
        · omega
        · rename_i hne
          by_cases hjn : j = n
          · subst hjn; exact hne
          · exact ih (by omega) hl j (by omega)
    refine key p.length (Nat.le_refl _) (by show lidxZ p < 0; omega) i hi ?_
    rw [List.getD_eq_getElem?_getD, List.getElem?_eq_getElem hi, Option.getD_some]; exact e
  obtain ⟨c1, c2⟩ := cut_last h0
  have hb : baseZ p = p.drop ((lidxZ p).toNat + 1) := by unfold baseZ; rw [show (lidxZ p + 1).toNat = (lidxZ p).toNat + 1 by omega]
  have c3 : p = preZ p ++ 47 :: baseZ p := by rw [hb]; exact c1
  have hsn : ∀ (a b : Bs), (47 : UInt8) ∉ b → splitZ (a ++ 47 :: b) = splitZ a ++ [b] := by
    intro a b hb
    induction a with
    | nil => rw [List.nil_append, split_cons, if_pos rfl, split_none hb]; rfl
    | cons c a ih =>
      rw [List.cons_append, split_cons, split_cons]
      by_cases hc : c = 47
      · rw [if_pos hc, if_pos hc, ih]; rfl
      · rw [if_neg hc, if_neg hc, ih]
        rcases e : splitZ a with _ | ⟨u, v⟩
        · exact absurd e (splitZ_ne a)
        · rfl
  have hspl := hsn (preZ p) (baseZ p) (by rw [hb]; exact c2)
  rw [← c3] at hspl
  refine ⟨h0, fun e => ?_, c3, ?_⟩
  · rw [e] at hspl
    rw [hspl] at hall
    have : splitZ [47] = [[], []] := by decide
    rw [this] at hall
    simp [isNameZ] at hall
  · rw [hspl] at hall
    rcases e : splitZ (preZ p) with _ | ⟨u, v⟩
    · exact absurd e (splitZ_ne _)
    · rw [e] at hall
      simp at hall
      exact hall.2
theorem able_parent {p : Bs} (h : ableZ p) : parentZ p = if preZ p = [] then [47] else preZ p := by
  obtain ⟨h0, -, h2, -⟩ := able_cut h
  unfold parentZ
  rw [if_neg (by rintro (g | g); omega; exact h.1 g)]
  have hr := lidx_range p
  by_cases hz : lidxZ p = 0
  · rw [if_pos hz, if_pos (by unfold preZ; rw [hz]; rfl)]
  · rw [if_neg hz, if_neg]
    · rfl
    · intro e
      have := congrArg List.length e
      unfold preZ at this
      rw [List.length_take] at this
      simp only [List.length_nil] at this
      omega
theorem kid_lt {a b : Bs} (ha : ableZ a) (hb : ableZ b) (hp : parentZ a = parentZ b) : a < b ↔ baseZ a < baseZ b := by
  obtain ⟨-, a1, a2, -⟩ := able_cut ha
  obtain ⟨-, b1, b2, -⟩ := able_cut hb
  have e : preZ a = preZ b := by
    rw [able_parent ha, able_parent hb] at hp
    by_cases x : preZ a = []
    · rw [if_pos x] at hp
      by_cases y : preZ b = []
      · rw [x, y]
      · rw [if_neg y] at hp; exact absurd hp.symm b1
    · rw [if_neg x] at hp
      by_cases y : preZ b = []
      · rw [if_pos y] at hp; exact absurd hp a1
      · rw [if_neg y] at hp; exact hp
  constructor
  · intro h
    rw [a2, b2, e, lt_cut, List.cons_lt_cons_iff] at h
    rcases h with h | ⟨-, h⟩
    · exact absurd h (UInt8.lt_irrefl _)
    · exact h
  · intro h
    rw [a2, b2, e, lt_cut, List.cons_lt_cons_iff]
    exact .inr ⟨rfl, h⟩
theorem kids_sorted {τ : Tr} {N : Nat} (ho : τ.Ok N) (p : Bs) : (kidsZ τ p).Pairwise (· < ·) := by
  unfold kidsZ
  rw [List.pairwise_map]
  have hs : (τ.nodes.filter fun y => !decide (y.1 = [47]) && decide (parentZ y.1 = p)).Pairwise (fun x y => x.1 < y.1) := List.pairwise_map.1 (ho.sorted.filter _)
  refine List.Pairwise.imp_of_mem ?_ hs
  intro x y hx hy hlt
  obtain ⟨x1, x2⟩ := List.mem_filter.1 hx
  obtain ⟨y1, y2⟩ := List.mem_filter.1 hy
  simp at x2 y2
  exact (kid_lt ((ho.able x x1).resolve_left x2.1) ((ho.able y y1).resolve_left y2.1) (by rw [x2.2, y2.2])).1 hlt
def kidsM (m : NmM) (p : Bs) : List Bs := (m.filter fun y => !decide (y.1 = [47]) && decide (parentZ y.1 = p)).map fun y => baseZ y.1
theorem kids_of_keys {β : Type} (l : List (Bs × β)) (p : Bs) : (l.filter fun y => !decide (y.1 = [47]) && decide (parentZ y.1 = p)).map (fun y => baseZ y.1) = ((l.map (·.1)).filter fun q => !decide (q = [47]) && decide (parentZ q = p)).map baseZ := by
  rw [List.filter_map, List.map_map]; rfl
theorem TrI.kids {τ : Tr} {m : NmM} {s : SsM} (h : TrI τ m s) {N : Nat} (ho : τ.Ok N) (p : Bs) : sortS (kidsM m p) = kidsZ τ p := by
  have hp : (kidsM m p).Perm (kidsZ τ p) := by
    unfold kidsM kidsZ
    rw [kids_of_keys, kids_of_keys]
    exact ((h.perm ho).filter _).map _
  rw [sortS_of_perm hp]; exact sortS_id (kids_sorted ho p)
theorem kidsM_len (m : NmM) (p : Bs) : (kidsM m p).length ≤ m.length := by
  unfold kidsM; rw [List.length_map]; exact List.length_filter_le _ _
theorem big_del {K β : Type} [DecidableEq K] {f : K × β → HP} {m : List (K × β)} (k : K) {h : Hp} (hs : bigR f m h) : bigR f (adel m k) h := by
  rcases e : alook m k with _ | b
  · rw [adel_none e]; exact hs
  · obtain ⟨h1, h2, -, -, a2, -, hp⟩ := big_take e hs
    obtain ⟨g1, g2, -, b1, -, hq, -⟩ := hp
    exact sep_mono hq fun c o hc => a2 _ _ (b1 _ _ hc)
theorem G.bigDel {W : World} {n : Nat} {ds : List Deferred} {E : Env} {L R : List HP} {X : Act → World → Prop} {K β : Type} [DecidableEq K] {f : K × β → HP} {m : List (K × β)} (k : K) (hL : Pick (bigR f m) L R) (h : G W n ds E (bigR f (adel m k) :: R) X) : G W n ds E L X :=
  fun a w he hk hs => h a w he hk (sep_imp (fun _ hp => big_del k hp) (hs.pick hL))
theorem kid_there {τ : Tr} {p q : Bs} {num zx : Int} : thereT (kidT τ p num zx) q ↔ thereT τ q := by
  unfold thereT kidT
  dsimp only
  rw [al_amod]
  split
  · cases alook τ.nodes q <;> simp
  · exact Iff.rfl
theorem cut_len (τ : Tr) (p : Bs) : (cutT τ p).nodes.length ≤ τ.nodes.length := List.length_filter_le _ _
theorem part_ev (τ : Tr) (x : Pt) (zx : Int) : (partZ τ x zx).2.length ≤ 2 := by
  unfold partZ createZ eraseZ
  repeat' split
  all_goals simp
theorem parts_ev (τ : Tr) (zx : Int) (l : List Pt) : (partsZ τ zx l).2.length ≤ 2 * l.length := by
  have key : ∀ (l : List Pt) (r : Tr × List Ev), (l.foldl (fun r x => ((partZ r.1 x zx).1, r.2 ++ (partZ r.1 x zx).2)) r).2.length ≤ r.2.length + 2 * l.length := by
    intro l
    induction l with
    | nil => intro r; simp
    | cons x l ih =>
      intro r
      rw [List.foldl_cons]
      refine Nat.le_trans (ih _) ?_
      have := part_ev r.1 x zx
      dsimp only
      rw [List.length_append, List.length_cons]
      omega
  have := key l (τ, [])
  simpa [partsZ] using this
theorem filter_take_yes {f : Pt → Bool} {l : List Pt} {i : Nat} (hi : i < l.length) (h : f l[i] = true) : (l.take (i + 1)).filter f = (l.take i).filter f ++ [l[i]] := by
  rw [List.take_succ_eq_append_getElem hi, List.filter_append]; simp [h]
theorem filter_take_no {f : Pt → Bool} {l : List Pt} {i : Nat} (hi : i < l.length) (h : f l[i] = false) : (l.take (i + 1)).filter f = (l.take i).filter f := by
  rw [List.take_succ_eq_append_getElem hi, List.filter_append]; simp [h]
/-! ### Two trees the same -/
instance : DecidableEq Tr := fun a b => decidable_of_iff (a.nodes = b.nodes ∧ a.sess = b.sess ∧ a.zx = b.zx) ⟨fun ⟨h1, h2, h3⟩ => Tr.ext' h1 h2 h3, fun h => by rw [h]; exact ⟨rfl, rfl, rfl⟩⟩
def statD (τ : Tr) (p : Bs) : Stt := (statZ τ p).getD st0
def dataD (τ : Tr) (p : Bs) : Bs := ((alook τ.nodes p).map (·.data)).getD []
theorem TrI.stat {τ : Tr} {m : NmM} {s : SsM} (h : TrI τ m s) {p : Bs} {x : Nm} (hx : alook m p = some x) : statD τ p = { x.2.2.st with len := x.2.2.data.length, kids := (kidsZ τ p).length } := by
  unfold statD statZ; rw [h.at hx]; rfl
theorem TrI.stat0 {τ : Tr} {m : NmM} {s : SsM} (h : TrI τ m s) {p : Bs} (hx : alook m p = none) : statD τ p = st0 := by
  unfold statD statZ; rw [← h.look, hx]; rfl
theorem keys_same {K β γ : Type} [DecidableEq K] {a : List (K × β)} {b : List (K × γ)} (ha : (a.map (·.1)).Nodup) (hl : a.length = b.length) (h : ∀ x ∈ a, (alook b x.1).isSome = true) {k : K} (hk : alook a k = none) : alook b k = none := by
  have hsub : ∀ x ∈ a.map (·.1), x ∈ b.map (·.1) := fun x hx => by
    obtain ⟨y, hy, rfl⟩ := List.mem_map.1 hx
    exact al_isSome.1 (h y hy)
  rw [al_none] at hk ⊢
  intro hb
  have h1 := nodup_len (l := k :: a.map (·.1)) (m := b.map (·.1)) (List.nodup_cons.2 ⟨hk, ha⟩) (fun x hx => by
    rcases List.mem_cons.1 hx with rfl | hx
    · exact hb
    · exact hsub x hx)
  simp at h1
  omega
theorem tr_same {τ υ : Tr} {N M : Nat} (hτ : τ.Ok N) (hυ : υ.Ok M) {m n : NmM} {s r : SsM} (h1 : TrI τ m s) (h2 : TrI υ n r) : τ = υ ↔ τ.zx = υ.zx ∧ (∀ i, alook s i = alook r i) ∧ ∀ p, (alook m p).map (fun x : Nm => x.2.2) = (alook n p).map (fun x : Nm => x.2.2) := by
  constructor
  · rintro rfl
    exact ⟨rfl, fun i => by rw [h1.slook, h2.slook], fun p => by rw [h1.look, h2.look]⟩
  · rintro ⟨e1, e2, e3⟩
    refine Tr.ext' (sorted_same linB hτ.sorted hυ.sorted fun p => ?_) (sorted_same linI hτ.ssorted hυ.ssorted fun i => ?_) e1
    · rw [← h1.look, ← h2.look, e3]
    · rw [← h1.slook, ← h2.slook, e2]
end Go.Proofs.YtnnbelmpbmfdnaaGreatDoor
/- Own work: shifts and bits; a slice and nil; numbers out of bytes. -/

namespace Go.Proofs.YtnnbelmpbmfdnaaGreatDoor
open Go

section
variable {P : Program} {E : Env} {L R : List HP} {ty : TypeId} {w : World}
theorem Quiet.shl {t t' : TypeId} {x y : Operand} {k yk : IntKind} {a b : Int} (hx : ev E x = some (.int k a)) (hy : ev E y = some (.int yk b)) (hb : 0 ≤ b) :
    Quiet P ⟨none, .binOp .shl t x y t', ty, "", #[], none⟩ E L (.int k (k.wrap (a * 2 ^ min b.toNat k.bits))) := by
  intro ρ w ha _
  have hb' : ¬ b < 0 := by omega
  simp [execOp, ha x _ hx, ha y _ hy, eqGuard, binOp, Op.shift, Bind.bind, Sem.bind, Pure.pure, Sem.run, hb']
theorem Quiet.shr {t t' : TypeId} {x y : Operand} {k yk : IntKind} {a b : Int} (hx : ev E x = some (.int k a)) (hy : ev E y = some (.int yk b)) (hb : 0 ≤ b) :
    Quiet P ⟨none, .binOp .shr t x y t', ty, "", #[], none⟩ E L (.int k (a.fdiv (2 ^ min b.toNat k.bits))) := by
  intro ρ w ha _
  have hb' : ¬ b < 0 := by omega
  simp [execOp, ha x _ hx, ha y _ hy, eqGuard, binOp, Op.shift, Bind.bind, Sem.bind, Pure.pure, Sem.run, hb']
theorem Quiet.or {t t' : TypeId} {x y : Operand} {k : IntKind} {a b : Int} (hx : ev E x = some (.int k a)) (hy : ev E y = some (.int k b)) :
    Quiet P ⟨none, .binOp .or t x y t', ty, "", #[], none⟩ E L (.int k (k.wrap (BitVec.ofInt k.bits a ||| BitVec.ofInt k.bits b).toNat)) := by
  intro ρ w ha _
  simp [execOp, ha x _ hx, ha y _ hy, eqGuard, binOp, Op.intBits, Bind.bind, Sem.bind, Pure.pure, Sem.run]
theorem Quiet.xor {t t' : TypeId} {x y : Operand} {k : IntKind} {a b : Int} (hx : ev E x = some (.int k a)) (hy : ev E y = some (.int k b)) :
    Quiet P ⟨none, .binOp .xor t x y t', ty, "", #[], none⟩ E L (.int k (k.wrap (BitVec.ofInt k.bits a ^^^ BitVec.ofInt k.bits b).toNat)) := by
  intro ρ w ha _
  simp [execOp, ha x _ hx, ha y _ hy, eqGuard, binOp, Op.intBits, Bind.bind, Sem.bind, Pure.pure, Sem.run]
theorem Quiet.and {t t' : TypeId} {x y : Operand} {k : IntKind} {a b : Int} (hx : ev E x = some (.int k a)) (hy : ev E y = some (.int k b)) :
    Quiet P ⟨none, .binOp .and t x y t', ty, "", #[], none⟩ E L (.int k (k.wrap (BitVec.ofInt k.bits a &&& BitVec.ofInt k.bits b).toNat)) := by
  intro ρ w ha _
  simp [execOp, ha x _ hx, ha y _ hy, eqGuard, binOp, Op.intBits, Bind.bind, Sem.bind, Pure.pure, Sem.run]
theorem run_equal_slice {t e : TypeId} {a : Option Addr} {n c : Nat} (ht : P.underlying t = some (.slice e)) : (Op.equal t (.slice a n c) (.slice none 0 0)).run P w = .ok a.isNone w := by
  unfold Op.equal
  rw [show Op.maxDepth = 9999 + 1 from rfl]
  generalize 9999 = d
  unfold Op.equalIn
  rw [run_bind (run_underlying ht)]; cases a <;> rfl
theorem Quiet.sleq {t t' e : TypeId} {x y : Operand} {a : Option Addr} {n c : Nat} (hx : ev E x = some (.slice a n c)) (hy : ev E y = some (.slice none 0 0)) (ht : P.underlying t = some (.slice e)) : Quiet P ⟨none, .binOp .eql t x y t', ty, "", #[], none⟩ E L (.bool a.isNone) :=
  fun _ _ ha _ => run_eql (ha x _ hx) (ha y _ hy) rfl rfl (run_equal_slice ht)
theorem Quiet.slne {t t' e : TypeId} {x y : Operand} {a : Option Addr} {n c : Nat} (hx : ev E x = some (.slice a n c)) (hy : ev E y = some (.slice none 0 0)) (ht : P.underlying t = some (.slice e)) : Quiet P ⟨none, .binOp .neq t x y t', ty, "", #[], none⟩ E L (.bool (!a.isNone)) :=
  fun _ _ ha _ => run_neq (ha x _ hx) (ha y _ hy) rfl rfl (run_equal_slice ht)
end
theorem bv_shl_or (n : Int) {c : Int} (hc : 0 ≤ c ∧ c < 256) : ((BitVec.ofInt 64 (n * 256) ||| BitVec.ofInt 64 c).toNat : Int) = (n * 256 + c) % 18446744073709551616 := by
  have h0 : BitVec.ofInt 64 (n * 256) &&& BitVec.ofInt 64 c = 0#64 := by
    have e1 : BitVec.ofInt 64 (n * 256) = BitVec.ofInt 64 n <<< 8 := by
      apply BitVec.eq_of_toNat_eq
      rw [BitVec.toNat_shiftLeft, BitVec.toNat_ofInt, BitVec.toNat_ofInt, Nat.shiftLeft_eq]
      have e : ((2 ^ 64 : Nat) : Int) = 18446744073709551616 := rfl
      have e' : (2 ^ 64 : Nat) = 18446744073709551616 := rfl
      have e8 : (2 ^ 8 : Nat) = 256 := rfl
      rw [e, e', e8]
      omega
    have e2 : BitVec.ofInt 64 c = BitVec.setWidth 64 (BitVec.ofInt 8 c) := by
      apply BitVec.eq_of_toNat_eq
      simp only [BitVec.toNat_ofInt, BitVec.toNat_setWidth]
      omega
    rw [e1, e2]
    apply BitVec.eq_of_getLsbD_eq
    intro i hi
    simp only [BitVec.getLsbD_and, BitVec.getLsbD_shiftLeft, BitVec.getLsbD_setWidth, BitVec.getLsbD_zero]
    by_cases h8 : i < 8
    · simp [h8]
    · have : (BitVec.ofInt 8 c).getLsbD i = false := BitVec.getLsbD_of_ge _ _ (by omega)
      simp [this]
  rw [← BitVec.add_eq_or_of_and_eq_zero _ _ h0, BitVec.toNat_add, BitVec.toNat_ofInt, BitVec.toNat_ofInt]
  omega
/-- The number that bytes are, the highest first. -/
def beZ : List UInt8 → Int → Int
  | [], n => n
  | c :: s, n => beZ s (n * 256 + c.toNat)
theorem wrap64 (x : Int) : IntKind.i64.wrap x = (x + 9223372036854775808) % 18446744073709551616 - 9223372036854775808 := by rw [IntKind.wrap_i64]
theorem small_step (n : Int) (c : UInt8) : IntKind.i64.wrap (BitVec.ofInt 64 (IntKind.i64.wrap (n * 256)) ||| BitVec.ofInt 64 (IntKind.i64.wrap c.toNat)).toNat = IntKind.i64.wrap (n * 256 + c.toNat) := by
  have hc : c.toNat < 256 := c.toNat_lt
  have e1 : IntKind.i64.wrap (c.toNat : Int) = c.toNat := i64w (by omega)
  have e2 : BitVec.ofInt 64 (IntKind.i64.wrap (n * 256)) = BitVec.ofInt 64 (n * 256) := by
    apply BitVec.eq_of_toNat_eq
    rw [BitVec.toNat_ofInt, BitVec.toNat_ofInt, wrap64]; omega
  rw [e1, e2, bv_shl_or n (by omega), wrap64, wrap64]
  omega
end Go.Proofs.YtnnbelmpbmfdnaaGreatDoor
/- Own work: calls of function values; results that lie in cells; deferred calls. -/
namespace Go.Proofs.YtnnbelmpbmfdnaaGreatDoor
open Go

section
variable {P : Program} {W : World} {n : Nat} {ds : List Deferred} {E : Env} {L R : List HP} {Q : Exit → Act → World → Prop}
theorem agree_list {ρ : Operand → Value} (ha : Agrees E ρ) : ∀ (l : List Operand) (us : List Value), l.map (ev E) = us.map some → l.map ρ = us := by
  intro l
  induction l with
  | nil => intro us h; cases us with
    | nil => rfl
    | cons u us => simp at h
  | cons x l ih => intro us h; cases us with
    | nil => simp at h
    | cons u us =>
      simp only [List.map_cons, List.cons.injEq] at h ⊢
      exact ⟨ha _ _ h.1, ih us h.2⟩
/-- A call of a function value. -/
theorem OpSpec.callV {f : FuncId} {fn : Func} {c : Code} {x : Operand} {xs : Array Operand} {ts : Array TypeId} {ty : TypeId} {us vs ws : List Value} {pre : List HP} {post : Value → List HP → Prop}
    (hf : P.funcs[f]? = some fn) (hb : fn.body = some c) (hnm : (fn.name == "runtime.NumGoroutine") = false) (hv : ev E x = some (.func (.func f) us.toArray ws.toArray)) (hx : xs.toList.map (ev E) = vs.map some) (h : Fn P f (us ++ vs ++ ws).toArray pre post) :
    OpSpec P ⟨none, .call { callee := .value x, args := xs, argTypes := ts }, ty, "", #[], none⟩ E pre post := by
  intro ρ w F ha hs
  have hvs : xs.map ρ = vs.toArray := by
    apply Array.ext'
    rw [Array.toList_map]
    exact agree_list ha _ _ hx
  have hfn : ρ x = .func (.func f) us.toArray ws.toArray := ha x _ hv
  unfold Runs
  have : (execOp ρ ⟨none, .call { callee := .value x, args := xs, argTypes := ts }, ty, "", #[], none⟩).run P w = .ok (.enter f (us ++ vs ++ ws).toArray) w := by
    have hnm' : ¬ fn.name = "runtime.NumGoroutine" := by simpa using hnm
    simp [execOp, resolve, hfn, Deferred.ofValue, invoke, callFunc, program, Bind.bind, Sem.bind, Pure.pure, Sem.run, hf, hb, hnm', hvs]
  rw [this]
  refine (h F w hs).mono ?_
  rintro e w' ⟨v, L, hv', he, hs', hk⟩
  exact ⟨v, he, L, hv', hs', hk⟩

/-! ### Results -/
def resRun (tmps : Array Value) : ResultVar → Sem Value
  | .tmp t => pure (tmps.getD t undef)
  | .cell a t => do loadVar t (← asAddr (tmps.getD a undef))
def ResR (P : Program) (E : Env) (L : List HP) (r : ResultVar) (v : Value) : Prop := ∀ (tmps : Array Value) (w : World), (∀ t v, look E t = some v → tmps[t]? = some v) → St L w → (resRun tmps r).run P w = .ok v w
theorem getD_of {tmps : Array Value} {t : Nat} {v : Value} (h : tmps[t]? = some v) : tmps.getD t undef = v := by simp [h]
theorem ResR.tmp {t : Nat} {v : Value} (h : look E t = some v) : ResR P E L (.tmp t) v := fun tmps w ht _ => by
  show (pure (tmps.getD t undef) : Sem Value).run P w = _
  rw [getD_of (ht _ _ h)]; rfl
theorem ResR.cell {a t : Nat} {b off : Nat} {l : List Value} {T : TypeId} {fr : Nat × Nat} {v : Value} (h : look E a = some (.pointer (some ⟨b, off, none⟩))) (hp : aggOf P t = some none) (hL : Pick (pt b (.cells l.toArray T fr)) L R) (hv : l[off]? = some v) :
    ResR P E L (.cell a t) v := fun tmps w ht hs => by
  show (do loadVar t (← asAddr (tmps.getD a undef)) : Sem Value).run P w = _
  rw [getD_of (ht _ _ h)]
  show (loadVar t ⟨b, off, none⟩).run P w = _
  exact run_loadVar1 hp (hs.pick hL).pt hv
theorem ResR.cellA {a t : Nat} {b off k : Nat} {l vs : List Value} {T : TypeId} {fr : Nat × Nat} (h : look E a = some (.pointer (some ⟨b, off, none⟩))) (hp : aggOf P t = some (some k)) (hL : Pick (pt b (.cells l.toArray T fr)) L R) (hc : off + k ≤ l.length) (hv : (l.drop off).take k = vs) :
    ResR P E L (.cell a t) (.agg vs.toArray) := fun tmps w ht hs => by
  show (do loadVar t (← asAddr (tmps.getD a undef)) : Sem Value).run P w = _
  rw [getD_of (ht _ _ h)]
  show (loadVar t ⟨b, off, none⟩).run P w = _
  rw [← hv]; exact run_loadVarA hp (hs.pick hL).pt hc
theorem results_eq (fn : Func) (tmps : Array Value) : results fn tmps = (do let vs ← fn.results.mapM (resRun tmps); pure (if h : vs.size = 1 then vs[0] else .tuple vs) : Sem Value) := by
  unfold results
  have e : (fun r : ResultVar => (match r with | .tmp t => pure (tmps.getD t undef) | .cell a t => do loadVar t (← asAddr (tmps.getD a undef)) : Sem Value)) = resRun tmps := by
    funext r; cases r <;> rfl
  rw [← e]
  rfl
theorem results_1 {fn : Func} {r : ResultVar} {tmps : Array Value} {w : World} {v : Value} (hl : fn.results = #[r]) (h : (resRun tmps r).run P w = .ok v w) : (results fn tmps).run P w = .ok v w := by
  simp [results_eq, hl, Sem.run_bind, Result.andThen, h]
theorem results_2 {fn : Func} {r s : ResultVar} {tmps : Array Value} {w : World} {v u : Value} (hl : fn.results = #[r, s]) (h : (resRun tmps r).run P w = .ok v w) (h' : (resRun tmps s).run P w = .ok u w) : (results fn tmps).run P w = .ok (.tuple #[v, u]) w := by
  simp [results_eq, hl, Sem.run_bind, Result.andThen, h, h']
theorem results_3 {fn : Func} {r s q : ResultVar} {tmps : Array Value} {w : World} {v u z : Value} (hl : fn.results = #[r, s, q]) (h : (resRun tmps r).run P w = .ok v w) (h' : (resRun tmps s).run P w = .ok u w) (h'' : (resRun tmps q).run P w = .ok z w) : (results fn tmps).run P w = .ok (.tuple #[v, u, z]) w := by
  simp [results_eq, hl, Sem.run_bind, Result.andThen, h, h', h'']
theorem G.done1 {fn : Func} {post : Value → List HP → Prop} {F : List HP} {L' : List HP} {r : ResultVar} {v : Value} (hl : fn.results = #[r]) (hr : ResR P E L r v) (hp : post v L') (hL : Picks L' L R) (hF : Suff F R) : G W n [] E L (FnQ P fn post F W .ret) := by
  intro a w he hk hs
  exact ⟨he.defers, v, results_1 hl (hr _ _ he.slots hs), v, L', hp, rfl, hF.st (hs.picks hL), hk⟩
theorem G.done2 {fn : Func} {post : Value → List HP → Prop} {F : List HP} {L' : List HP} {r s : ResultVar} {v u : Value} (hl : fn.results = #[r, s]) (hr : ResR P E L r v) (hr' : ResR P E L s u) (hp : post (.tuple #[v, u]) L') (hL : Picks L' L R) (hF : Suff F R) : G W n [] E L (FnQ P fn post F W .ret) := by
  intro a w he hk hs
  exact ⟨he.defers, _, results_2 hl (hr _ _ he.slots hs) (hr' _ _ he.slots hs), _, L', hp, rfl, hF.st (hs.picks hL), hk⟩
theorem G.done3 {fn : Func} {post : Value → List HP → Prop} {F : List HP} {L' : List HP} {r s q : ResultVar} {v u z : Value} (hl : fn.results = #[r, s, q]) (hr : ResR P E L r v) (hr' : ResR P E L s u) (hr'' : ResR P E L q z) (hp : post (.tuple #[v, u, z]) L') (hL : Picks L' L R) (hF : Suff F R) : G W n [] E L (FnQ P fn post F W .ret) := by
  intro a w he hk hs
  exact ⟨he.defers, _, results_3 hl (hr _ _ he.slots hs) (hr' _ _ he.slots hs) (hr'' _ _ he.slots hs), _, L', hp, rfl, hF.st (hs.picks hL), hk⟩

/-! ### Deferred calls -/
def FnQD (P : Program) (fn : Func) (post : Value → List HP → Prop) (F : List HP) (W : World) : Exit → Act → World → Prop :=
  bodyPostD P fn fun e w' => ∃ v L, post v L ∧ e = .returned v ∧ St (L ++ F) w' ∧ Keeps W w'
def FnD (P : Program) (f : FuncId) (args : Array Value) (pre : List HP) (post : Value → List HP → Prop) : Prop :=
  ∀ (F : List HP) (w : World) (u : FrameMode), St (pre ++ F) w → CallsD P f args u w fun e u' w' => u' = u ∧ ∃ v L, post v L ∧ e = .returned v ∧ St (L ++ F) w' ∧ Keeps w w'
theorem FnD.intro {f : FuncId} {fn : Func} {c : Code} {vs : List Value} {pre : List HP} {post : Value → List HP → Prop} {n : Nat}
    (hf : P.funcs[f]? = some fn) (hb : fn.body = some c) (hn : vs.length + (fn.ntmps - vs.length) = n)
    (h : ∀ F W, G W n [] (argE 0 vs) (pre ++ F) (c.wp P (FnQ P fn post F W))) : FnD P f vs.toArray pre post := by
  intro F w u hs
  refine callsD_of_wp hf hb (h F w _ w ⟨?_, rfl, fun t v hl => ?_⟩ (.refl w) hs)
  · simp [← hn]
  · obtain ⟨-, h2⟩ := look_argE _ _ _ _ hl
    have hlt : t < vs.length := by
      rcases Nat.lt_or_ge t vs.length with h | h
      · exact h
      · simp [List.getElem?_eq_none h] at h2
    simp only [Nat.sub_zero] at h2
    rw [List.getElem?_eq_getElem hlt] at h2
    simp only [Option.some.injEq] at h2
    simp [Array.getElem?_append, hlt, h2]
theorem Fn.introD {f : FuncId} {fn : Func} {c : Code} {vs : List Value} {pre : List HP} {post : Value → List HP → Prop} {n : Nat}
    (hf : P.funcs[f]? = some fn) (hb : fn.body = some c) (hn : vs.length + (fn.ntmps - vs.length) = n)
    (h : ∀ F W, G W n [] (argE 0 vs) (pre ++ F) (c.wp P (FnQD P fn post F W))) : Fn P f vs.toArray pre post := by
  intro F w hs
  refine calls_of_wp_defers hf hb (h F w _ w ⟨?_, rfl, fun t v hl => ?_⟩ (.refl w) hs)
  · simp [← hn]
  · obtain ⟨-, h2⟩ := look_argE _ _ _ _ hl
    have hlt : t < vs.length := by
      rcases Nat.lt_or_ge t vs.length with h | h
      · exact h
      · simp [List.getElem?_eq_none h] at h2
    simp only [Nat.sub_zero] at h2
    rw [List.getElem?_eq_getElem hlt] at h2
    simp only [Option.some.injEq] at h2
    simp [Array.getElem?_append, hlt, h2]
theorem G.defer {ops : Array Oper} {f : FuncId} {xs : Array Operand} {ts : Array TypeId} {ty : TypeId} {pos : String} {aft : Array Edge} {rest : List Oper} {vs : List Value} (hx : xs.toList.map (ev E) = vs.map some)
    (h : G W n ({ target := .fn (.func f) #[], args := vs.toArray } :: ds) E L (wpList P ops Q rest)) : G W n ds E L (wpList P ops Q (⟨none, .defer { callee := .value (.func f), args := xs, argTypes := ts }, ty, pos, aft, none⟩ :: rest)) := by
  intro a w he hk hs
  refine wpList_plain rfl fun K' hK' => ?_
  have hvs : xs.map a.eval = vs.toArray := by
    apply Array.ext'
    rw [Array.toList_map]
    exact agree_list he.agrees _ _ hx
  have hfn : a.eval (.func f) = .func (.func f) #[] #[] := rfl
  have hrun : (execOp a.eval ⟨none, .defer { callee := .value (.func f), args := xs, argTypes := ts }, ty, pos, aft, none⟩).run P w = .ok (.defer { target := .fn (.func f) #[], args := vs.toArray }) w := by
    simp [execOp, resolve, hfn, Deferred.ofValue, Bind.bind, Sem.bind, Pure.pure, Sem.run, hvs]
  unfold Oper.wp
  rw [hrun, Oper.upon_defer]
  refine hK' _ _ (h _ _ ⟨he.size, by show _ :: a.defers = _; rw [he.defers], he.slots⟩ hk hs)
theorem G.doneD {fn gn : Func} {gc : Code} {g : FuncId} {vs : List Value} {post postD : Value → List HP → Prop} {F preD : List HP} (hf : P.funcs[g]? = some gn) (hb : gn.body = some gc) (hnm : (gn.name == "runtime.NumGoroutine") = false)
    (hd : FnD P g vs.toArray preD postD) (hL : Picks preD L R) (h : ∀ u L', postD u L' → G W n [] E (L' ++ R) (FnQ P fn post F W .ret)) :
    G W n [{ target := .fn (.func g) #[], args := vs.toArray }] E L (FnQD P fn post F W .ret) := by
  intro a w he hk hs
  show Leaves P fn a.tmps _ a.defers .returning w
  rw [he.defers]
  have hi : (invoke (.fn (.func g) #[]) vs.toArray).run P w = .ok (.enter g vs.toArray) w := by
    have hnm' : ¬ gn.name = "runtime.NumGoroutine" := by simpa using hnm
    simp [invoke, callFunc, program, Bind.bind, Sem.bind, Pure.pure, Sem.run, hf, hb, hnm']
  refine leaves_cons (by simp) hi ((hd R w .returning (hs.picks hL)).mono ?_)
  rintro e u' w' ⟨rfl, v, L', hv, rfl, hs', hk'⟩
  obtain ⟨-, v', hr, hR⟩ := h v L' hv { a with defers := [] } w' ⟨he.size, rfl, he.slots⟩ (hk.trans hk') hs'
  exact ⟨v', hr, hR⟩
theorem G.doneD_n {fn : Func} {post : Value → List HP → Prop} {F : List HP} (h : G W n ds E L (FnQD P fn post F W .ret)) : G W n ds E L (FnQD P fn post F W .normal) := h
end
end Go.Proofs.YtnnbelmpbmfdnaaGreatDoor
/- Own work: the document's tree in memory: a list of nodes, a list of sessions; texts compared by their order. -/

namespace Go.Proofs.YtnnbelmpbmfdnaaGreatDoor
open Go

section
variable {P : Program} {E : Env} {L : List HP} {ty : TypeId}
theorem Quiet.strge {t t' : TypeId} {x y : Operand} {a b : List UInt8} (hx : ev E x = some (vstr a)) (hy : ev E y = some (vstr b)) : Quiet P ⟨none, .binOp .geq t x y t', ty, "", #[], none⟩ E L (.bool (decide (¬ a < b))) := by
  intro ρ w ha _
  have key : (!Op.bytesLess a b) = decide (¬ a < b) := by rw [bytesLess_eq, decide_not]
  rw [← key]
  simp [execOp, ha x _ hx, ha y _ hy, eqGuard, binOp, Op.stringOp, Bind.bind, Sem.bind, Pure.pure, Sem.run]
theorem Quiet.strlt {t t' : TypeId} {x y : Operand} {a b : List UInt8} (hx : ev E x = some (vstr a)) (hy : ev E y = some (vstr b)) : Quiet P ⟨none, .binOp .lss t x y t', ty, "", #[], none⟩ E L (.bool (decide (a < b))) := by
  intro ρ w ha _
  rw [← bytesLess_eq]
  simp [execOp, ha x _ hx, ha y _ hy, eqGuard, binOp, Op.stringOp, Bind.bind, Sem.bind, Pure.pure, Sem.run]
theorem Quiet.strle {t t' : TypeId} {x y : Operand} {a b : List UInt8} (hx : ev E x = some (vstr a)) (hy : ev E y = some (vstr b)) : Quiet P ⟨none, .binOp .leq t x y t', ty, "", #[], none⟩ E L (.bool (decide (¬ b < a))) := by
  intro ρ w ha _
  have key : (Op.bytesLess a b || decide (a = b)) = decide (¬ b < a) := by
    rw [bytesLess_eq]
    rcases linB.tri a b with h | h | h
    · rw [decide_eq_true h, decide_eq_true (show ¬ b < a from fun g => linB.irr _ (linB.tr _ _ _ h g))]; rfl
    · subst h; rw [decide_eq_true rfl, decide_eq_true (linB.irr a), Bool.or_true]
    · rw [decide_eq_false (fun g => linB.irr _ (linB.tr _ _ _ h g)), decide_eq_false (fun e => by subst e; exact linB.irr _ h), decide_eq_false (show ¬ ¬ b < a from fun g => g h)]; rfl
  rw [← key]
  simp [execOp, ha x _ hx, ha y _ hy, eqGuard, binOp, Op.stringOp, Bind.bind, Sem.bind, Pure.pure, Sem.run]
  by_cases h : a = b <;> simp [h]
end
/-- A node in the document's list: its path, where its ACL lies, what it is. -/
abbrev Rn := Bs × (Value × Nd)
def rnC (z : Rn) : List Value := [vstr z.1, vstr z.2.2.data, z.2.1, vint z.2.2.st.cz, vint z.2.2.st.mz, vint z.2.2.st.pz, vint z.2.2.st.ver, vint z.2.2.st.cver, vint z.2.2.st.av, vint z.2.2.st.own, vint z.2.2.st.len, vint z.2.2.st.kids]
def rsC (y : Int × (Int × Bs)) : List Value := [vint y.1, vint y.2.1, vstr y.2.2]
def inA (z : Rn) : HP := rdO 2 z.2.1 z.2.2.acl.length (z.2.2.acl.flatMap acC)
def ndsZ (l : List Rn) : List (Bs × Nd) := l.map fun z => (z.1, z.2.2)
abbrev rnR (v : Value) (l : List Rn) : HP := slR 131 12 v l.length (l.flatMap rnC)
abbrev rsR (v : Value) (l : SsM) : HP := slR 134 3 v l.length (l.flatMap rsC)
def refR (x : Nat) (τ : Tr) : HP := fun h => ∃ y : (Value × Value) × List Rn, ndsZ y.2 = τ.nodes ∧ sep [ptc x [y.1.1, y.1.2, vint τ.zx] 101, rnR y.1.1 y.2, rsR y.1.2 τ.sess, bigR inA y.2] h
section
variable {W : World} {n : Nat} {ds : List Deferred} {E : Env} {L R : List HP} {X : Act → World → Prop}
theorem G.rfOpen {x : Nat} {τ : Tr} (hL : Pick (refR x τ) L R) (h : ∀ (an cn as' cs : _) (l : List Rn), ndsZ l = τ.nodes → G W n ds E (ptc x [.slice an l.length cn, .slice as' τ.sess.length cs, vint τ.zx] 101 :: rnR (.slice an l.length cn) l :: rsR (.slice as' τ.sess.length cs) τ.sess :: bigR inA l :: R) X) : G W n ds E L X := by
  refine G.focus hL (G.open (q := fun y : (Value × Value) × List Rn => [ptc x [y.1.1, y.1.2, vint τ.zx] 101, rnR y.1.1 y.2, rsR y.1.2 τ.sess, bigR inA y.2]) (φ := fun y : (Value × Value) × List Rn => ndsZ y.2 = τ.nodes) (fun _ hp => hp) fun y hy => ?_)
  obtain ⟨⟨v1, v2⟩, l⟩ := y
  dsimp only at hy ⊢
  refine G.slAny (v := v1) (by repeat (first | exact Pick.here | apply Pick.there)) fun an cn e0 _ => ?_
  subst e0
  refine G.slAny (v := v2) (by repeat (first | exact Pick.here | apply Pick.there)) fun as' cs e0 _ => ?_
  subst e0
  exact fun a w he hk hs => h an cn as' cs l hy a w he hk (hs.picks (by repeat (first | exact Picks.nil | (apply Picks.cons; (repeat (first | exact Pick.here | apply Pick.there))))))
theorem G.rfFold {x : Nat} {τ : Tr} {l : List Rn} {v1 v2 : Value} {c : List Value} {k1 k2 : Nat} {y1 y2 : List Value} (hn : ndsZ l = τ.nodes) (hL : Picks [ptc x c 101, slR 131 12 v1 k1 y1, slR 134 3 v2 k2 y2, bigR inA l] L R) (hc : c = [v1, v2, vint τ.zx]) (h1 : k1 = l.length) (h2 : y1 = l.flatMap rnC) (h3 : k2 = τ.sess.length) (h4 : y2 = τ.sess.flatMap rsC)
    (h : G W n ds E (refR x τ :: R) X) : G W n ds E L X := by
  subst hc; subst h1; subst h2; subst h3; subst h4
  exact G.fold hL (fun _ hp => ⟨((v1, v2), l), hn, hp⟩) h
theorem G.rfCast {x : Nat} {τ τ' : Tr} (hL : Pick (refR x τ) L R) (hw : τ' = τ) (h : G W n ds E (refR x τ' :: R) X) : G W n ds E L X := by
  subst hw; exact G.focus hL h
end
theorem nds_len {l : List Rn} {m : List (Bs × Nd)} (h : ndsZ l = m) : l.length = m.length := by rw [← h]; simp [ndsZ]
theorem nds_get {l : List Rn} {m : List (Bs × Nd)} (h : ndsZ l = m) {i : Nat} (hi : i < l.length) : m[i]'(by rw [← nds_len h]; exact hi) = (l[i].1, l[i].2.2) := by
  subst h; simp [ndsZ]
theorem rn_cell {l : List Rn} {i k : Nat} (hi : i < l.length) (hk : k < 12) : (l.flatMap rnC)[i * 12 + k]? = (rnC l[i])[k]? := flatMap_cell (f := rnC) (sz := 12) (fun _ _ => rfl) hi hk
theorem rs_cell {l : SsM} {i k : Nat} (hi : i < l.length) (hk : k < 3) : (l.flatMap rsC)[i * 3 + k]? = (rsC l[i])[k]? := flatMap_cell (f := rsC) (sz := 3) (fun _ _ => rfl) hi hk
/-! ### Places -/
def placeTo {β : Type} (l : List (Bs × β)) (p : Bs) : Int := match posK p (l.map (·.1)) with
  | some i => i
  | none => -1
def placeZ (τ : Tr) (p : Bs) : Int := placeTo τ.nodes p
theorem posK_at {K : Type} [DecidableEq K] {l : List K} {k : K} : ∀ {i : Nat} (hi : i < l.length), l[i] = k → (∀ j (hj : j < i), l[j]'(by omega) ≠ k) → posK k l = some i := by
  induction l with
  | nil => intro i hi; simp at hi
  | cons a l ih =>
    intro i hi h1 h2
    unfold posK
    cases i with
    | zero => simp at h1; rw [if_pos h1.symm]
    | succ i =>
      rw [if_neg (fun e => h2 0 (by omega) (by simpa using e.symm)), ih (i := i) (by simpa using hi) (by simpa using h1) (fun j hj => by simpa using h2 (j + 1) (by omega))]
      rfl
theorem posK_none {K : Type} [DecidableEq K] {l : List K} {k : K} (h : k ∉ l) : posK k l = none := by
  induction l with
  | nil => rfl
  | cons a l ih =>
    unfold posK
    rw [if_neg (fun e => h (by rw [e]; exact List.mem_cons_self)), ih (fun g => h (List.mem_cons_of_mem _ g))]; rfl
theorem posK_get {K : Type} [DecidableEq K] {l : List K} {k : K} : ∀ {i : Nat}, posK k l = some i → ∃ hi : i < l.length, l[i] = k ∧ ∀ j (hj : j < i), l[j]'(by omega) ≠ k := by
  induction l with
  | nil => intro i h; cases h
  | cons a l ih =>
    intro i h
    unfold posK at h
    split at h
    · rename_i e; cases h; exact ⟨by simp, by simp [e], fun j hj => by omega⟩
    · rename_i e
      rcases h2 : posK k l with _ | i'
      · rw [h2] at h; cases h
      · rw [h2] at h; cases h
        obtain ⟨g1, g2, g3⟩ := ih h2
        refine ⟨by simp; omega, by simpa using g2, fun j hj => ?_⟩
        cases j with
        | zero => simpa using fun e2 => e e2.symm
        | succ j => simpa using g3 j (by have hj' : j + 1 < i' + 1 := hj; omega)
theorem place_at {β : Type} {l : List (Bs × β)} {p : Bs} {i : Nat} (hi : i < l.length) (h1 : l[i].1 = p) (h2 : ∀ j (hj : j < i), l[j].1 ≠ p) : placeTo l p = i := by
  unfold placeTo
  rw [posK_at (i := i) (by simpa using hi) (by simpa using h1) (fun j hj => by simpa using h2 j hj)]
theorem place_none {β : Type} {l : List (Bs × β)} {p : Bs} (h : ∀ j (hj : j < l.length), l[j].1 ≠ p) : placeTo l p = -1 := by
  unfold placeTo
  rw [posK_none]
  intro hm
  obtain ⟨x, hx, e⟩ := List.mem_map.1 hm
  obtain ⟨j, hj, rfl⟩ := List.mem_iff_getElem.1 hx
  exact h j hj e
/-- A place that is there. -/
theorem place_get {β : Type} {l : List (Bs × β)} {p : Bs} (h : 0 ≤ placeTo l p) : ∃ k : Nat, ∃ hk : k < l.length, placeTo l p = k ∧ l[k].1 = p := by
  unfold placeTo at h ⊢
  rcases e : posK p (l.map (·.1)) with _ | k
  · rw [e] at h; exact absurd h (by decide)
  · obtain ⟨g1, g2, -⟩ := posK_get e
    exact ⟨k, by simpa using g1, by rw [e], by simpa using g2⟩
theorem place_iff {β : Type} {l : List (Bs × β)} {p : Bs} : 0 ≤ placeTo l p ↔ (alook l p).isSome = true := by
  rw [al_isSome]
  constructor
  · intro h
    obtain ⟨k, hk, -, e⟩ := place_get h
    exact List.mem_map.2 ⟨l[k], List.getElem_mem hk, e⟩
  · intro h
    unfold placeTo
    rcases e : posK p (l.map (·.1)) with _ | k
    · exfalso
      have key : ∀ l : List Bs, p ∈ l → posK p l ≠ none := by
        intro l
        induction l with
        | nil => intro h; cases h
        | cons a l ih =>
          intro h
          unfold posK
          split
          · simp
          · rename_i hne
            rcases List.mem_cons.1 h with g | g
            · exact absurd g hne
            · intro e2
              have := ih g
              rcases e3 : posK p l with _ | j
              · exact this e3
              · rw [e3] at e2; cases e2
      exact key _ h e
    · first | (rw [e]; exact Int.natCast_nonneg _) | exact Int.natCast_nonneg _
theorem place_range {β : Type} (l : List (Bs × β)) (p : Bs) : -1 ≤ placeTo l p ∧ placeTo l p < l.length := by
  by_cases h : 0 ≤ placeTo l p
  · obtain ⟨k, hk, e, -⟩ := place_get h
    omega
  · unfold placeTo at h ⊢
    split at h
    · omega
    · omega
theorem place_nds (l : List Rn) (p : Bs) : placeTo (ndsZ l) p = placeTo l p := by
  unfold placeTo ndsZ; rw [List.map_map]; rfl
/-- One place written is one key written. -/
theorem amod_set {β : Type} {l : List (Bs × β)} (hn : (l.map (·.1)).Nodup) {k : Nat} (hk : k < l.length) (f : β → β) : amod l l[k].1 f = l.set k (l[k].1, f l[k].2) := by
  apply List.ext_getElem
  · simp [amod]
  · intro i h1 h2
    have hi : i < l.length := by simpa [amod] using h1
    simp only [amod, List.getElem_map, List.getElem_set]
    by_cases e : k = i
    · subst e; simp
    · have : l[i].1 ≠ l[k].1 := fun g => by
        have := (List.getElem_inj (i := i) (j := k) (h₀ := by simpa using hi) (h₁ := by simpa using hk) hn).1 (by simpa using g)
        exact e this.symm
      rw [if_neg this, if_neg e]
theorem flatMap_set {α : Type} {f : α → List Value} {sz : Nat} : ∀ {l : List α} {i k : Nat} {v : Value} {y : α} (hf : ∀ x, (f x).length = sz) (hi : i < l.length) (hk : k < sz) (hy : (f l[i]).set k v = f y), (l.flatMap f).set (i * sz + k) v = (l.set i y).flatMap f
  | x :: l, 0, k, v, y, hf, hi, hk, hy => by
    simp only [List.flatMap_cons, List.set_cons_zero, Nat.zero_mul, Nat.zero_add]
    rw [List.set_append_left _ _ (by rw [hf]; exact hk)]
    congr 1
  | x :: l, i + 1, k, v, y, hf, hi, hk, hy => by
    simp only [List.flatMap_cons, List.set_cons_succ]
    rw [List.set_append_right _ _ (by rw [hf, Nat.add_mul]; omega), hf, show (i + 1) * sz + k - sz = i * sz + k by rw [Nat.add_mul]; omega]
    congr 1
    exact flatMap_set hf (by simpa using hi) hk (by simpa using hy)
theorem nds_set {l : List Rn} {i : Nat} (y : Rn) : ndsZ (l.set i y) = (ndsZ l).set i (y.1, y.2.2) := by unfold ndsZ; rw [List.map_set]
theorem big_set {l : List Rn} {i : Nat} {y : Rn} (hi : i < l.length) (h1 : inA y = inA l[i]) {h : Hp} (hs : bigR inA l h) : bigR inA (l.set i y) h := by
  unfold bigR at hs ⊢
  rw [List.map_set, h1]
  have : (l.map inA).set i (inA l[i]) = l.map inA := by
    apply List.ext_getElem
    · simp
    · intro j _ _
      rw [List.getElem_set]
      split
      · rename_i e; subst e; simp
      · rfl
  rw [this]; exact hs
theorem G.bigSet {W : World} {n : Nat} {ds : List Deferred} {E : Env} {L R : List HP} {X : Act → World → Prop} {l : List Rn} {i : Nat} {y : Rn} (hi : i < l.length) (h1 : inA y = inA l[i]) (hL : Pick (bigR inA l) L R) (h : G W n ds E (bigR inA (l.set i y) :: R) X) : G W n ds E L X :=
  fun a w he hk hs => h a w he hk (sep_imp (fun _ hp => big_set hi h1 hp) (hs.pick hL))
theorem nds_sset {l : List Rn} (p : Bs) (y : Value × Nd) : ndsZ (sset l p y) = sset (ndsZ l) p y.2 := by
  induction l with
  | nil => rfl
  | cons x l ih =>
    show ndsZ (sset (x :: l) p y) = sset ((x.1, x.2.2) :: ndsZ l) p y.2
    unfold sset
    dsimp only
    split
    · rfl
    · split
      · rfl
      · show (x.1, x.2.2) :: ndsZ (sset l p y) = _
        rw [ih]
theorem nds_sorted {l : List Rn} (h : SortedK (ndsZ l)) : SortedK l := by
  unfold SortedK ndsZ at *
  rw [List.map_map] at h; exact h
theorem sset_perm {K β : Type} [LT K] [DecidableEq K] [DecidableLT K] (ho : Lin K) {l : List (K × β)} (h : SortedK l) (k : K) (v : β) : (sset l k v).Perm ((k, v) :: adel l k) := by
  have hn := h.nodup ho
  refine al_ext_perm ((h.sset ho k v).nodup ho) ?_ fun x => ?_
  · rw [List.map_cons]
    refine List.nodup_cons.2 ⟨fun g => ?_, nodup_adel hn k⟩
    have := al_isSome.2 g
    rw [al_adel hn, if_pos rfl] at this; cases this
  · rw [al_sset]
    by_cases e : x = k
    · subst e; simp [alook]
    · rw [if_neg e]; simp only [alook, e, if_false]; rw [al_adel hn, if_neg e]
theorem big_sset {l : List Rn} (hs : SortedK l) {k : Bs} {v : Value × Nd} {h : Hp} (hp : sep [inA (k, v), bigR inA l] h) : bigR inA (sset l k v) h := by
  refine big_perm (sset_perm linB hs k v).symm (big_of_cons ?_)
  obtain ⟨h1, h2, hd, a1, a2, p1, h3, h4, hd2, b1, b2, p2, p3⟩ := hp
  exact ⟨h1, h2, hd, a1, a2, p1, h3, h4, hd2, b1, b2, big_del k p2, p3⟩
theorem G.bigSset {W : World} {n : Nat} {ds : List Deferred} {E : Env} {L R : List HP} {X : Act → World → Prop} {l : List Rn} (hs : SortedK l) (k : Bs) (v : Value × Nd) {p : HP} (hp : p = inA (k, v)) (hL : Picks [p, bigR inA l] L R) (h : G W n ds E (bigR inA (sset l k v) :: R) X) : G W n ds E L X := by
  subst hp
  exact G.fold hL (fun _ hp => big_sset hs hp) h
theorem big_sub {α : Type} {f : α → HP} {l m : List α} (hs : l.Sublist m) {h : Hp} (hp : bigR f m h) : bigR f l h := by
  induction hs generalizing h with
  | slnil => exact hp
  | cons a _ ih =>
    obtain ⟨h1, h2, -, -, a2, -, p2⟩ := hp
    exact sep_mono (ih p2) a2
  | cons_cons a _ ih =>
    obtain ⟨h1, h2, hd, a1, a2, p1, p2⟩ := hp
    exact ⟨h1, h2, hd, a1, a2, p1, ih p2⟩
theorem G.bigSub {W : World} {n : Nat} {ds : List Deferred} {E : Env} {L R : List HP} {X : Act → World → Prop} {l m : List Rn} (hs : l.Sublist m) (hL : Pick (bigR inA m) L R) (h : G W n ds E (bigR inA l :: R) X) : G W n ds E L X :=
  fun a w he hk hs' => h a w he hk (sep_imp (fun _ hp => big_sub hs hp) (hs'.pick hL))
theorem nds_filter {l : List Rn} (f : Bs → Bool) : ndsZ (l.filter fun y => f y.1) = (ndsZ l).filter fun y => f y.1 := by
  unfold ndsZ
  rw [List.filter_map]; rfl
/-- Laying among the others, one by one. -/
structure LayI {β : Type} (l : List (Bs × β)) (p : Bs) (v : β) (i : Nat) (b : Bool) (acc : List (Bs × β)) : Prop where
  no : b = false → acc = l.take i ∧ ∀ x ∈ l.take i, x.1 < p
  yes : b = true → acc = sset (l.take i) p v ∧ ∃ x ∈ l.take i, ¬ x.1 < p
theorem sset_end {β : Type} {l : List (Bs × β)} {p : Bs} (v : β) (h : ∀ x ∈ l, x.1 < p) : sset l p v = l ++ [(p, v)] := by
  induction l with
  | nil => rfl
  | cons x l ih =>
    have hx := h x List.mem_cons_self
    unfold sset
    rw [if_neg (fun e => linB.irr p (by rw [← e] at hx ⊢; exact hx)), if_neg (fun g => linB.irr _ (linB.tr _ _ _ hx g)), ih (fun y hy => h y (List.mem_cons_of_mem _ hy))]; rfl
theorem sset_past {β : Type} {l : List (Bs × β)} {p : Bs} (v : β) (y : Bs × β) (h : ∃ x ∈ l, ¬ x.1 < p) : sset (l ++ [y]) p v = sset l p v ++ [y] := by
  induction l with
  | nil => obtain ⟨x, hx, -⟩ := h; cases hx
  | cons x l ih =>
    rw [List.cons_append]
    unfold sset
    split
    · rfl
    · split
      · rfl
      · rename_i e1 e2
        have hx : x.1 < p := by
          rcases linB.tri x.1 p with g | g | g
          · exact g
          · exact absurd g e1
          · exact absurd g e2
        rw [ih]; rfl
        obtain ⟨z, hz, g⟩ := h
        rcases List.mem_cons.1 hz with rfl | hz
        · exact absurd hx g
        · exact ⟨z, hz, g⟩
theorem LayI.start {β : Type} (l : List (Bs × β)) (p : Bs) (v : β) : LayI l p v 0 false [] := ⟨fun _ => ⟨by simp, by simp⟩, fun h => by cases h⟩
theorem take_lt {β : Type} {l : List (Bs × β)} (hs : SortedK l) {i : Nat} (hi : i < l.length) : ∀ x ∈ l.take i, x.1 < l[i].1 := fun x hx => by
  obtain ⟨j, hj, rfl⟩ := List.mem_iff_getElem.1 hx
  rw [List.length_take] at hj
  rw [List.getElem_take]
  have := List.pairwise_iff_getElem.1 hs j i (by simp; omega) (by simpa using hi) (by omega)
  simpa using this
/-- Nothing is laid yet; the next one is below. -/
theorem LayI.low {β : Type} {l : List (Bs × β)} {p : Bs} {v : β} {i : Nat} {acc : List (Bs × β)} (h : LayI l p v i false acc) (hi : i < l.length) (hl : l[i].1 < p) : LayI l p v (i + 1) false (acc ++ [l[i]]) := by
  obtain ⟨h1, h2⟩ := h.no rfl
  refine ⟨fun _ => ⟨by rw [h1, List.take_succ_eq_append_getElem hi], fun x hx => ?_⟩, fun g => by cases g⟩
  rw [List.take_succ_eq_append_getElem hi] at hx
  rcases List.mem_append.1 hx with hx | hx
  · exact h2 x hx
  · simp at hx; rw [hx]; exact hl
/-- It is laid ahead of one that is above. -/
theorem LayI.put {β : Type} {l : List (Bs × β)} {p : Bs} {v : β} {i : Nat} {acc : List (Bs × β)} (h : LayI l p v i false acc) (hi : i < l.length) (hl : ¬ l[i].1 < p) (hne : l[i].1 ≠ p) : LayI l p v (i + 1) true ((acc ++ [(p, v)]) ++ [l[i]]) := by
  obtain ⟨h1, h2⟩ := h.no rfl
  refine ⟨(fun g => by cases g), fun _ => ⟨?_, l[i], by rw [List.take_succ_eq_append_getElem hi]; exact List.mem_append_right _ List.mem_cons_self, hl⟩⟩
  have hgt : p < l[i].1 := by
    rcases linB.tri l[i].1 p with g | g | g
    · exact absurd g hl
    · exact absurd g hne
    · exact g
  rw [List.take_succ_eq_append_getElem hi, h1]
  have key : ∀ (m : List (Bs × β)), (∀ x ∈ m, x.1 < p) → sset (m ++ [l[i]]) p v = m ++ [(p, v)] ++ [l[i]] := by
    intro m
    induction m with
    | nil => intro _; show sset [l[i]] p v = _; unfold sset; rw [if_neg hne, if_pos hgt]; rfl
    | cons x m ih =>
      intro hm
      have hx := hm x List.mem_cons_self
      rw [List.cons_append]
      unfold sset
      rw [if_neg (fun e => linB.irr p (by rw [← e] at hx ⊢; exact hx)), if_neg (fun g => linB.irr _ (linB.tr _ _ _ hx g)), ih (fun y hy => hm y (List.mem_cons_of_mem _ hy))]; rfl
  exact (key _ h2).symm
/-- It takes the place of the one of its path. -/
theorem LayI.sub {β : Type} {l : List (Bs × β)} {p : Bs} {v : β} {i : Nat} {acc : List (Bs × β)} (h : LayI l p v i false acc) (hi : i < l.length) (he : l[i].1 = p) : LayI l p v (i + 1) true (acc ++ [(p, v)]) := by
  obtain ⟨h1, h2⟩ := h.no rfl
  refine ⟨(fun g => by cases g), fun _ => ⟨?_, l[i], by rw [List.take_succ_eq_append_getElem hi]; exact List.mem_append_right _ List.mem_cons_self, by rw [he]; exact linB.irr p⟩⟩
  rw [List.take_succ_eq_append_getElem hi, h1]
  have key : ∀ (m : List (Bs × β)), (∀ x ∈ m, x.1 < p) → sset (m ++ [l[i]]) p v = m ++ [(p, v)] := by
    intro m
    induction m with
    | nil => intro _; show sset [l[i]] p v = _; unfold sset; rw [if_pos he]; rfl
    | cons x m ih =>
      intro hm
      have hx := hm x List.mem_cons_self
      rw [List.cons_append]
      unfold sset
      rw [if_neg (fun e => linB.irr p (by rw [← e] at hx ⊢; exact hx)), if_neg (fun g => linB.irr _ (linB.tr _ _ _ hx g)), ih (fun y hy => hm y (List.mem_cons_of_mem _ hy))]; rfl
  exact (key _ h2).symm
/-- It is laid; the others follow. -/
theorem LayI.more {β : Type} {l : List (Bs × β)} {p : Bs} {v : β} {i : Nat} {acc : List (Bs × β)} (h : LayI l p v i true acc) (hi : i < l.length) : LayI l p v (i + 1) true (acc ++ [l[i]]) := by
  obtain ⟨h1, h2⟩ := h.yes rfl
  refine ⟨(fun g => by cases g), fun _ => ⟨by rw [h1, List.take_succ_eq_append_getElem hi, sset_past v _ h2], ?_⟩⟩
  obtain ⟨x, hx, g⟩ := h2
  exact ⟨x, by rw [List.take_succ_eq_append_getElem hi]; exact List.mem_append_left _ hx, g⟩
theorem LayI.not {β : Type} {l : List (Bs × β)} (hs : SortedK l) {p : Bs} {v : β} {i : Nat} {acc : List (Bs × β)} (h : LayI l p v i true acc) (hi : i < l.length) : l[i].1 ≠ p := by
  obtain ⟨-, x, hx, g⟩ := h.yes rfl
  intro e
  exact g (by rw [← e]; exact take_lt hs hi x hx)
theorem LayI.last {β : Type} {l : List (Bs × β)} {p : Bs} {v : β} {acc : List (Bs × β)} {b : Bool} (h : LayI l p v l.length b acc) : (if b then acc else acc ++ [(p, v)]) = sset l p v := by
  cases b with
  | true => obtain ⟨h1, -⟩ := h.yes rfl; rw [List.take_length] at h1; exact h1
  | false =>
    obtain ⟨h1, h2⟩ := h.no rfl
    rw [List.take_length] at h1 h2
    rw [sset_end v h2, h1]; rfl
/-- A session is put in its place. -/
theorem sset_at {β : Type} {l : List (Int × β)} {k : Int} {v : β} {i : Nat} (hi : i ≤ l.length) (h1 : ∀ x ∈ l.take i, x.1 < k) (h2 : ∀ h : i < l.length, ¬ l[i].1 < k) (h3 : ∀ x ∈ l, x.1 ≠ k) : l.take i ++ [(k, v)] ++ l.drop i = sset l k v := by
  induction l generalizing i with
  | nil => simp at hi; subst hi; rfl
  | cons x l ih =>
    have hx3 := h3 x List.mem_cons_self
    cases i with
    | zero =>
      have hx2 := h2 (by simp)
      simp at hx2
      unfold sset
      rw [if_neg hx3, if_pos (by omega)]; rfl
    | succ i =>
      have hx1 := h1 x (by simp)
      unfold sset
      rw [if_neg hx3, if_neg (by omega), ← ih (i := i) (by simpa using hi) (fun y hy => h1 y (by simp [hy])) (fun h => by have := h2 (by simpa using h); simpa using this) (fun y hy => h3 y (List.mem_cons_of_mem _ hy))]
      simp
theorem open_drop {τ : Tr} {N : Nat} (ho : τ.Ok N) (id n : Int) (s : Bs) : openS (dropS τ id) id n s = openS τ id n s := by
  refine Tr.ext' rfl ?_ rfl
  show sset (τ.sess.filter _) id (n, s) = sset τ.sess id (n, s)
  refine sorted_same linI ((ho.ssorted.filter _).sset linI _ _) (ho.ssorted.sset linI _ _) fun i => ?_
  rw [al_sset, al_sset, al_filter (fun k => !decide (k = id))]
  by_cases e : i = id
  · rw [if_pos e, if_pos e]
  · rw [if_neg e, if_neg e]; simp [e]
theorem nds_mod {l : List Rn} {m : List (Bs × Nd)} (hl : ndsZ l = m) (hn : (m.map (·.1)).Nodup) {k : Nat} (hk : k < l.length) {p : Bs} (hp : l[k].1 = p) (f : Nd → Nd) {v : Value} {n : Nd} (hy : n = f l[k].2.2) : ndsZ (l.set k (l[k].1, (v, n))) = amod m p f := by
  subst hl; subst hp; subst hy
  have h2 : (ndsZ l)[k]'(by simpa [ndsZ] using hk) = (l[k].1, l[k].2.2) := by simp [ndsZ]
  have := amod_set hn (k := k) (by simpa [ndsZ] using hk) f
  rw [h2] at this
  rw [nds_set, this]
theorem big_rep {l : List Rn} {k : Nat} {y : Rn} (hk : k < l.length) {h : Hp} (hs : sep [inA y, bigR inA l] h) : bigR inA (l.set k y) h := by
  have e1 : (l.set k y).Perm (y :: (l.take k ++ l.drop (k + 1))) := by
    rw [List.set_eq_take_append_cons_drop, if_pos hk]
    exact List.perm_middle
  have e2 : (l.take k ++ l.drop (k + 1)).Sublist l := by
    have : l.take k ++ l.drop (k + 1) = l.eraseIdx k := (List.eraseIdx_eq_take_drop_succ l k).symm
    rw [this]; exact List.eraseIdx_sublist l k
  refine big_perm e1.symm (big_of_cons ?_)
  obtain ⟨h1, h2, hd, a1, a2, p1, h3, h4, hd2, b1, b2, p2, p3⟩ := hs
  exact ⟨h1, h2, hd, a1, a2, p1, h3, h4, hd2, b1, b2, big_sub e2 p2, p3⟩
theorem G.bigRep {W : World} {n : Nat} {ds : List Deferred} {E : Env} {L R : List HP} {X : Act → World → Prop} {l : List Rn} {k : Nat} (y : Rn) (hk : k < l.length) {p : HP} (hp : p = inA y) (hL : Picks [p, bigR inA l] L R) (h : G W n ds E (bigR inA (l.set k y) :: R) X) : G W n ds E L X := by
  subst hp
  exact G.fold hL (fun _ hp => big_rep hk hp) h
theorem Fn.pre2 {P : Program} {f : FuncId} {args : Array Value} {pre pre' : List HP} {post : Value → List HP → Prop} (h : Fn P f args pre post) (hp : ∀ F w, St (pre' ++ F) w → St (pre ++ F) w) : Fn P f args pre' post := fun F w hs => h F w (hp F w hs)
/-! ### Parts of slices -/
def cutA (a : Option Addr) (c i sz : Nat) : Option Addr := if c = i then a else a.map (·.add (i * sz))
section
variable {P : Program} {E : Env} {L : List HP} {ty : TypeId}
theorem Quiet.slFromO {t : TypeId} {x y : Operand} {a : Option Addr} {n c e sz by' : Nat} {i : Int} (hx : ev E x = some (.slice a n c)) (ht : elemOf' P t = some (e, sz, by')) (hy : ev E y = some (.int .i64 i)) (hb : 0 ≤ i ∧ i ≤ n ∧ n ≤ c) :
    Quiet P ⟨none, .slice t x (some y) none none, ty, "", #[], none⟩ E L (.slice (cutA a c i.toNat sz) (n - i.toNat) (c - i.toNat)) := by
  intro ρ w ha _
  unfold elemOf' at ht
  split at ht <;> (try cases ht)
  rename_i e' hu
  split at ht <;> (try cases ht)
  rename_i inf hin
  refine run_v ?_
  show (Instr.sliceAt t (ρ x) (some (ρ y)) none none).run P w = _
  rw [ha x _ hx, ha y _ hy]
  unfold Instr.sliceAt
  rw [run_bind (run_underlying hu)]
  show (Instr.slice t (.slice a n c) (some (.int .i64 i)) none none).run P w = _
  unfold Instr.slice
  rw [run_bind (run_underlying hu)]
  show (do let (l, h, m) ← Instr.sliceBounds true n c (some (.int .i64 i)) none none; let size ← sizeOf e; pure (.slice (if m = l then a else a.map (·.add (l * size))) (h - l) (m - l)) : Sem Value).run P w = _
  rw [run_bind (run_sliceBounds (i := i) (j := n) (.inl rfl) (.inr ⟨rfl, rfl⟩) ⟨hb.1, by omega, by omega⟩)]
  show (do let size ← sizeOf e; pure (.slice (if c = i.toNat then a else a.map (·.add (i.toNat * size))) ((n : Int).toNat - i.toNat) (c - i.toNat)) : Sem Value).run P w = _
  rw [run_bind (run_sizeOf (k := inf.size) (by simp [sizeOf', hin]))]
  rw [Int.toNat_natCast]; rfl
end
theorem slR_rd_to {T : TypeId} {sz n k c : Nat} {a : Option Addr} {xs : List Value} {h : Hp} (hk : k ≤ n) (hp : slR T sz (.slice a n c) n xs h) : rdS sz h (.slice a k c) k (xs.take (k * sz)) := by
  rcases hp with ⟨h1, h2, h3⟩ | ⟨b, cap, rest, fr, hv, hb, h1, h2, h3, h4⟩
  · subst h2; subst h3
    obtain rfl : k = 0 := by omega
    exact .inl ⟨rfl, by simp, a, c, rfl⟩
  · simp only [Value.slice.injEq, true_and] at hv
    obtain ⟨rfl, rfl⟩ := hv
    have hm := Nat.mul_le_mul_right sz hk
    refine .inr ⟨b, 0, c, xs ++ rest, T, fr, rfl, hb, ?_, by simp; omega, by omega⟩
    rw [List.drop_zero, List.take_append_of_le_length (by omega)]
theorem slR_rd_from {T : TypeId} {sz n k c : Nat} {a : Option Addr} {xs : List Value} {h : Hp} (hk : k ≤ n) (hp : slR T sz (.slice a n c) n xs h) : rdS sz h (.slice (cutA a c k sz) (n - k) (c - k)) (n - k) (xs.drop (k * sz)) := by
  rcases hp with ⟨h1, h2, h3⟩ | ⟨b, cap, rest, fr, hv, hb, h1, h2, h3, h4⟩
  · subst h2; subst h3
    obtain rfl : k = 0 := by omega
    exact .inl ⟨rfl, by simp, _, _, rfl⟩
  · simp only [Value.slice.injEq, true_and] at hv
    obtain ⟨rfl, rfl⟩ := hv
    unfold cutA
    by_cases e : c = k
    · rw [if_pos e]
      have hnk : n = k := by omega
      subst hnk
      have h0 : n - n = 0 := by omega
      rw [h0]
      exact .inl ⟨rfl, List.drop_eq_nil_of_le (by omega), _, _, rfl⟩
    · rw [if_neg e]
      have hm := Nat.mul_le_mul_right sz hk
      have hms : (n - k) * sz = n * sz - k * sz := Nat.sub_mul n k sz
      refine .inr ⟨b, k * sz, c - k, xs ++ rest, T, fr, ?_, hb, ?_, by simp; omega, by omega⟩
      · simp [Addr.add_eq]
      · rw [List.drop_append_of_le_length (by omega), List.take_append_of_le_length (by rw [List.length_drop]; omega), List.take_of_length_le (by rw [List.length_drop]; omega)]
theorem flat_take {α : Type} {f : α → List Value} {sz : Nat} (hf : ∀ x, (f x).length = sz) : ∀ (l : List α) (k : Nat), (l.flatMap f).take (k * sz) = (l.take k).flatMap f ∧ (l.flatMap f).drop (k * sz) = (l.drop k).flatMap f
  | [], k => by simp
  | x :: l, 0 => by simp
  | x :: l, k + 1 => by
    have hx := hf x
    obtain ⟨h1, h2⟩ := flat_take hf l k
    rw [List.flatMap_cons, List.take_succ_cons, List.drop_succ_cons, List.flatMap_cons, show (k + 1) * sz = sz + k * sz by rw [Nat.add_mul]; omega]
    refine ⟨?_, ?_⟩
    · rw [List.take_append, hx, List.take_of_length_le (by omega), show sz + k * sz - sz = k * sz by omega, h1]
    · rw [List.drop_append, hx, List.drop_eq_nil_of_le (by omega), show sz + k * sz - sz = k * sz by omega, h2]; rfl
theorem G.slForm {W : World} {n' : Nat} {ds : List Deferred} {E : Env} {L R : List HP} {X : Act → World → Prop} {T : TypeId} {sz m c : Nat} {a : Option Addr} {xs : List Value} (hL : Pick (slR T sz (.slice a m c) m xs) L R) (h0 : a = none → m = 0 → c = 0 → G W n' ds E L X) (h1 : ∀ b, a = some ⟨b, 0, none⟩ → m ≤ c → G W n' ds E L X) : G W n' ds E L X := by
  intro ac w he hk hs
  obtain ⟨g1, -, hp⟩ := sep_head (hs.pick hL)
  rcases hp with ⟨e1, e2, -⟩ | ⟨b', cap, rest, fr, e1, -, -, -, e5, -⟩
  · simp only [Value.slice.injEq] at e1
    exact h0 e1.1 e2 e1.2.2 ac w he hk hs
  · simp only [Value.slice.injEq] at e1
    exact h1 b' e1.1 (by omega) ac w he hk hs
/-! ### What is told -/
def kidsN (l : List Rn) (p : Bs) : List Bs := (l.filter fun y => !decide (y.1 = [47]) && decide (parentZ y.1 = p)).map fun y => baseZ y.1
theorem kidsN_eq {l : List Rn} {τ : Tr} (h : ndsZ l = τ.nodes) (p : Bs) : kidsN l p = kidsZ τ p := by
  unfold kidsN kidsZ
  rw [← h]
  unfold ndsZ
  rw [List.filter_map, List.map_map]; rfl
theorem kidsN_len (l : List Rn) (p : Bs) : (kidsN l p).length ≤ l.length := by
  unfold kidsN; rw [List.length_map]; exact List.length_filter_le _ _
def ownN (l : List Rn) (s : Int) : List Bs := (l.filter fun y => !decide (s = 0) && decide (y.2.2.st.own = s)).map (·.1)
theorem ownN_eq {l : List Rn} {τ : Tr} (h : ndsZ l = τ.nodes) (s : Int) : ownN l s = ownedZ τ s := by
  unfold ownN ownedZ
  rw [← h]
  unfold ndsZ
  rw [List.filter_map, List.map_map]; rfl
theorem ownN_len (l : List Rn) (s : Int) : (ownN l s).length ≤ l.length := by
  unfold ownN; rw [List.length_map]; exact List.length_filter_le _ _
theorem owned_len (τ : Tr) (s : Int) : (ownedZ τ s).length ≤ τ.nodes.length := by
  unfold ownedZ; rw [List.length_map]; exact List.length_filter_le _ _
theorem kidsZ_len (τ : Tr) (p : Bs) : (kidsZ τ p).length ≤ τ.nodes.length := by
  unfold kidsZ; rw [List.length_map]; exact List.length_filter_le _ _
def sesP (τ : Tr) (id : Int) : Int := match posK id (τ.sess.map (·.1)) with
  | some i => i
  | none => -1
theorem ses_at {τ : Tr} {id : Int} {i : Nat} (hi : i < τ.sess.length) (h1 : τ.sess[i].1 = id) (h2 : ∀ j (hj : j < i), τ.sess[j].1 ≠ id) : sesP τ id = i := by
  unfold sesP
  rw [posK_at (i := i) (by simpa using hi) (by simpa using h1) (fun j hj => by simpa using h2 j hj)]
theorem ses_none {τ : Tr} {id : Int} (h : ∀ j (hj : j < τ.sess.length), τ.sess[j].1 ≠ id) : sesP τ id = -1 := by
  unfold sesP
  rw [posK_none]
  intro hm
  obtain ⟨x, hx, e⟩ := List.mem_map.1 hm
  obtain ⟨j, hj, rfl⟩ := List.mem_iff_getElem.1 hx
  exact h j hj e
theorem big_rd {l : List Rn} {i : Nat} (hi : i < l.length) : ∀ h : Hp, bigR inA l h → rdS 2 h l[i].2.1 l[i].2.2.acl.length (l[i].2.2.acl.flatMap acC) := by
  induction l generalizing i with
  | nil => simp at hi
  | cons x l ih =>
    intro h hs
    obtain ⟨h1, h2, -, a1, a2, p1, p2⟩ := hs
    cases i with
    | zero => exact rdS_mono p1 a1
    | succ i => exact rdS_mono (ih (by simpa using hi) h2 p2) a2
theorem big_snoc {l : List Rn} {y : Rn} {h : Hp} (hs : sep [inA y, bigR inA l] h) : bigR inA (l ++ [y]) h := by
  refine big_perm ?_ (big_of_cons hs)
  exact (List.perm_append_singleton y l).symm
theorem G.bigSnoc {W : World} {n : Nat} {ds : List Deferred} {E : Env} {L R : List HP} {X : Act → World → Prop} {l : List Rn} (y : Rn) {p : HP} (hp : p = inA y) (hL : Picks [p, bigR inA l] L R) (h : G W n ds E (bigR inA (l ++ [y]) :: R) X) : G W n ds E L X := by
  subst hp
  exact G.fold hL (fun _ hp => big_snoc hp) h
/-! ### Soundness -/
def findsZ (τ : Tr) (x : Pt) : Bool :=
  if x.kind = 1 then decide (ableZ x.path ∧ ¬ thereT τ x.path ∧ thereT τ (parentZ x.path))
  else if x.kind = 2 then decide (x.path ≠ [47] ∧ thereT τ x.path ∧ (kidsZ τ x.path).length = 0)
  else if x.kind = 3 ∨ x.kind = 4 then decide (thereT τ x.path) else false
def soundL (τ : Tr) (zx : Int) (cl : Bool) : List Pt → Bool
  | [] => true
  | x :: l => findsZ τ x && (!cl || decide (x.kind = 2)) && soundL (partZ τ x zx).1 zx cl l
def soundZ (τ : Tr) (zx : Int) (x : Pt) (subs : List Pt) : Bool :=
  if x.kind = 1 ∨ x.kind = 2 ∨ x.kind = 3 ∨ x.kind = 4 then findsZ τ x
  else if x.kind = 6 ∨ x.kind = 7 then soundL τ zx (decide (x.kind = 6)) subs else true
theorem sound_step {τ : Tr} {zx : Int} {cl : Bool} {l : List Pt} {i : Nat} (hi : i < l.length) : soundL (partsZ τ zx (l.take i)).1 zx cl (l.drop i) = (findsZ (partsZ τ zx (l.take i)).1 l[i] && (!cl || decide (l[i].kind = 2)) && soundL (partsZ τ zx (l.take (i + 1))).1 zx cl (l.drop (i + 1))) := by
  rw [List.drop_eq_getElem_cons hi, soundL, List.take_succ_eq_append_getElem hi, parts_snoc]
end Go.Proofs.YtnnbelmpbmfdnaaGreatDoor
/- Own work: loops over the runes of a string; maps that are nil. -/

namespace Go.Proofs.YtnnbelmpbmfdnaaGreatDoor
open Go

section
variable {P : Program} {E : Env} {L R : List HP} {ty : TypeId} {w : World}
abbrev runeR (it : Nat) (s : List UInt8) (pos : Nat) : HP := pt it (.stringIter (bs s) pos)
theorem OpSpec.rangeS {t : TypeId} {x : Operand} {s : List UInt8} (hx : ev E x = some (vstr s)) (ht : P.underlying t = some .string) :
    OpSpec P ⟨none, .range t x, ty, "", #[], none⟩ E [] fun v L' => ∃ it, v = vptr it ∧ L' = [runeR it s 0] := by
  intro ρ w F ha hs
  have hrun : (execOp ρ ⟨none, .range t x, ty, "", #[], none⟩).run P w = .ok (.value (vptr w.heap.size)) { w with heap := w.heap.push (.stringIter (bs s) 0) } := by
    refine run_v ?_
    show (Instr.range t (ρ x)).run P w = _
    rw [ha x _ hx]; exact run_range_string w t _ ht
  unfold Runs; rw [hrun]
  exact ⟨_, ⟨_, rfl, rfl⟩, St.new hs _, Keeps.new _ _⟩
theorem OpSpec.nextS {x : Operand} {it pos : Nat} {s : List UInt8} (hx : ev E x = some (vptr it)) :
    OpSpec P ⟨none, .next x true, ty, "", #[], none⟩ E [runeR it s pos] fun v L' => (v = .tuple #[.bool false] ∧ ¬ pos < s.length ∧ L' = [runeR it s pos]) ∨
      (pos < s.length ∧ v = .tuple #[.bool true, vint pos, .int .i32 (Utf8.decode (bs s) pos).1] ∧ L' = [runeR it s (pos + (Utf8.decode (bs s) pos).2)]) := by
  intro ρ w F ha hs
  have hk : w.heap[it]? = some (.stringIter (bs s) pos) := St.pt (L := F) hs
  by_cases h : pos < s.length
  · have hrun : (execOp ρ ⟨none, .next x true, ty, "", #[], none⟩).run P w = .ok (.value (.tuple #[.bool true, vint pos, .int .i32 (Utf8.decode (bs s) pos).1])) (upd w it (.stringIter (bs s) (pos + (Utf8.decode (bs s) pos).2))) := by
      refine run_v ?_
      show (Instr.next (ρ x) true ty).run P w = _
      rw [ha x _ hx]; exact Go.Lib.run_next_any_at w it (bs s) pos ty hk (by rw [bs_size]; exact h)
    unfold Runs; rw [hrun]
    exact ⟨_, .inr ⟨h, rfl, rfl⟩, St.upd (L := F) hs, Keeps.upd _ _ _⟩
  · have hrun : (execOp ρ ⟨none, .next x true, ty, "", #[], none⟩).run P w = .ok (.value (.tuple #[.bool false])) w := by
      refine run_v ?_
      show (Instr.next (ρ x) true ty).run P w = _
      rw [ha x _ hx]; exact Go.Lib.run_next_end_at w it (bs s) pos ty hk (by rw [bs_size]; exact h)
    unfold Runs; rw [hrun]
    exact ⟨_, .inl ⟨rfl, h, rfl⟩, hs, Keeps.refl _⟩
theorem decode_low {s : List UInt8} {pos : Nat} (h : pos < s.length) (hc : (s[pos]).toNat < 128) : Utf8.decode (bs s) pos = ((s[pos]).toNat, 1) :=
  decode_ascii (bs s) pos (by rw [bs_size]; exact h) hc
theorem bs_get {s : List UInt8} {pos : Nat} (h : pos < s.length) : (bs s).get! (pos + 0) = s[pos] := by
  show (bs s).get! pos = _
  show s.toArray[pos]! = _
  rw [getElem!_pos s.toArray pos (by simpa using h)]
  simp
theorem decode_high {s : List UInt8} {pos : Nat} (h : pos < s.length) (hc : ¬ (s[pos]).toNat < 128) : 128 ≤ (Utf8.decode (bs s) pos).1 ∧ 1 ≤ (Utf8.decode (bs s) pos).2 := by
  have e := bs_get h
  simp only [Utf8.decode, e]
  rw [if_neg hc]
  repeat' split
  all_goals first | (simp_all [Utf8.runeError]; done) | (refine ⟨?_, ?_⟩ <;> simp_all [Utf8.runeError] <;> omega)
theorem Quiet.lookupNil {K : Type} [DecidableEq K] {kv : K → Value} {kt et : TypeId} (hl : KeyLaw P kt kv) {t : TypeId} {x y : Operand} {k : K} {z : Value} (hx : ev E x = some (.map none)) (hy : ev E y = some (kv k)) (ht : P.underlying t = some (.map kt et)) (hz : zeroOf P et = some z) :
    Quiet P ⟨none, .lookup t x y false, ty, "", #[], none⟩ E L z := by
  intro ρ w ha hs
  refine run_v ?_
  show (Instr.lookup t (ρ x) (ρ y) false).run P w = _
  rw [ha x _ hx, ha y _ hy]
  unfold Instr.lookup
  rw [run_bind (run_underlying ht)]
  dsimp only
  rw [run_bind run_pure, run_bind (hl.check k _ w), run_bind (hl.find k [] [] w rfl)]
  simp only [posK, Option.bind_none]
  rw [run_bind (run_zero hz), run_bind run_pure]
  rfl
abbrev nilR (it : Nat) : HP := pt it (.mapIter none 0 #[] 0)
theorem OpSpec.rangeNil {t kt et : TypeId} {x : Operand} (hx : ev E x = some (.map none)) (ht : P.underlying t = some (.map kt et)) :
    OpSpec P ⟨none, .range t x, ty, "", #[], none⟩ E [] fun v L' => ∃ it, v = vptr it ∧ L' = [nilR it] := by
  intro ρ w F ha hs
  have hrun : (execOp ρ ⟨none, .range t x, ty, "", #[], none⟩).run P w = .ok (.value (vptr w.heap.size)) { w with heap := w.heap.push (.mapIter none 0 #[] 0) } := by
    refine run_v ?_
    show (Instr.range t (ρ x)).run P w = _
    rw [ha x _ hx]; exact run_range_nilMap w t kt et ht
  unfold Runs; rw [hrun]
  exact ⟨_, ⟨_, rfl, rfl⟩, St.new hs _, Keeps.new _ _⟩
theorem OpSpec.nextNil {x : Operand} {it : Nat} (hx : ev E x = some (vptr it)) :
    OpSpec P ⟨none, .next x false, ty, "", #[], none⟩ E [nilR it] fun v L' => v = .tuple #[.bool false] ∧ L' = [nilR it] := by
  intro ρ w F ha hs
  have hk : w.heap[it]? = some (.mapIter none 0 #[] 0) := St.pt (L := F) hs
  have hrun : (execOp ρ ⟨none, .next x false, ty, "", #[], none⟩).run P w = .ok (.value (.tuple #[.bool false])) w := by
    refine run_v ?_
    show (Instr.next (ρ x) false ty).run P w = _
    rw [ha x _ hx]
    simp only [Instr.next, getObj, Sem.run_bind, Sem.run, hk, Result.andThen]
    rfl
  unfold Runs; rw [hrun]
  exact ⟨_, ⟨rfl, rfl⟩, hs, Keeps.refl _⟩
/-- A call of a function that the model answers itself. -/
theorem Quiet.extern {f : FuncId} {fn : Func} {e : Array Value → Sem Value} {xs : Array Operand} {ts : Array TypeId} {vs : List Value} {v : Value} (hf : P.funcs[f]? = some fn) (hnm : (fn.name == "runtime.NumGoroutine") = false) (hb : fn.body.isNone = true) (hn : Extern.findNext fn = none) (he : Extern.find fn = some e)
    (hx : xs.toList.map (ev E) = vs.map some) (hr : ∀ w, (e vs.toArray).run P w = .ok v w) : Quiet P ⟨none, .call { callee := .value (.func f), args := xs, argTypes := ts }, ty, "", #[], none⟩ E L v := by
  intro ρ w ha _
  have hv : xs.map ρ = vs.toArray := by
    apply Array.ext'
    rw [Array.toList_map]
    exact agree_list ha _ _ hx
  have hfn : ρ (.func f) = .func (.func f) #[] #[] := ha (.func f) _ rfl
  have e1 : (execOp ρ ⟨none, .call { callee := .value (.func f), args := xs, argTypes := ts }, ty, "", #[], none⟩).run P w = (callFunc f vs.toArray).run P w := by
    simp [execOp, resolve, hfn, Deferred.ofValue, invoke, program, Bind.bind, Sem.bind, Pure.pure, Sem.run, hv]
  rw [e1, run_callFunc_extern hf hnm hb hn he, hr]
  rfl
theorem count_run (s : List UInt8) (w : World) : (Extern.BytealgCount.count #[vstr s, .int .u8 47]).run P w = .ok (vint (s.count 47 : Nat)) w := by
  rw [show vstr s = .string (bs s) from rfl, Go.Lib.run_countString]; rfl
def idxZ : List UInt8 → Int
  | [] => -1
  | b :: l => if b = 47 then 0 else if idxZ l = -1 then -1 else idxZ l + 1
theorem idx_eq (s : List UInt8) : Go.Lib.indexByte s 47 = idxZ s := by
  induction s with
  | nil => rfl
  | cons b l ih =>
    unfold Go.Lib.indexByte idxZ
    rw [ih]
    simp
theorem index_run (s : List UInt8) (w : World) : (Extern.BytealgIndexByte.indexByte #[vstr s, .int .u8 47]).run P w = .ok (vint (idxZ s)) w := by
  rw [show vstr s = .string (bs s) from rfl, Go.Lib.run_indexByteString]
  rw [show (bs s).data.toList = s from rfl, show (47 : Int).toNat.toUInt8 = 47 from rfl, idx_eq]
theorem idxZ_at {s : List UInt8} (h : (47 : UInt8) ∈ s) : ∃ k : Nat, idxZ s = k ∧ k < s.length ∧ s = s.take k ++ 47 :: s.drop (k + 1) ∧ (47 : UInt8) ∉ s.take k := by
  induction s with
  | nil => cases h
  | cons b l ih =>
    unfold idxZ
    by_cases hb : b = 47
    · subst hb
      exact ⟨0, by rw [if_pos rfl]; rfl, by simp, by simp, by simp⟩
    · have hl : (47 : UInt8) ∈ l := by
        rcases List.mem_cons.1 h with h | h
        · exact absurd h.symm hb
        · exact h
      obtain ⟨k, e1, e2, e3, e4⟩ := ih hl
      refine ⟨k + 1, ?_, by simp; omega, ?_, ?_⟩
      · rw [if_neg hb, e1, if_neg (by omega)]; omega
      · simp only [List.take_succ_cons, List.drop_succ_cons, List.cons_append]
        rw [← e3]
      · simp only [List.take_succ_cons, List.mem_cons, not_or]
        exact ⟨fun e => hb e.symm, e4⟩
end
end Go.Proofs.YtnnbelmpbmfdnaaGreatDoor
