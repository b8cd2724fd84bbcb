/- Closed facts on types and functions of the program. No condition. -/
import Derived.Test.YtoaplldahbbaiaaKA
import Derived.KernelRfl
namespace Go.Proofs.Ytoaplldahbbaiaa
open Go Go.RowKit
theorem sca1 : scaB Try.prog 1 = true := by kernel_rfl
theorem zc1 : (Try.prog.info? 1).map (fun i => i.zero.map (·.cells)) = some (some #[.nilFunc]) := by kernel_rfl
theorem z1 : (Try.prog.info? 1).map (·.zero) = some (some (.nilFunc)) := by kernel_rfl
theorem ty2 : Try.prog.underlying 2 = some (.int .i64) := by kernel_rfl
theorem is2 : (Try.prog.underlying 2).isSome = true := by kernel_rfl
theorem sca2 : scaB Try.prog 2 = true := by kernel_rfl
theorem zc2 : (Try.prog.info? 2).map (fun i => i.zero.map (·.cells)) = some (some #[.int .i64 0]) := by kernel_rfl
theorem z2 : (Try.prog.info? 2).map (·.zero) = some (some (.int .i64 0)) := by kernel_rfl
theorem ty3 : Try.prog.underlying 3 = some (.int .i64) := by kernel_rfl
theorem is3 : (Try.prog.underlying 3).isSome = true := by kernel_rfl
theorem sca3 : scaB Try.prog 3 = true := by kernel_rfl
theorem zc3 : (Try.prog.info? 3).map (fun i => i.zero.map (·.cells)) = some (some #[.int .i64 0]) := by kernel_rfl
theorem z3 : (Try.prog.info? 3).map (·.zero) = some (some (.int .i64 0)) := by kernel_rfl
theorem sca4 : scaB Try.prog 4 = true := by kernel_rfl
theorem zc4 : (Try.prog.info? 4).map (fun i => i.zero.map (·.cells)) = some (some #[.bool false]) := by kernel_rfl
theorem z4 : (Try.prog.info? 4).map (·.zero) = some (some (.bool false)) := by kernel_rfl
theorem ty4 : Try.prog.underlying 4 = some .bool := by kernel_rfl
theorem ty5 : Try.prog.underlying 5 = some (.int .u8) := by kernel_rfl
theorem is5 : (Try.prog.underlying 5).isSome = true := by kernel_rfl
theorem sca5 : scaB Try.prog 5 = true := by kernel_rfl
theorem zc5 : (Try.prog.info? 5).map (fun i => i.zero.map (·.cells)) = some (some #[.int .u8 0]) := by kernel_rfl
theorem z5 : (Try.prog.info? 5).map (·.zero) = some (some (.int .u8 0)) := by kernel_rfl
theorem ty6 : Try.prog.underlying 6 = some (.int .u8) := by kernel_rfl
theorem is6 : (Try.prog.underlying 6).isSome = true := by kernel_rfl
theorem sca6 : scaB Try.prog 6 = true := by kernel_rfl
theorem zc6 : (Try.prog.info? 6).map (fun i => i.zero.map (·.cells)) = some (some #[.int .u8 0]) := by kernel_rfl
theorem z6 : (Try.prog.info? 6).map (·.zero) = some (some (.int .u8 0)) := by kernel_rfl
theorem zc7 : (Try.prog.info? 7).map (fun i => i.zero.map (·.cells)) = some (some #[.int .i64 0, .int .i64 0, .bool false, .int .u8 0]) := by kernel_rfl
theorem agg7 : aggB Try.prog 7 4 = true := by kernel_rfl
theorem plc7 : places Try.prog 7 = some [(0, 1), (1, 1), (2, 1), (3, 1)] := by kernel_rfl
theorem fld7_0 : fldB Try.prog 7 0 0 = true := by kernel_rfl
theorem fld7_1 : fldB Try.prog 7 1 1 = true := by kernel_rfl
theorem fld7_2 : fldB Try.prog 7 2 2 = true := by kernel_rfl
theorem fld7_3 : fldB Try.prog 7 3 3 = true := by kernel_rfl
theorem zc8 : (Try.prog.info? 8).map (fun i => i.zero.map (·.cells)) = some (some #[.int .i64 0, .int .i64 0, .bool false, .int .u8 0]) := by kernel_rfl
theorem agg8 : aggB Try.prog 8 4 = true := by kernel_rfl
theorem plc8 : places Try.prog 8 = some [(0, 1), (1, 1), (2, 1), (3, 1)] := by kernel_rfl
theorem fld8_0 : fldB Try.prog 8 0 0 = true := by kernel_rfl
theorem fld8_1 : fldB Try.prog 8 1 1 = true := by kernel_rfl
theorem fld8_2 : fldB Try.prog 8 2 2 = true := by kernel_rfl
theorem fld8_3 : fldB Try.prog 8 3 3 = true := by kernel_rfl
theorem ty9 : Try.prog.underlying 9 = some .string := by kernel_rfl
theorem sca9 : scaB Try.prog 9 = true := by kernel_rfl
theorem zc9 : (Try.prog.info? 9).map (fun i => i.zero.map (·.cells)) = some (some #[.string ByteArray.empty]) := by kernel_rfl
theorem z9 : (Try.prog.info? 9).map (·.zero) = some (some (.string ByteArray.empty)) := by kernel_rfl
theorem ty10 : Try.prog.underlying 10 = some .string := by kernel_rfl
theorem sca10 : scaB Try.prog 10 = true := by kernel_rfl
theorem zc10 : (Try.prog.info? 10).map (fun i => i.zero.map (·.cells)) = some (some #[.string ByteArray.empty]) := by kernel_rfl
theorem z10 : (Try.prog.info? 10).map (·.zero) = some (some (.string ByteArray.empty)) := by kernel_rfl
theorem ty11 : Try.prog.underlying 11 = some .string := by kernel_rfl
theorem sca11 : scaB Try.prog 11 = true := by kernel_rfl
theorem zc11 : (Try.prog.info? 11).map (fun i => i.zero.map (·.cells)) = some (some #[.string ByteArray.empty]) := by kernel_rfl
theorem z11 : (Try.prog.info? 11).map (·.zero) = some (some (.string ByteArray.empty)) := by kernel_rfl
theorem ty12 : Try.prog.underlying 12 = some (.int .u64) := by kernel_rfl
theorem is12 : (Try.prog.underlying 12).isSome = true := by kernel_rfl
theorem sca12 : scaB Try.prog 12 = true := by kernel_rfl
theorem zc12 : (Try.prog.info? 12).map (fun i => i.zero.map (·.cells)) = some (some #[.int .u64 0]) := by kernel_rfl
theorem z12 : (Try.prog.info? 12).map (·.zero) = some (some (.int .u64 0)) := by kernel_rfl
theorem zc13 : (Try.prog.info? 13).map (fun i => i.zero.map (·.cells)) = some (some #[.string ByteArray.empty, .int .u64 0]) := by kernel_rfl
theorem agg13 : aggB Try.prog 13 2 = true := by kernel_rfl
theorem plc13 : places Try.prog 13 = some [(0, 1), (1, 1)] := by kernel_rfl
theorem fld13_0 : fldB Try.prog 13 0 0 = true := by kernel_rfl
theorem fld13_1 : fldB Try.prog 13 1 1 = true := by kernel_rfl
theorem zc14 : (Try.prog.info? 14).map (fun i => i.zero.map (·.cells)) = some (some #[.string ByteArray.empty, .int .u64 0]) := by kernel_rfl
theorem agg14 : aggB Try.prog 14 2 = true := by kernel_rfl
theorem plc14 : places Try.prog 14 = some [(0, 1), (1, 1)] := by kernel_rfl
theorem fld14_0 : fldB Try.prog 14 0 0 = true := by kernel_rfl
theorem fld14_1 : fldB Try.prog 14 1 1 = true := by kernel_rfl
theorem sca15 : scaB Try.prog 15 = true := by kernel_rfl
theorem ptr15 : ptrB Try.prog 15 = true := by kernel_rfl
theorem zc15 : (Try.prog.info? 15).map (fun i => i.zero.map (·.cells)) = some (some #[.pointer none]) := by kernel_rfl
theorem z15 : (Try.prog.info? 15).map (·.zero) = some (some (.pointer none)) := by kernel_rfl
theorem sca16 : scaB Try.prog 16 = true := by kernel_rfl
theorem ptr16 : ptrB Try.prog 16 = true := by kernel_rfl
theorem zc16 : (Try.prog.info? 16).map (fun i => i.zero.map (·.cells)) = some (some #[.pointer none]) := by kernel_rfl
theorem z16 : (Try.prog.info? 16).map (·.zero) = some (some (.pointer none)) := by kernel_rfl
theorem sca17 : scaB Try.prog 17 = true := by kernel_rfl
theorem ptr17 : ptrB Try.prog 17 = true := by kernel_rfl
theorem zc17 : (Try.prog.info? 17).map (fun i => i.zero.map (·.cells)) = some (some #[.pointer none]) := by kernel_rfl
theorem z17 : (Try.prog.info? 17).map (·.zero) = some (some (.pointer none)) := by kernel_rfl
theorem zc18 : (Try.prog.info? 18).map (fun i => i.zero.map (·.cells)) = some (some #[.pointer none]) := by kernel_rfl
theorem agg18 : aggB Try.prog 18 1 = true := by kernel_rfl
theorem plc18 : places Try.prog 18 = some [(0, 1)] := by kernel_rfl
theorem fld18_0 : fldB Try.prog 18 0 0 = true := by kernel_rfl
theorem zc19 : (Try.prog.info? 19).map (fun i => i.zero.map (·.cells)) = some (some #[.pointer none]) := by kernel_rfl
theorem agg19 : aggB Try.prog 19 1 = true := by kernel_rfl
theorem plc19 : places Try.prog 19 = some [(0, 1)] := by kernel_rfl
theorem fld19_0 : fldB Try.prog 19 0 0 = true := by kernel_rfl
theorem sca20 : scaB Try.prog 20 = true := by kernel_rfl
theorem zc20 : (Try.prog.info? 20).map (fun i => i.zero.map (·.cells)) = some (some #[.nilIface]) := by kernel_rfl
theorem z20 : (Try.prog.info? 20).map (·.zero) = some (some (.nilIface)) := by kernel_rfl
theorem ty21 : Try.prog.underlying 21 = some (.int .i32) := by kernel_rfl
theorem is21 : (Try.prog.underlying 21).isSome = true := by kernel_rfl
theorem sca21 : scaB Try.prog 21 = true := by kernel_rfl
theorem zc21 : (Try.prog.info? 21).map (fun i => i.zero.map (·.cells)) = some (some #[.int .i32 0]) := by kernel_rfl
theorem z21 : (Try.prog.info? 21).map (·.zero) = some (some (.int .i32 0)) := by kernel_rfl
theorem sca22 : scaB Try.prog 22 = true := by kernel_rfl
theorem sl22 : SliceT Try.prog 22 3 1 8 := ⟨by kernel_rfl, by kernel_rfl⟩
theorem zc22 : (Try.prog.info? 22).map (fun i => i.zero.map (·.cells)) = some (some #[.slice none 0 0]) := by kernel_rfl
theorem z22 : (Try.prog.info? 22).map (·.zero) = some (some (.slice none 0 0)) := by kernel_rfl
theorem sca23 : scaB Try.prog 23 = true := by kernel_rfl
theorem sl23 : SliceT Try.prog 23 82 2 40 := ⟨by kernel_rfl, by kernel_rfl⟩
theorem zc23 : (Try.prog.info? 23).map (fun i => i.zero.map (·.cells)) = some (some #[.slice none 0 0]) := by kernel_rfl
theorem z23 : (Try.prog.info? 23).map (·.zero) = some (some (.slice none 0 0)) := by kernel_rfl
theorem sca24 : scaB Try.prog 24 = true := by kernel_rfl
theorem zc24 : (Try.prog.info? 24).map (fun i => i.zero.map (·.cells)) = some (some #[.nilFunc]) := by kernel_rfl
theorem z24 : (Try.prog.info? 24).map (·.zero) = some (some (.nilFunc)) := by kernel_rfl
theorem sca25 : scaB Try.prog 25 = true := by kernel_rfl
theorem sl25 : SliceT Try.prog 25 5 1 1 := ⟨by kernel_rfl, by kernel_rfl⟩
theorem zc25 : (Try.prog.info? 25).map (fun i => i.zero.map (·.cells)) = some (some #[.slice none 0 0]) := by kernel_rfl
theorem z25 : (Try.prog.info? 25).map (·.zero) = some (some (.slice none 0 0)) := by kernel_rfl
theorem ty26 : Try.prog.underlying 26 = some (.int .i64) := by kernel_rfl
theorem is26 : (Try.prog.underlying 26).isSome = true := by kernel_rfl
theorem sca26 : scaB Try.prog 26 = true := by kernel_rfl
theorem zc26 : (Try.prog.info? 26).map (fun i => i.zero.map (·.cells)) = some (some #[.int .i64 0]) := by kernel_rfl
theorem z26 : (Try.prog.info? 26).map (·.zero) = some (some (.int .i64 0)) := by kernel_rfl
theorem sca28 : scaB Try.prog 28 = true := by kernel_rfl
theorem zc28 : (Try.prog.info? 28).map (fun i => i.zero.map (·.cells)) = some (some #[.nilFunc]) := by kernel_rfl
theorem z28 : (Try.prog.info? 28).map (·.zero) = some (some (.nilFunc)) := by kernel_rfl
theorem sca29 : scaB Try.prog 29 = true := by kernel_rfl
theorem zc29 : (Try.prog.info? 29).map (fun i => i.zero.map (·.cells)) = some (some #[.nilFunc]) := by kernel_rfl
theorem z29 : (Try.prog.info? 29).map (·.zero) = some (some (.nilFunc)) := by kernel_rfl
theorem sca30 : scaB Try.prog 30 = true := by kernel_rfl
theorem zc30 : (Try.prog.info? 30).map (fun i => i.zero.map (·.cells)) = some (some #[.nilFunc]) := by kernel_rfl
theorem z30 : (Try.prog.info? 30).map (·.zero) = some (some (.nilFunc)) := by kernel_rfl
theorem sca31 : scaB Try.prog 31 = true := by kernel_rfl
theorem zc31 : (Try.prog.info? 31).map (fun i => i.zero.map (·.cells)) = some (some #[.nilFunc]) := by kernel_rfl
theorem z31 : (Try.prog.info? 31).map (·.zero) = some (some (.nilFunc)) := by kernel_rfl
theorem zc32 : (Try.prog.info? 32).map (fun i => i.zero.map (·.cells)) = some (some #[.int .i64 0, .int .i64 0, .int .i64 0, .int .i64 0, .int .i64 0, .int .i64 0, .int .i64 0, .int .i64 0, .int .i64 0, .int .i64 0, .string ByteArray.empty]) := by kernel_rfl
theorem agg32 : aggB Try.prog 32 11 = true := by kernel_rfl
theorem plc32 : places Try.prog 32 = some [(0, 1), (1, 1), (2, 1), (3, 1), (4, 1), (5, 1), (6, 1), (7, 1), (8, 1), (9, 1), (10, 1)] := by kernel_rfl
theorem fld32_0 : fldB Try.prog 32 0 0 = true := by kernel_rfl
theorem fld32_1 : fldB Try.prog 32 1 1 = true := by kernel_rfl
theorem fld32_2 : fldB Try.prog 32 2 2 = true := by kernel_rfl
theorem fld32_3 : fldB Try.prog 32 3 3 = true := by kernel_rfl
theorem fld32_4 : fldB Try.prog 32 4 4 = true := by kernel_rfl
theorem fld32_5 : fldB Try.prog 32 5 5 = true := by kernel_rfl
theorem fld32_6 : fldB Try.prog 32 6 6 = true := by kernel_rfl
theorem fld32_7 : fldB Try.prog 32 7 7 = true := by kernel_rfl
theorem fld32_8 : fldB Try.prog 32 8 8 = true := by kernel_rfl
theorem fld32_9 : fldB Try.prog 32 9 9 = true := by kernel_rfl
theorem fld32_10 : fldB Try.prog 32 10 10 = true := by kernel_rfl
theorem zc33 : (Try.prog.info? 33).map (fun i => i.zero.map (·.cells)) = some (some #[.int .i64 0, .int .i64 0, .int .i64 0, .int .i64 0, .int .i64 0, .int .i64 0, .int .i64 0, .int .i64 0, .int .i64 0, .int .i64 0, .string ByteArray.empty]) := by kernel_rfl
theorem agg33 : aggB Try.prog 33 11 = true := by kernel_rfl
theorem plc33 : places Try.prog 33 = some [(0, 1), (1, 1), (2, 1), (3, 1), (4, 1), (5, 1), (6, 1), (7, 1), (8, 1), (9, 1), (10, 1)] := by kernel_rfl
theorem fld33_0 : fldB Try.prog 33 0 0 = true := by kernel_rfl
theorem fld33_1 : fldB Try.prog 33 1 1 = true := by kernel_rfl
theorem fld33_2 : fldB Try.prog 33 2 2 = true := by kernel_rfl
theorem fld33_3 : fldB Try.prog 33 3 3 = true := by kernel_rfl
theorem fld33_4 : fldB Try.prog 33 4 4 = true := by kernel_rfl
theorem fld33_5 : fldB Try.prog 33 5 5 = true := by kernel_rfl
theorem fld33_6 : fldB Try.prog 33 6 6 = true := by kernel_rfl
theorem fld33_7 : fldB Try.prog 33 7 7 = true := by kernel_rfl
theorem fld33_8 : fldB Try.prog 33 8 8 = true := by kernel_rfl
theorem fld33_9 : fldB Try.prog 33 9 9 = true := by kernel_rfl
theorem fld33_10 : fldB Try.prog 33 10 10 = true := by kernel_rfl
theorem sca34 : scaB Try.prog 34 = true := by kernel_rfl
theorem zc34 : (Try.prog.info? 34).map (fun i => i.zero.map (·.cells)) = some (some #[.nilFunc]) := by kernel_rfl
theorem z34 : (Try.prog.info? 34).map (·.zero) = some (some (.nilFunc)) := by kernel_rfl
theorem sca35 : scaB Try.prog 35 = true := by kernel_rfl
theorem zc35 : (Try.prog.info? 35).map (fun i => i.zero.map (·.cells)) = some (some #[.nilFunc]) := by kernel_rfl
theorem z35 : (Try.prog.info? 35).map (·.zero) = some (some (.nilFunc)) := by kernel_rfl
theorem sca37 : scaB Try.prog 37 = true := by kernel_rfl
theorem zc37 : (Try.prog.info? 37).map (fun i => i.zero.map (·.cells)) = some (some #[.nilFunc]) := by kernel_rfl
theorem z37 : (Try.prog.info? 37).map (·.zero) = some (some (.nilFunc)) := by kernel_rfl
theorem sca38 : scaB Try.prog 38 = true := by kernel_rfl
theorem zc38 : (Try.prog.info? 38).map (fun i => i.zero.map (·.cells)) = some (some #[.nilFunc]) := by kernel_rfl
theorem z38 : (Try.prog.info? 38).map (·.zero) = some (some (.nilFunc)) := by kernel_rfl
theorem sca39 : scaB Try.prog 39 = true := by kernel_rfl
theorem sl39 : SliceT Try.prog 39 53 3 24 := ⟨by kernel_rfl, by kernel_rfl⟩
theorem zc39 : (Try.prog.info? 39).map (fun i => i.zero.map (·.cells)) = some (some #[.slice none 0 0]) := by kernel_rfl
theorem z39 : (Try.prog.info? 39).map (·.zero) = some (some (.slice none 0 0)) := by kernel_rfl
theorem ty40 : Try.prog.underlying 40 = some (.int .u32) := by kernel_rfl
theorem is40 : (Try.prog.underlying 40).isSome = true := by kernel_rfl
theorem sca40 : scaB Try.prog 40 = true := by kernel_rfl
theorem zc40 : (Try.prog.info? 40).map (fun i => i.zero.map (·.cells)) = some (some #[.int .u32 0]) := by kernel_rfl
theorem z40 : (Try.prog.info? 40).map (·.zero) = some (some (.int .u32 0)) := by kernel_rfl
theorem agg41 : aggB Try.prog 41 256 = true := by kernel_rfl
theorem agg42 : aggB Try.prog 42 256 = true := by kernel_rfl
theorem sca43 : scaB Try.prog 43 = true := by kernel_rfl
theorem zc43 : (Try.prog.info? 43).map (fun i => i.zero.map (·.cells)) = some (some #[.nilFunc]) := by kernel_rfl
theorem z43 : (Try.prog.info? 43).map (·.zero) = some (some (.nilFunc)) := by kernel_rfl
theorem sca44 : scaB Try.prog 44 = true := by kernel_rfl
theorem ptr44 : ptrB Try.prog 44 = true := by kernel_rfl
theorem zc44 : (Try.prog.info? 44).map (fun i => i.zero.map (·.cells)) = some (some #[.pointer none]) := by kernel_rfl
theorem z44 : (Try.prog.info? 44).map (·.zero) = some (some (.pointer none)) := by kernel_rfl
theorem sca45 : scaB Try.prog 45 = true := by kernel_rfl
theorem zc45 : (Try.prog.info? 45).map (fun i => i.zero.map (·.cells)) = some (some #[.nilFunc]) := by kernel_rfl
theorem z45 : (Try.prog.info? 45).map (·.zero) = some (some (.nilFunc)) := by kernel_rfl
theorem sca46 : scaB Try.prog 46 = true := by kernel_rfl
theorem ptr46 : ptrB Try.prog 46 = true := by kernel_rfl
theorem zc46 : (Try.prog.info? 46).map (fun i => i.zero.map (·.cells)) = some (some #[.pointer none]) := by kernel_rfl
theorem z46 : (Try.prog.info? 46).map (·.zero) = some (some (.pointer none)) := by kernel_rfl
theorem sca47 : scaB Try.prog 47 = true := by kernel_rfl
theorem ptr47 : ptrB Try.prog 47 = true := by kernel_rfl
theorem zc47 : (Try.prog.info? 47).map (fun i => i.zero.map (·.cells)) = some (some #[.pointer none]) := by kernel_rfl
theorem z47 : (Try.prog.info? 47).map (·.zero) = some (some (.pointer none)) := by kernel_rfl
theorem zc48 : (Try.prog.info? 48).map (fun i => i.zero.map (·.cells)) = some (some #[.slice none 0 0, .int .i64 0, .int .i64 0]) := by kernel_rfl
theorem agg48 : aggB Try.prog 48 3 = true := by kernel_rfl
theorem plc48 : places Try.prog 48 = some [(0, 1), (1, 1), (2, 1)] := by kernel_rfl
theorem fld48_0 : fldB Try.prog 48 0 0 = true := by kernel_rfl
theorem fld48_1 : fldB Try.prog 48 1 1 = true := by kernel_rfl
theorem fld48_2 : fldB Try.prog 48 2 2 = true := by kernel_rfl
theorem zc49 : (Try.prog.info? 49).map (fun i => i.zero.map (·.cells)) = some (some #[.slice none 0 0, .int .i64 0, .int .i64 0]) := by kernel_rfl
theorem agg49 : aggB Try.prog 49 3 = true := by kernel_rfl
theorem plc49 : places Try.prog 49 = some [(0, 1), (1, 1), (2, 1)] := by kernel_rfl
theorem fld49_0 : fldB Try.prog 49 0 0 = true := by kernel_rfl
theorem fld49_1 : fldB Try.prog 49 1 1 = true := by kernel_rfl
theorem fld49_2 : fldB Try.prog 49 2 2 = true := by kernel_rfl
theorem sca51 : scaB Try.prog 51 = true := by kernel_rfl
theorem zc51 : (Try.prog.info? 51).map (fun i => i.zero.map (·.cells)) = some (some #[.nilFunc]) := by kernel_rfl
theorem z51 : (Try.prog.info? 51).map (·.zero) = some (some (.nilFunc)) := by kernel_rfl
theorem zc52 : (Try.prog.info? 52).map (fun i => i.zero.map (·.cells)) = some (some #[.int .i64 0, .int .i64 0, .int .i64 0]) := by kernel_rfl
theorem agg52 : aggB Try.prog 52 3 = true := by kernel_rfl
theorem plc52 : places Try.prog 52 = some [(0, 1), (1, 1), (2, 1)] := by kernel_rfl
theorem fld52_0 : fldB Try.prog 52 0 0 = true := by kernel_rfl
theorem fld52_1 : fldB Try.prog 52 1 1 = true := by kernel_rfl
theorem fld52_2 : fldB Try.prog 52 2 2 = true := by kernel_rfl
theorem zc53 : (Try.prog.info? 53).map (fun i => i.zero.map (·.cells)) = some (some #[.int .i64 0, .int .i64 0, .int .i64 0]) := by kernel_rfl
theorem agg53 : aggB Try.prog 53 3 = true := by kernel_rfl
theorem plc53 : places Try.prog 53 = some [(0, 1), (1, 1), (2, 1)] := by kernel_rfl
theorem fld53_0 : fldB Try.prog 53 0 0 = true := by kernel_rfl
theorem fld53_1 : fldB Try.prog 53 1 1 = true := by kernel_rfl
theorem fld53_2 : fldB Try.prog 53 2 2 = true := by kernel_rfl
theorem sca54 : scaB Try.prog 54 = true := by kernel_rfl
theorem zc54 : (Try.prog.info? 54).map (fun i => i.zero.map (·.cells)) = some (some #[.nilFunc]) := by kernel_rfl
theorem z54 : (Try.prog.info? 54).map (·.zero) = some (some (.nilFunc)) := by kernel_rfl
theorem sca56 : scaB Try.prog 56 = true := by kernel_rfl
theorem zc56 : (Try.prog.info? 56).map (fun i => i.zero.map (·.cells)) = some (some #[.nilFunc]) := by kernel_rfl
theorem z56 : (Try.prog.info? 56).map (·.zero) = some (some (.nilFunc)) := by kernel_rfl
theorem sca57 : scaB Try.prog 57 = true := by kernel_rfl
theorem zc57 : (Try.prog.info? 57).map (fun i => i.zero.map (·.cells)) = some (some #[.nilFunc]) := by kernel_rfl
theorem z57 : (Try.prog.info? 57).map (·.zero) = some (some (.nilFunc)) := by kernel_rfl
theorem sca58 : scaB Try.prog 58 = true := by kernel_rfl
theorem zc58 : (Try.prog.info? 58).map (fun i => i.zero.map (·.cells)) = some (some #[.nilFunc]) := by kernel_rfl
theorem z58 : (Try.prog.info? 58).map (·.zero) = some (some (.nilFunc)) := by kernel_rfl
theorem sca59 : scaB Try.prog 59 = true := by kernel_rfl
theorem zc59 : (Try.prog.info? 59).map (fun i => i.zero.map (·.cells)) = some (some #[.nilFunc]) := by kernel_rfl
theorem z59 : (Try.prog.info? 59).map (·.zero) = some (some (.nilFunc)) := by kernel_rfl
theorem sca60 : scaB Try.prog 60 = true := by kernel_rfl
theorem zc60 : (Try.prog.info? 60).map (fun i => i.zero.map (·.cells)) = some (some #[.nilFunc]) := by kernel_rfl
theorem z60 : (Try.prog.info? 60).map (·.zero) = some (some (.nilFunc)) := by kernel_rfl
theorem sca62 : scaB Try.prog 62 = true := by kernel_rfl
theorem zc62 : (Try.prog.info? 62).map (fun i => i.zero.map (·.cells)) = some (some #[.nilFunc]) := by kernel_rfl
theorem z62 : (Try.prog.info? 62).map (·.zero) = some (some (.nilFunc)) := by kernel_rfl
theorem sca63 : scaB Try.prog 63 = true := by kernel_rfl
theorem zc63 : (Try.prog.info? 63).map (fun i => i.zero.map (·.cells)) = some (some #[.nilFunc]) := by kernel_rfl
theorem z63 : (Try.prog.info? 63).map (·.zero) = some (some (.nilFunc)) := by kernel_rfl
theorem sca64 : scaB Try.prog 64 = true := by kernel_rfl
theorem zc64 : (Try.prog.info? 64).map (fun i => i.zero.map (·.cells)) = some (some #[.nilFunc]) := by kernel_rfl
theorem z64 : (Try.prog.info? 64).map (·.zero) = some (some (.nilFunc)) := by kernel_rfl
theorem sca65 : scaB Try.prog 65 = true := by kernel_rfl
theorem sl65 : SliceT Try.prog 65 72 10 136 := ⟨by kernel_rfl, by kernel_rfl⟩
theorem zc65 : (Try.prog.info? 65).map (fun i => i.zero.map (·.cells)) = some (some #[.slice none 0 0]) := by kernel_rfl
theorem z65 : (Try.prog.info? 65).map (·.zero) = some (some (.slice none 0 0)) := by kernel_rfl
theorem sca66 : scaB Try.prog 66 = true := by kernel_rfl
theorem zc66 : (Try.prog.info? 66).map (fun i => i.zero.map (·.cells)) = some (some #[.nilFunc]) := by kernel_rfl
theorem z66 : (Try.prog.info? 66).map (·.zero) = some (some (.nilFunc)) := by kernel_rfl
theorem sca67 : scaB Try.prog 67 = true := by kernel_rfl
theorem zc67 : (Try.prog.info? 67).map (fun i => i.zero.map (·.cells)) = some (some #[.nilFunc]) := by kernel_rfl
theorem z67 : (Try.prog.info? 67).map (·.zero) = some (some (.nilFunc)) := by kernel_rfl
theorem zc68 : (Try.prog.info? 68).map (fun i => i.zero.map (·.cells)) = some (some #[.int .i64 0, .int .i64 0, .int .i64 0]) := by kernel_rfl
theorem agg68 : aggB Try.prog 68 3 = true := by kernel_rfl
theorem plc68 : places Try.prog 68 = some [(0, 1), (1, 1), (2, 1)] := by kernel_rfl
theorem fld68_0 : fldB Try.prog 68 0 0 = true := by kernel_rfl
theorem fld68_1 : fldB Try.prog 68 1 1 = true := by kernel_rfl
theorem fld68_2 : fldB Try.prog 68 2 2 = true := by kernel_rfl
theorem zc69 : (Try.prog.info? 69).map (fun i => i.zero.map (·.cells)) = some (some #[.int .i64 0, .int .i64 0, .int .i64 0]) := by kernel_rfl
theorem agg69 : aggB Try.prog 69 3 = true := by kernel_rfl
theorem plc69 : places Try.prog 69 = some [(0, 1), (1, 1), (2, 1)] := by kernel_rfl
theorem fld69_0 : fldB Try.prog 69 0 0 = true := by kernel_rfl
theorem fld69_1 : fldB Try.prog 69 1 1 = true := by kernel_rfl
theorem fld69_2 : fldB Try.prog 69 2 2 = true := by kernel_rfl
theorem sca70 : scaB Try.prog 70 = true := by kernel_rfl
theorem sl70 : SliceT Try.prog 70 9 1 16 := ⟨by kernel_rfl, by kernel_rfl⟩
theorem zc70 : (Try.prog.info? 70).map (fun i => i.zero.map (·.cells)) = some (some #[.slice none 0 0]) := by kernel_rfl
theorem z70 : (Try.prog.info? 70).map (·.zero) = some (some (.slice none 0 0)) := by kernel_rfl
theorem zc71 : (Try.prog.info? 71).map (fun i => i.zero.map (·.cells)) = some (some #[.slice none 0 0, .int .i64 0, .int .i64 0, .int .i64 0, .int .i64 0, .int .i64 0, .slice none 0 0, .string ByteArray.empty, .slice none 0 0, .bool false]) := by kernel_rfl
theorem agg71 : aggB Try.prog 71 10 = true := by kernel_rfl
theorem plc71 : places Try.prog 71 = some [(0, 1), (1, 1), (2, 1), (3, 3), (6, 1), (7, 1), (8, 1), (9, 1)] := by kernel_rfl
theorem fld71_0 : fldB Try.prog 71 0 0 = true := by kernel_rfl
theorem fld71_1 : fldB Try.prog 71 1 1 = true := by kernel_rfl
theorem fld71_2 : fldB Try.prog 71 2 2 = true := by kernel_rfl
theorem fld71_3 : fldB Try.prog 71 3 3 = true := by kernel_rfl
theorem fld71_4 : fldB Try.prog 71 4 6 = true := by kernel_rfl
theorem fld71_5 : fldB Try.prog 71 5 7 = true := by kernel_rfl
theorem fld71_6 : fldB Try.prog 71 6 8 = true := by kernel_rfl
theorem fld71_7 : fldB Try.prog 71 7 9 = true := by kernel_rfl
theorem zc72 : (Try.prog.info? 72).map (fun i => i.zero.map (·.cells)) = some (some #[.slice none 0 0, .int .i64 0, .int .i64 0, .int .i64 0, .int .i64 0, .int .i64 0, .slice none 0 0, .string ByteArray.empty, .slice none 0 0, .bool false]) := by kernel_rfl
theorem agg72 : aggB Try.prog 72 10 = true := by kernel_rfl
theorem plc72 : places Try.prog 72 = some [(0, 1), (1, 1), (2, 1), (3, 3), (6, 1), (7, 1), (8, 1), (9, 1)] := by kernel_rfl
theorem fld72_0 : fldB Try.prog 72 0 0 = true := by kernel_rfl
theorem fld72_1 : fldB Try.prog 72 1 1 = true := by kernel_rfl
theorem fld72_2 : fldB Try.prog 72 2 2 = true := by kernel_rfl
theorem fld72_3 : fldB Try.prog 72 3 3 = true := by kernel_rfl
theorem fld72_4 : fldB Try.prog 72 4 6 = true := by kernel_rfl
theorem fld72_5 : fldB Try.prog 72 5 7 = true := by kernel_rfl
theorem fld72_6 : fldB Try.prog 72 6 8 = true := by kernel_rfl
theorem fld72_7 : fldB Try.prog 72 7 9 = true := by kernel_rfl
theorem sca73 : scaB Try.prog 73 = true := by kernel_rfl
theorem sl73 : SliceT Try.prog 73 23 1 24 := ⟨by kernel_rfl, by kernel_rfl⟩
theorem zc73 : (Try.prog.info? 73).map (fun i => i.zero.map (·.cells)) = some (some #[.slice none 0 0]) := by kernel_rfl
theorem z73 : (Try.prog.info? 73).map (·.zero) = some (some (.slice none 0 0)) := by kernel_rfl
theorem sca74 : scaB Try.prog 74 = true := by kernel_rfl
theorem ptr74 : ptrB Try.prog 74 = true := by kernel_rfl
theorem zc74 : (Try.prog.info? 74).map (fun i => i.zero.map (·.cells)) = some (some #[.pointer none]) := by kernel_rfl
theorem z74 : (Try.prog.info? 74).map (·.zero) = some (some (.pointer none)) := by kernel_rfl
theorem sca75 : scaB Try.prog 75 = true := by kernel_rfl
theorem zc75 : (Try.prog.info? 75).map (fun i => i.zero.map (·.cells)) = some (some #[.nilFunc]) := by kernel_rfl
theorem z75 : (Try.prog.info? 75).map (·.zero) = some (some (.nilFunc)) := by kernel_rfl
theorem sca76 : scaB Try.prog 76 = true := by kernel_rfl
theorem zc76 : (Try.prog.info? 76).map (fun i => i.zero.map (·.cells)) = some (some #[.nilFunc]) := by kernel_rfl
theorem z76 : (Try.prog.info? 76).map (·.zero) = some (some (.nilFunc)) := by kernel_rfl
theorem sca77 : scaB Try.prog 77 = true := by kernel_rfl
theorem zc77 : (Try.prog.info? 77).map (fun i => i.zero.map (·.cells)) = some (some #[.nilFunc]) := by kernel_rfl
theorem z77 : (Try.prog.info? 77).map (·.zero) = some (some (.nilFunc)) := by kernel_rfl
theorem sca78 : scaB Try.prog 78 = true := by kernel_rfl
theorem zc78 : (Try.prog.info? 78).map (fun i => i.zero.map (·.cells)) = some (some #[.nilFunc]) := by kernel_rfl
theorem z78 : (Try.prog.info? 78).map (·.zero) = some (some (.nilFunc)) := by kernel_rfl
theorem sca79 : scaB Try.prog 79 = true := by kernel_rfl
theorem sl79 : SliceT Try.prog 79 33 11 96 := ⟨by kernel_rfl, by kernel_rfl⟩
theorem zc79 : (Try.prog.info? 79).map (fun i => i.zero.map (·.cells)) = some (some #[.slice none 0 0]) := by kernel_rfl
theorem z79 : (Try.prog.info? 79).map (·.zero) = some (some (.slice none 0 0)) := by kernel_rfl
theorem sca80 : scaB Try.prog 80 = true := by kernel_rfl
theorem zc80 : (Try.prog.info? 80).map (fun i => i.zero.map (·.cells)) = some (some #[.nilFunc]) := by kernel_rfl
theorem z80 : (Try.prog.info? 80).map (·.zero) = some (some (.nilFunc)) := by kernel_rfl
theorem zc81 : (Try.prog.info? 81).map (fun i => i.zero.map (·.cells)) = some (some #[.string ByteArray.empty, .slice none 0 0]) := by kernel_rfl
theorem agg81 : aggB Try.prog 81 2 = true := by kernel_rfl
theorem plc81 : places Try.prog 81 = some [(0, 1), (1, 1)] := by kernel_rfl
theorem fld81_0 : fldB Try.prog 81 0 0 = true := by kernel_rfl
theorem fld81_1 : fldB Try.prog 81 1 1 = true := by kernel_rfl
theorem zc82 : (Try.prog.info? 82).map (fun i => i.zero.map (·.cells)) = some (some #[.string ByteArray.empty, .slice none 0 0]) := by kernel_rfl
theorem agg82 : aggB Try.prog 82 2 = true := by kernel_rfl
theorem plc82 : places Try.prog 82 = some [(0, 1), (1, 1)] := by kernel_rfl
theorem fld82_0 : fldB Try.prog 82 0 0 = true := by kernel_rfl
theorem fld82_1 : fldB Try.prog 82 1 1 = true := by kernel_rfl
theorem sca83 : scaB Try.prog 83 = true := by kernel_rfl
theorem zc83 : (Try.prog.info? 83).map (fun i => i.zero.map (·.cells)) = some (some #[.nilFunc]) := by kernel_rfl
theorem z83 : (Try.prog.info? 83).map (·.zero) = some (some (.nilFunc)) := by kernel_rfl
theorem zc84 : (Try.prog.info? 84).map (fun i => i.zero.map (·.cells)) = some (some #[.int .i64 0]) := by kernel_rfl
theorem agg84 : aggB Try.prog 84 1 = true := by kernel_rfl
theorem plc84 : places Try.prog 84 = some [(0, 1)] := by kernel_rfl
theorem fld84_0 : fldB Try.prog 84 0 0 = true := by kernel_rfl
theorem zc85 : (Try.prog.info? 85).map (fun i => i.zero.map (·.cells)) = some (some #[.int .i64 0]) := by kernel_rfl
theorem agg85 : aggB Try.prog 85 1 = true := by kernel_rfl
theorem plc85 : places Try.prog 85 = some [(0, 1)] := by kernel_rfl
theorem fld85_0 : fldB Try.prog 85 0 0 = true := by kernel_rfl
theorem zc86 : (Try.prog.info? 86).map (fun i => i.zero.map (·.cells)) = some (some #[.int .i64 0, .slice none 0 0]) := by kernel_rfl
theorem agg86 : aggB Try.prog 86 2 = true := by kernel_rfl
theorem plc86 : places Try.prog 86 = some [(0, 1), (1, 1)] := by kernel_rfl
theorem fld86_0 : fldB Try.prog 86 0 0 = true := by kernel_rfl
theorem fld86_1 : fldB Try.prog 86 1 1 = true := by kernel_rfl
theorem zc87 : (Try.prog.info? 87).map (fun i => i.zero.map (·.cells)) = some (some #[.int .i64 0, .slice none 0 0]) := by kernel_rfl
theorem agg87 : aggB Try.prog 87 2 = true := by kernel_rfl
theorem plc87 : places Try.prog 87 = some [(0, 1), (1, 1)] := by kernel_rfl
theorem fld87_0 : fldB Try.prog 87 0 0 = true := by kernel_rfl
theorem fld87_1 : fldB Try.prog 87 1 1 = true := by kernel_rfl
theorem sca88 : scaB Try.prog 88 = true := by kernel_rfl
theorem zc88 : (Try.prog.info? 88).map (fun i => i.zero.map (·.cells)) = some (some #[.nilFunc]) := by kernel_rfl
theorem z88 : (Try.prog.info? 88).map (·.zero) = some (some (.nilFunc)) := by kernel_rfl
theorem sca89 : scaB Try.prog 89 = true := by kernel_rfl
theorem zc89 : (Try.prog.info? 89).map (fun i => i.zero.map (·.cells)) = some (some #[.nilFunc]) := by kernel_rfl
theorem z89 : (Try.prog.info? 89).map (·.zero) = some (some (.nilFunc)) := by kernel_rfl
theorem zc90 : (Try.prog.info? 90).map (fun i => i.zero.map (·.cells)) = some (some #[.slice none 0 0, .int .i64 0]) := by kernel_rfl
theorem agg90 : aggB Try.prog 90 2 = true := by kernel_rfl
theorem plc90 : places Try.prog 90 = some [(0, 1), (1, 1)] := by kernel_rfl
theorem fld90_0 : fldB Try.prog 90 0 0 = true := by kernel_rfl
theorem fld90_1 : fldB Try.prog 90 1 1 = true := by kernel_rfl
theorem zc91 : (Try.prog.info? 91).map (fun i => i.zero.map (·.cells)) = some (some #[.slice none 0 0, .int .i64 0]) := by kernel_rfl
theorem agg91 : aggB Try.prog 91 2 = true := by kernel_rfl
theorem plc91 : places Try.prog 91 = some [(0, 1), (1, 1)] := by kernel_rfl
theorem fld91_0 : fldB Try.prog 91 0 0 = true := by kernel_rfl
theorem fld91_1 : fldB Try.prog 91 1 1 = true := by kernel_rfl
theorem sca92 : scaB Try.prog 92 = true := by kernel_rfl
theorem zc92 : (Try.prog.info? 92).map (fun i => i.zero.map (·.cells)) = some (some #[.nilFunc]) := by kernel_rfl
theorem z92 : (Try.prog.info? 92).map (·.zero) = some (some (.nilFunc)) := by kernel_rfl
theorem sca93 : scaB Try.prog 93 = true := by kernel_rfl
theorem zc93 : (Try.prog.info? 93).map (fun i => i.zero.map (·.cells)) = some (some #[.nilFunc]) := by kernel_rfl
theorem z93 : (Try.prog.info? 93).map (·.zero) = some (some (.nilFunc)) := by kernel_rfl
theorem sca94 : scaB Try.prog 94 = true := by kernel_rfl
theorem sl94 : SliceT Try.prog 94 99 3 24 := ⟨by kernel_rfl, by kernel_rfl⟩
theorem zc94 : (Try.prog.info? 94).map (fun i => i.zero.map (·.cells)) = some (some #[.slice none 0 0]) := by kernel_rfl
theorem z94 : (Try.prog.info? 94).map (·.zero) = some (some (.slice none 0 0)) := by kernel_rfl
theorem sca95 : scaB Try.prog 95 = true := by kernel_rfl
theorem zc95 : (Try.prog.info? 95).map (fun i => i.zero.map (·.cells)) = some (some #[.nilFunc]) := by kernel_rfl
theorem z95 : (Try.prog.info? 95).map (·.zero) = some (some (.nilFunc)) := by kernel_rfl
theorem sca96 : scaB Try.prog 96 = true := by kernel_rfl
theorem zc96 : (Try.prog.info? 96).map (fun i => i.zero.map (·.cells)) = some (some #[.nilFunc]) := by kernel_rfl
theorem z96 : (Try.prog.info? 96).map (·.zero) = some (some (.nilFunc)) := by kernel_rfl
theorem sca97 : scaB Try.prog 97 = true := by kernel_rfl
theorem zc97 : (Try.prog.info? 97).map (fun i => i.zero.map (·.cells)) = some (some #[.nilFunc]) := by kernel_rfl
theorem z97 : (Try.prog.info? 97).map (·.zero) = some (some (.nilFunc)) := by kernel_rfl
theorem zc98 : (Try.prog.info? 98).map (fun i => i.zero.map (·.cells)) = some (some #[.nilFunc, .int .i64 0, .int .i64 0]) := by kernel_rfl
theorem agg98 : aggB Try.prog 98 3 = true := by kernel_rfl
theorem plc98 : places Try.prog 98 = some [(0, 1), (1, 1), (2, 1)] := by kernel_rfl
theorem fld98_0 : fldB Try.prog 98 0 0 = true := by kernel_rfl
theorem fld98_1 : fldB Try.prog 98 1 1 = true := by kernel_rfl
theorem fld98_2 : fldB Try.prog 98 2 2 = true := by kernel_rfl
theorem zc99 : (Try.prog.info? 99).map (fun i => i.zero.map (·.cells)) = some (some #[.nilFunc, .int .i64 0, .int .i64 0]) := by kernel_rfl
theorem agg99 : aggB Try.prog 99 3 = true := by kernel_rfl
theorem plc99 : places Try.prog 99 = some [(0, 1), (1, 1), (2, 1)] := by kernel_rfl
theorem fld99_0 : fldB Try.prog 99 0 0 = true := by kernel_rfl
theorem fld99_1 : fldB Try.prog 99 1 1 = true := by kernel_rfl
theorem fld99_2 : fldB Try.prog 99 2 2 = true := by kernel_rfl
theorem sca100 : scaB Try.prog 100 = true := by kernel_rfl
theorem ptr100 : ptrB Try.prog 100 = true := by kernel_rfl
theorem zc100 : (Try.prog.info? 100).map (fun i => i.zero.map (·.cells)) = some (some #[.pointer none]) := by kernel_rfl
theorem z100 : (Try.prog.info? 100).map (·.zero) = some (some (.pointer none)) := by kernel_rfl
theorem sca101 : scaB Try.prog 101 = true := by kernel_rfl
theorem ptr101 : ptrB Try.prog 101 = true := by kernel_rfl
theorem zc101 : (Try.prog.info? 101).map (fun i => i.zero.map (·.cells)) = some (some #[.pointer none]) := by kernel_rfl
theorem z101 : (Try.prog.info? 101).map (·.zero) = some (some (.pointer none)) := by kernel_rfl
theorem sca102 : scaB Try.prog 102 = true := by kernel_rfl
theorem ptr102 : ptrB Try.prog 102 = true := by kernel_rfl
theorem zc102 : (Try.prog.info? 102).map (fun i => i.zero.map (·.cells)) = some (some #[.pointer none]) := by kernel_rfl
theorem z102 : (Try.prog.info? 102).map (·.zero) = some (some (.pointer none)) := by kernel_rfl
theorem sca103 : scaB Try.prog 103 = true := by kernel_rfl
theorem zc103 : (Try.prog.info? 103).map (fun i => i.zero.map (·.cells)) = some (some #[.nilFunc]) := by kernel_rfl
theorem z103 : (Try.prog.info? 103).map (·.zero) = some (some (.nilFunc)) := by kernel_rfl
theorem sca104 : scaB Try.prog 104 = true := by kernel_rfl
theorem zc104 : (Try.prog.info? 104).map (fun i => i.zero.map (·.cells)) = some (some #[.nilFunc]) := by kernel_rfl
theorem z104 : (Try.prog.info? 104).map (·.zero) = some (some (.nilFunc)) := by kernel_rfl
theorem sca105 : scaB Try.prog 105 = true := by kernel_rfl
theorem zc105 : (Try.prog.info? 105).map (fun i => i.zero.map (·.cells)) = some (some #[.nilFunc]) := by kernel_rfl
theorem z105 : (Try.prog.info? 105).map (·.zero) = some (some (.nilFunc)) := by kernel_rfl
theorem zc106 : (Try.prog.info? 106).map (fun i => i.zero.map (·.cells)) = some (some #[.slice none 0 0, .int .i64 0]) := by kernel_rfl
theorem agg106 : aggB Try.prog 106 2 = true := by kernel_rfl
theorem plc106 : places Try.prog 106 = some [(0, 1), (1, 1)] := by kernel_rfl
theorem fld106_0 : fldB Try.prog 106 0 0 = true := by kernel_rfl
theorem fld106_1 : fldB Try.prog 106 1 1 = true := by kernel_rfl
theorem ty107 : Try.prog.underlying 107 = some (.int .u64) := by kernel_rfl
theorem is107 : (Try.prog.underlying 107).isSome = true := by kernel_rfl
theorem sca107 : scaB Try.prog 107 = true := by kernel_rfl
theorem zc107 : (Try.prog.info? 107).map (fun i => i.zero.map (·.cells)) = some (some #[.int .u64 0]) := by kernel_rfl
theorem z107 : (Try.prog.info? 107).map (·.zero) = some (some (.int .u64 0)) := by kernel_rfl
theorem sca108 : scaB Try.prog 108 = true := by kernel_rfl
theorem zc108 : (Try.prog.info? 108).map (fun i => i.zero.map (·.cells)) = some (some #[.nilFunc]) := by kernel_rfl
theorem z108 : (Try.prog.info? 108).map (·.zero) = some (some (.nilFunc)) := by kernel_rfl
theorem sca109 : scaB Try.prog 109 = true := by kernel_rfl
theorem zc109 : (Try.prog.info? 109).map (fun i => i.zero.map (·.cells)) = some (some #[.map none]) := by kernel_rfl
theorem z109 : (Try.prog.info? 109).map (·.zero) = some (some (.map none)) := by kernel_rfl
theorem zc110 : (Try.prog.info? 110).map (fun i => i.zero.map (·.cells)) = some (some #[.pointer none, .slice none 0 0, .int .i64 0, .int .i64 0, .map none]) := by kernel_rfl
theorem agg110 : aggB Try.prog 110 5 = true := by kernel_rfl
theorem plc110 : places Try.prog 110 = some [(0, 1), (1, 1), (2, 1), (3, 1), (4, 1)] := by kernel_rfl
theorem fld110_0 : fldB Try.prog 110 0 0 = true := by kernel_rfl
theorem fld110_1 : fldB Try.prog 110 1 1 = true := by kernel_rfl
theorem fld110_2 : fldB Try.prog 110 2 2 = true := by kernel_rfl
theorem fld110_3 : fldB Try.prog 110 3 3 = true := by kernel_rfl
theorem fld110_4 : fldB Try.prog 110 4 4 = true := by kernel_rfl
theorem zc111 : (Try.prog.info? 111).map (fun i => i.zero.map (·.cells)) = some (some #[.pointer none, .slice none 0 0, .int .i64 0, .int .i64 0, .map none]) := by kernel_rfl
theorem agg111 : aggB Try.prog 111 5 = true := by kernel_rfl
theorem plc111 : places Try.prog 111 = some [(0, 1), (1, 1), (2, 1), (3, 1), (4, 1)] := by kernel_rfl
theorem fld111_0 : fldB Try.prog 111 0 0 = true := by kernel_rfl
theorem fld111_1 : fldB Try.prog 111 1 1 = true := by kernel_rfl
theorem fld111_2 : fldB Try.prog 111 2 2 = true := by kernel_rfl
theorem fld111_3 : fldB Try.prog 111 3 3 = true := by kernel_rfl
theorem fld111_4 : fldB Try.prog 111 4 4 = true := by kernel_rfl
theorem sca113 : scaB Try.prog 113 = true := by kernel_rfl
theorem zc113 : (Try.prog.info? 113).map (fun i => i.zero.map (·.cells)) = some (some #[.nilFunc]) := by kernel_rfl
theorem z113 : (Try.prog.info? 113).map (·.zero) = some (some (.nilFunc)) := by kernel_rfl
theorem sca114 : scaB Try.prog 114 = true := by kernel_rfl
theorem sl114 : SliceT Try.prog 114 25 1 24 := ⟨by kernel_rfl, by kernel_rfl⟩
theorem zc114 : (Try.prog.info? 114).map (fun i => i.zero.map (·.cells)) = some (some #[.slice none 0 0]) := by kernel_rfl
theorem z114 : (Try.prog.info? 114).map (·.zero) = some (some (.slice none 0 0)) := by kernel_rfl
theorem sca116 : scaB Try.prog 116 = true := by kernel_rfl
theorem zc116 : (Try.prog.info? 116).map (fun i => i.zero.map (·.cells)) = some (some #[.nilFunc]) := by kernel_rfl
theorem z116 : (Try.prog.info? 116).map (·.zero) = some (some (.nilFunc)) := by kernel_rfl
theorem sca117 : scaB Try.prog 117 = true := by kernel_rfl
theorem zc117 : (Try.prog.info? 117).map (fun i => i.zero.map (·.cells)) = some (some #[.nilFunc]) := by kernel_rfl
theorem z117 : (Try.prog.info? 117).map (·.zero) = some (some (.nilFunc)) := by kernel_rfl
theorem sca118 : scaB Try.prog 118 = true := by kernel_rfl
theorem zc118 : (Try.prog.info? 118).map (fun i => i.zero.map (·.cells)) = some (some #[.nilFunc]) := by kernel_rfl
theorem z118 : (Try.prog.info? 118).map (·.zero) = some (some (.nilFunc)) := by kernel_rfl
theorem sca119 : scaB Try.prog 119 = true := by kernel_rfl
theorem zc119 : (Try.prog.info? 119).map (fun i => i.zero.map (·.cells)) = some (some #[.nilFunc]) := by kernel_rfl
theorem z119 : (Try.prog.info? 119).map (·.zero) = some (some (.nilFunc)) := by kernel_rfl
theorem sca121 : scaB Try.prog 121 = true := by kernel_rfl
theorem zc121 : (Try.prog.info? 121).map (fun i => i.zero.map (·.cells)) = some (some #[.nilFunc]) := by kernel_rfl
theorem z121 : (Try.prog.info? 121).map (·.zero) = some (some (.nilFunc)) := by kernel_rfl
theorem sca122 : scaB Try.prog 122 = true := by kernel_rfl
theorem zc122 : (Try.prog.info? 122).map (fun i => i.zero.map (·.cells)) = some (some #[.map none]) := by kernel_rfl
theorem z122 : (Try.prog.info? 122).map (·.zero) = some (some (.map none)) := by kernel_rfl
theorem sca123 : scaB Try.prog 123 = true := by kernel_rfl
theorem zc123 : (Try.prog.info? 123).map (fun i => i.zero.map (·.cells)) = some (some #[.nilFunc]) := by kernel_rfl
theorem z123 : (Try.prog.info? 123).map (·.zero) = some (some (.nilFunc)) := by kernel_rfl
theorem sca124 : scaB Try.prog 124 = true := by kernel_rfl
theorem zc124 : (Try.prog.info? 124).map (fun i => i.zero.map (·.cells)) = some (some #[.nilFunc]) := by kernel_rfl
theorem z124 : (Try.prog.info? 124).map (·.zero) = some (some (.nilFunc)) := by kernel_rfl
theorem sca125 : scaB Try.prog 125 = true := by kernel_rfl
theorem zc125 : (Try.prog.info? 125).map (fun i => i.zero.map (·.cells)) = some (some #[.nilFunc]) := by kernel_rfl
theorem z125 : (Try.prog.info? 125).map (·.zero) = some (some (.nilFunc)) := by kernel_rfl
theorem sca126 : scaB Try.prog 126 = true := by kernel_rfl
theorem zc126 : (Try.prog.info? 126).map (fun i => i.zero.map (·.cells)) = some (some #[.nilFunc]) := by kernel_rfl
theorem z126 : (Try.prog.info? 126).map (·.zero) = some (some (.nilFunc)) := by kernel_rfl
theorem sca127 : scaB Try.prog 127 = true := by kernel_rfl
theorem zc127 : (Try.prog.info? 127).map (fun i => i.zero.map (·.cells)) = some (some #[.nilFunc]) := by kernel_rfl
theorem z127 : (Try.prog.info? 127).map (·.zero) = some (some (.nilFunc)) := by kernel_rfl
theorem zc128 : (Try.prog.info? 128).map (fun i => i.zero.map (·.cells)) = some (some #[.pointer none, .slice none 0 0, .slice none 0 0]) := by kernel_rfl
theorem agg128 : aggB Try.prog 128 3 = true := by kernel_rfl
theorem plc128 : places Try.prog 128 = some [(0, 1), (1, 1), (2, 1)] := by kernel_rfl
theorem fld128_0 : fldB Try.prog 128 0 0 = true := by kernel_rfl
theorem fld128_1 : fldB Try.prog 128 1 1 = true := by kernel_rfl
theorem fld128_2 : fldB Try.prog 128 2 2 = true := by kernel_rfl
theorem zc129 : (Try.prog.info? 129).map (fun i => i.zero.map (·.cells)) = some (some #[.pointer none, .slice none 0 0, .slice none 0 0]) := by kernel_rfl
theorem agg129 : aggB Try.prog 129 3 = true := by kernel_rfl
theorem plc129 : places Try.prog 129 = some [(0, 1), (1, 1), (2, 1)] := by kernel_rfl
theorem fld129_0 : fldB Try.prog 129 0 0 = true := by kernel_rfl
theorem fld129_1 : fldB Try.prog 129 1 1 = true := by kernel_rfl
theorem fld129_2 : fldB Try.prog 129 2 2 = true := by kernel_rfl
theorem sca130 : scaB Try.prog 130 = true := by kernel_rfl
theorem zc130 : (Try.prog.info? 130).map (fun i => i.zero.map (·.cells)) = some (some #[.nilFunc]) := by kernel_rfl
theorem z130 : (Try.prog.info? 130).map (·.zero) = some (some (.nilFunc)) := by kernel_rfl
theorem sca131 : scaB Try.prog 131 = true := by kernel_rfl
theorem zc131 : (Try.prog.info? 131).map (fun i => i.zero.map (·.cells)) = some (some #[.nilFunc]) := by kernel_rfl
theorem z131 : (Try.prog.info? 131).map (·.zero) = some (some (.nilFunc)) := by kernel_rfl
theorem sca132 : scaB Try.prog 132 = true := by kernel_rfl
theorem ptr132 : ptrB Try.prog 132 = true := by kernel_rfl
theorem zc132 : (Try.prog.info? 132).map (fun i => i.zero.map (·.cells)) = some (some #[.pointer none]) := by kernel_rfl
theorem z132 : (Try.prog.info? 132).map (·.zero) = some (some (.pointer none)) := by kernel_rfl
theorem sca133 : scaB Try.prog 133 = true := by kernel_rfl
theorem zc133 : (Try.prog.info? 133).map (fun i => i.zero.map (·.cells)) = some (some #[.nilFunc]) := by kernel_rfl
theorem z133 : (Try.prog.info? 133).map (·.zero) = some (some (.nilFunc)) := by kernel_rfl
theorem sca134 : scaB Try.prog 134 = true := by kernel_rfl
theorem ptr134 : ptrB Try.prog 134 = true := by kernel_rfl
theorem zc134 : (Try.prog.info? 134).map (fun i => i.zero.map (·.cells)) = some (some #[.pointer none]) := by kernel_rfl
theorem z134 : (Try.prog.info? 134).map (·.zero) = some (some (.pointer none)) := by kernel_rfl
theorem sca135 : scaB Try.prog 135 = true := by kernel_rfl
theorem ptr135 : ptrB Try.prog 135 = true := by kernel_rfl
theorem zc135 : (Try.prog.info? 135).map (fun i => i.zero.map (·.cells)) = some (some #[.pointer none]) := by kernel_rfl
theorem z135 : (Try.prog.info? 135).map (·.zero) = some (some (.pointer none)) := by kernel_rfl
theorem sca136 : scaB Try.prog 136 = true := by kernel_rfl
theorem zc136 : (Try.prog.info? 136).map (fun i => i.zero.map (·.cells)) = some (some #[.nilFunc]) := by kernel_rfl
theorem z136 : (Try.prog.info? 136).map (·.zero) = some (some (.nilFunc)) := by kernel_rfl
theorem sca137 : scaB Try.prog 137 = true := by kernel_rfl
theorem zc137 : (Try.prog.info? 137).map (fun i => i.zero.map (·.cells)) = some (some #[.nilFunc]) := by kernel_rfl
theorem z137 : (Try.prog.info? 137).map (·.zero) = some (some (.nilFunc)) := by kernel_rfl
theorem zc138 : (Try.prog.info? 138).map (fun i => i.zero.map (·.cells)) = some (some #[.int .i64 0, .slice none 0 0]) := by kernel_rfl
theorem agg138 : aggB Try.prog 138 2 = true := by kernel_rfl
theorem plc138 : places Try.prog 138 = some [(0, 1), (1, 1)] := by kernel_rfl
theorem fld138_0 : fldB Try.prog 138 0 0 = true := by kernel_rfl
theorem fld138_1 : fldB Try.prog 138 1 1 = true := by kernel_rfl
theorem sca139 : scaB Try.prog 139 = true := by kernel_rfl
theorem zc139 : (Try.prog.info? 139).map (fun i => i.zero.map (·.cells)) = some (some #[.nilFunc]) := by kernel_rfl
theorem z139 : (Try.prog.info? 139).map (·.zero) = some (some (.nilFunc)) := by kernel_rfl
theorem sca140 : scaB Try.prog 140 = true := by kernel_rfl
theorem ptr140 : ptrB Try.prog 140 = true := by kernel_rfl
theorem zc140 : (Try.prog.info? 140).map (fun i => i.zero.map (·.cells)) = some (some #[.pointer none]) := by kernel_rfl
theorem z140 : (Try.prog.info? 140).map (·.zero) = some (some (.pointer none)) := by kernel_rfl
theorem zc141 : (Try.prog.info? 141).map (fun i => i.zero.map (·.cells)) = some (some #[.slice none 0 0, .int .i64 0]) := by kernel_rfl
theorem agg141 : aggB Try.prog 141 2 = true := by kernel_rfl
theorem plc141 : places Try.prog 141 = some [(0, 1), (1, 1)] := by kernel_rfl
theorem fld141_0 : fldB Try.prog 141 0 0 = true := by kernel_rfl
theorem fld141_1 : fldB Try.prog 141 1 1 = true := by kernel_rfl
theorem zc142 : (Try.prog.info? 142).map (fun i => i.zero.map (·.cells)) = some (some #[.slice none 0 0, .int .i64 0]) := by kernel_rfl
theorem agg142 : aggB Try.prog 142 2 = true := by kernel_rfl
theorem plc142 : places Try.prog 142 = some [(0, 1), (1, 1)] := by kernel_rfl
theorem fld142_0 : fldB Try.prog 142 0 0 = true := by kernel_rfl
theorem fld142_1 : fldB Try.prog 142 1 1 = true := by kernel_rfl
theorem sca144 : scaB Try.prog 144 = true := by kernel_rfl
theorem zc144 : (Try.prog.info? 144).map (fun i => i.zero.map (·.cells)) = some (some #[.nilFunc]) := by kernel_rfl
theorem z144 : (Try.prog.info? 144).map (·.zero) = some (some (.nilFunc)) := by kernel_rfl
theorem sca145 : scaB Try.prog 145 = true := by kernel_rfl
theorem zc145 : (Try.prog.info? 145).map (fun i => i.zero.map (·.cells)) = some (some #[.nilFunc]) := by kernel_rfl
theorem z145 : (Try.prog.info? 145).map (·.zero) = some (some (.nilFunc)) := by kernel_rfl
theorem sca146 : scaB Try.prog 146 = true := by kernel_rfl
theorem zc146 : (Try.prog.info? 146).map (fun i => i.zero.map (·.cells)) = some (some #[.nilFunc]) := by kernel_rfl
theorem z146 : (Try.prog.info? 146).map (·.zero) = some (some (.nilFunc)) := by kernel_rfl
theorem sca147 : scaB Try.prog 147 = true := by kernel_rfl
theorem zc147 : (Try.prog.info? 147).map (fun i => i.zero.map (·.cells)) = some (some #[.nilFunc]) := by kernel_rfl
theorem z147 : (Try.prog.info? 147).map (·.zero) = some (some (.nilFunc)) := by kernel_rfl
theorem zc148 : (Try.prog.info? 148).map (fun i => i.zero.map (·.cells)) = some (some #[.int .u8 0, .int .u8 0, .int .u8 0]) := by kernel_rfl
theorem agg148 : aggB Try.prog 148 3 = true := by kernel_rfl
theorem zc149 : (Try.prog.info? 149).map (fun i => i.zero.map (·.cells)) = some (some #[.int .u8 0, .int .u8 0, .int .u8 0]) := by kernel_rfl
theorem agg149 : aggB Try.prog 149 3 = true := by kernel_rfl
theorem sca150 : scaB Try.prog 150 = true := by kernel_rfl
theorem zc150 : (Try.prog.info? 150).map (fun i => i.zero.map (·.cells)) = some (some #[.nilFunc]) := by kernel_rfl
theorem z150 : (Try.prog.info? 150).map (·.zero) = some (some (.nilFunc)) := by kernel_rfl
theorem sca151 : scaB Try.prog 151 = true := by kernel_rfl
theorem zc151 : (Try.prog.info? 151).map (fun i => i.zero.map (·.cells)) = some (some #[.nilFunc]) := by kernel_rfl
theorem z151 : (Try.prog.info? 151).map (·.zero) = some (some (.nilFunc)) := by kernel_rfl
theorem sca152 : scaB Try.prog 152 = true := by kernel_rfl
theorem zc152 : (Try.prog.info? 152).map (fun i => i.zero.map (·.cells)) = some (some #[.nilFunc]) := by kernel_rfl
theorem z152 : (Try.prog.info? 152).map (·.zero) = some (some (.nilFunc)) := by kernel_rfl
theorem sca153 : scaB Try.prog 153 = true := by kernel_rfl
theorem zc153 : (Try.prog.info? 153).map (fun i => i.zero.map (·.cells)) = some (some #[.nilFunc]) := by kernel_rfl
theorem z153 : (Try.prog.info? 153).map (·.zero) = some (some (.nilFunc)) := by kernel_rfl
theorem sca154 : scaB Try.prog 154 = true := by kernel_rfl
theorem zc154 : (Try.prog.info? 154).map (fun i => i.zero.map (·.cells)) = some (some #[.nilFunc]) := by kernel_rfl
theorem z154 : (Try.prog.info? 154).map (·.zero) = some (some (.nilFunc)) := by kernel_rfl
theorem sca155 : scaB Try.prog 155 = true := by kernel_rfl
theorem zc155 : (Try.prog.info? 155).map (fun i => i.zero.map (·.cells)) = some (some #[.nilFunc]) := by kernel_rfl
theorem z155 : (Try.prog.info? 155).map (·.zero) = some (some (.nilFunc)) := by kernel_rfl
theorem sca156 : scaB Try.prog 156 = true := by kernel_rfl
theorem zc156 : (Try.prog.info? 156).map (fun i => i.zero.map (·.cells)) = some (some #[.nilFunc]) := by kernel_rfl
theorem z156 : (Try.prog.info? 156).map (·.zero) = some (some (.nilFunc)) := by kernel_rfl
theorem sca157 : scaB Try.prog 157 = true := by kernel_rfl
theorem zc157 : (Try.prog.info? 157).map (fun i => i.zero.map (·.cells)) = some (some #[.nilFunc]) := by kernel_rfl
theorem z157 : (Try.prog.info? 157).map (·.zero) = some (some (.nilFunc)) := by kernel_rfl
theorem sca158 : scaB Try.prog 158 = true := by kernel_rfl
theorem zc158 : (Try.prog.info? 158).map (fun i => i.zero.map (·.cells)) = some (some #[.nilFunc]) := by kernel_rfl
theorem z158 : (Try.prog.info? 158).map (·.zero) = some (some (.nilFunc)) := by kernel_rfl
theorem sca159 : scaB Try.prog 159 = true := by kernel_rfl
theorem zc159 : (Try.prog.info? 159).map (fun i => i.zero.map (·.cells)) = some (some #[.nilFunc]) := by kernel_rfl
theorem z159 : (Try.prog.info? 159).map (·.zero) = some (some (.nilFunc)) := by kernel_rfl
theorem sca160 : scaB Try.prog 160 = true := by kernel_rfl
theorem zc160 : (Try.prog.info? 160).map (fun i => i.zero.map (·.cells)) = some (some #[.nilFunc]) := by kernel_rfl
theorem z160 : (Try.prog.info? 160).map (·.zero) = some (some (.nilFunc)) := by kernel_rfl
theorem sca161 : scaB Try.prog 161 = true := by kernel_rfl
theorem zc161 : (Try.prog.info? 161).map (fun i => i.zero.map (·.cells)) = some (some #[.map none]) := by kernel_rfl
theorem z161 : (Try.prog.info? 161).map (·.zero) = some (some (.map none)) := by kernel_rfl
theorem sca162 : scaB Try.prog 162 = true := by kernel_rfl
theorem zc162 : (Try.prog.info? 162).map (fun i => i.zero.map (·.cells)) = some (some #[.map none]) := by kernel_rfl
theorem z162 : (Try.prog.info? 162).map (·.zero) = some (some (.map none)) := by kernel_rfl
theorem sca164 : scaB Try.prog 164 = true := by kernel_rfl
theorem zc164 : (Try.prog.info? 164).map (fun i => i.zero.map (·.cells)) = some (some #[.nilFunc]) := by kernel_rfl
theorem z164 : (Try.prog.info? 164).map (·.zero) = some (some (.nilFunc)) := by kernel_rfl
theorem sca165 : scaB Try.prog 165 = true := by kernel_rfl
theorem zc165 : (Try.prog.info? 165).map (fun i => i.zero.map (·.cells)) = some (some #[.nilFunc]) := by kernel_rfl
theorem z165 : (Try.prog.info? 165).map (·.zero) = some (some (.nilFunc)) := by kernel_rfl
theorem sca166 : scaB Try.prog 166 = true := by kernel_rfl
theorem zc166 : (Try.prog.info? 166).map (fun i => i.zero.map (·.cells)) = some (some #[.nilFunc]) := by kernel_rfl
theorem z166 : (Try.prog.info? 166).map (·.zero) = some (some (.nilFunc)) := by kernel_rfl
theorem zc167 : (Try.prog.info? 167).map (fun i => i.zero.map (·.cells)) = some (some #[.slice none 0 0, .int .u32 0, .bool false, .int .i64 0]) := by kernel_rfl
theorem agg167 : aggB Try.prog 167 4 = true := by kernel_rfl
theorem plc167 : places Try.prog 167 = some [(0, 1), (1, 1), (2, 1), (3, 1)] := by kernel_rfl
theorem fld167_0 : fldB Try.prog 167 0 0 = true := by kernel_rfl
theorem fld167_1 : fldB Try.prog 167 1 1 = true := by kernel_rfl
theorem fld167_2 : fldB Try.prog 167 2 2 = true := by kernel_rfl
theorem fld167_3 : fldB Try.prog 167 3 3 = true := by kernel_rfl
theorem zc168 : (Try.prog.info? 168).map (fun i => i.zero.map (·.cells)) = some (some #[.slice none 0 0, .int .u32 0, .bool false, .int .i64 0]) := by kernel_rfl
theorem agg168 : aggB Try.prog 168 4 = true := by kernel_rfl
theorem plc168 : places Try.prog 168 = some [(0, 1), (1, 1), (2, 1), (3, 1)] := by kernel_rfl
theorem fld168_0 : fldB Try.prog 168 0 0 = true := by kernel_rfl
theorem fld168_1 : fldB Try.prog 168 1 1 = true := by kernel_rfl
theorem fld168_2 : fldB Try.prog 168 2 2 = true := by kernel_rfl
theorem fld168_3 : fldB Try.prog 168 3 3 = true := by kernel_rfl
theorem sca170 : scaB Try.prog 170 = true := by kernel_rfl
theorem zc170 : (Try.prog.info? 170).map (fun i => i.zero.map (·.cells)) = some (some #[.nilFunc]) := by kernel_rfl
theorem z170 : (Try.prog.info? 170).map (·.zero) = some (some (.nilFunc)) := by kernel_rfl
theorem sca172 : scaB Try.prog 172 = true := by kernel_rfl
theorem zc172 : (Try.prog.info? 172).map (fun i => i.zero.map (·.cells)) = some (some #[.nilFunc]) := by kernel_rfl
theorem z172 : (Try.prog.info? 172).map (·.zero) = some (some (.nilFunc)) := by kernel_rfl
theorem sca173 : scaB Try.prog 173 = true := by kernel_rfl
theorem zc173 : (Try.prog.info? 173).map (fun i => i.zero.map (·.cells)) = some (some #[.nilFunc]) := by kernel_rfl
theorem z173 : (Try.prog.info? 173).map (·.zero) = some (some (.nilFunc)) := by kernel_rfl
theorem ty174 : Try.prog.underlying 174 = some (.int .i64) := by kernel_rfl
theorem is174 : (Try.prog.underlying 174).isSome = true := by kernel_rfl
theorem sca174 : scaB Try.prog 174 = true := by kernel_rfl
theorem zc174 : (Try.prog.info? 174).map (fun i => i.zero.map (·.cells)) = some (some #[.int .i64 0]) := by kernel_rfl
theorem z174 : (Try.prog.info? 174).map (·.zero) = some (some (.int .i64 0)) := by kernel_rfl
theorem sca176 : scaB Try.prog 176 = true := by kernel_rfl
theorem zc176 : (Try.prog.info? 176).map (fun i => i.zero.map (·.cells)) = some (some #[.nilFunc]) := by kernel_rfl
theorem z176 : (Try.prog.info? 176).map (·.zero) = some (some (.nilFunc)) := by kernel_rfl
theorem sca177 : scaB Try.prog 177 = true := by kernel_rfl
theorem zc177 : (Try.prog.info? 177).map (fun i => i.zero.map (·.cells)) = some (some #[.nilFunc]) := by kernel_rfl
theorem z177 : (Try.prog.info? 177).map (·.zero) = some (some (.nilFunc)) := by kernel_rfl
theorem sca178 : scaB Try.prog 178 = true := by kernel_rfl
theorem zc178 : (Try.prog.info? 178).map (fun i => i.zero.map (·.cells)) = some (some #[.nilFunc]) := by kernel_rfl
theorem z178 : (Try.prog.info? 178).map (·.zero) = some (some (.nilFunc)) := by kernel_rfl
theorem sca179 : scaB Try.prog 179 = true := by kernel_rfl
theorem zc179 : (Try.prog.info? 179).map (fun i => i.zero.map (·.cells)) = some (some #[.nilFunc]) := by kernel_rfl
theorem z179 : (Try.prog.info? 179).map (·.zero) = some (some (.nilFunc)) := by kernel_rfl
theorem sca181 : scaB Try.prog 181 = true := by kernel_rfl
theorem zc181 : (Try.prog.info? 181).map (fun i => i.zero.map (·.cells)) = some (some #[.nilFunc]) := by kernel_rfl
theorem z181 : (Try.prog.info? 181).map (·.zero) = some (some (.nilFunc)) := by kernel_rfl
theorem sca182 : scaB Try.prog 182 = true := by kernel_rfl
theorem zc182 : (Try.prog.info? 182).map (fun i => i.zero.map (·.cells)) = some (some #[.nilFunc]) := by kernel_rfl
theorem z182 : (Try.prog.info? 182).map (·.zero) = some (some (.nilFunc)) := by kernel_rfl
theorem sca183 : scaB Try.prog 183 = true := by kernel_rfl
theorem zc183 : (Try.prog.info? 183).map (fun i => i.zero.map (·.cells)) = some (some #[.nilFunc]) := by kernel_rfl
theorem z183 : (Try.prog.info? 183).map (·.zero) = some (some (.nilFunc)) := by kernel_rfl
theorem ty184 : Try.prog.underlying 184 = some (.int .u64) := by kernel_rfl
theorem is184 : (Try.prog.underlying 184).isSome = true := by kernel_rfl
theorem sca184 : scaB Try.prog 184 = true := by kernel_rfl
theorem zc184 : (Try.prog.info? 184).map (fun i => i.zero.map (·.cells)) = some (some #[.int .u64 0]) := by kernel_rfl
theorem z184 : (Try.prog.info? 184).map (·.zero) = some (some (.int .u64 0)) := by kernel_rfl
theorem zc185 : (Try.prog.info? 185).map (fun i => i.zero.map (·.cells)) = some (some #[.int .u8 0, .int .u8 0, .int .u8 0]) := by kernel_rfl
theorem agg185 : aggB Try.prog 185 3 = true := by kernel_rfl
theorem sca186 : scaB Try.prog 186 = true := by kernel_rfl
theorem zc186 : (Try.prog.info? 186).map (fun i => i.zero.map (·.cells)) = some (some #[.nilFunc]) := by kernel_rfl
theorem z186 : (Try.prog.info? 186).map (·.zero) = some (some (.nilFunc)) := by kernel_rfl
theorem sca187 : scaB Try.prog 187 = true := by kernel_rfl
theorem zc187 : (Try.prog.info? 187).map (fun i => i.zero.map (·.cells)) = some (some #[.nilFunc]) := by kernel_rfl
theorem z187 : (Try.prog.info? 187).map (·.zero) = some (some (.nilFunc)) := by kernel_rfl
theorem ty188 : Try.prog.underlying 188 = some (.int .u64) := by kernel_rfl
theorem is188 : (Try.prog.underlying 188).isSome = true := by kernel_rfl
theorem sca188 : scaB Try.prog 188 = true := by kernel_rfl
theorem zc188 : (Try.prog.info? 188).map (fun i => i.zero.map (·.cells)) = some (some #[.int .u64 0]) := by kernel_rfl
theorem z188 : (Try.prog.info? 188).map (·.zero) = some (some (.int .u64 0)) := by kernel_rfl
theorem sca189 : scaB Try.prog 189 = true := by kernel_rfl
theorem zc189 : (Try.prog.info? 189).map (fun i => i.zero.map (·.cells)) = some (some #[.nilFunc]) := by kernel_rfl
theorem z189 : (Try.prog.info? 189).map (·.zero) = some (some (.nilFunc)) := by kernel_rfl
theorem sca190 : scaB Try.prog 190 = true := by kernel_rfl
theorem zc190 : (Try.prog.info? 190).map (fun i => i.zero.map (·.cells)) = some (some #[.nilFunc]) := by kernel_rfl
theorem z190 : (Try.prog.info? 190).map (·.zero) = some (some (.nilFunc)) := by kernel_rfl
theorem sca191 : scaB Try.prog 191 = true := by kernel_rfl
theorem zc191 : (Try.prog.info? 191).map (fun i => i.zero.map (·.cells)) = some (some #[.nilFunc]) := by kernel_rfl
theorem z191 : (Try.prog.info? 191).map (·.zero) = some (some (.nilFunc)) := by kernel_rfl
theorem sca192 : scaB Try.prog 192 = true := by kernel_rfl
theorem zc192 : (Try.prog.info? 192).map (fun i => i.zero.map (·.cells)) = some (some #[.nilFunc]) := by kernel_rfl
theorem z192 : (Try.prog.info? 192).map (·.zero) = some (some (.nilFunc)) := by kernel_rfl
theorem sca193 : scaB Try.prog 193 = true := by kernel_rfl
theorem ptr193 : ptrB Try.prog 193 = true := by kernel_rfl
theorem zc193 : (Try.prog.info? 193).map (fun i => i.zero.map (·.cells)) = some (some #[.pointer none]) := by kernel_rfl
theorem z193 : (Try.prog.info? 193).map (·.zero) = some (some (.pointer none)) := by kernel_rfl
theorem sca194 : scaB Try.prog 194 = true := by kernel_rfl
theorem zc194 : (Try.prog.info? 194).map (fun i => i.zero.map (·.cells)) = some (some #[.nilFunc]) := by kernel_rfl
theorem z194 : (Try.prog.info? 194).map (·.zero) = some (some (.nilFunc)) := by kernel_rfl
theorem zc195 : (Try.prog.info? 195).map (fun i => i.zero.map (·.cells)) = some (some #[.pointer none, .pointer none, .pointer none, .string ByteArray.empty]) := by kernel_rfl
theorem agg195 : aggB Try.prog 195 4 = true := by kernel_rfl
theorem plc195 : places Try.prog 195 = some [(0, 1), (1, 1), (2, 1), (3, 1)] := by kernel_rfl
theorem fld195_0 : fldB Try.prog 195 0 0 = true := by kernel_rfl
theorem fld195_1 : fldB Try.prog 195 1 1 = true := by kernel_rfl
theorem fld195_2 : fldB Try.prog 195 2 2 = true := by kernel_rfl
theorem fld195_3 : fldB Try.prog 195 3 3 = true := by kernel_rfl
theorem zc196 : (Try.prog.info? 196).map (fun i => i.zero.map (·.cells)) = some (some #[.pointer none, .pointer none, .pointer none, .string ByteArray.empty]) := by kernel_rfl
theorem agg196 : aggB Try.prog 196 4 = true := by kernel_rfl
theorem plc196 : places Try.prog 196 = some [(0, 1), (1, 1), (2, 1), (3, 1)] := by kernel_rfl
theorem fld196_0 : fldB Try.prog 196 0 0 = true := by kernel_rfl
theorem fld196_1 : fldB Try.prog 196 1 1 = true := by kernel_rfl
theorem fld196_2 : fldB Try.prog 196 2 2 = true := by kernel_rfl
theorem fld196_3 : fldB Try.prog 196 3 3 = true := by kernel_rfl
theorem zc197 : (Try.prog.info? 197).map (fun i => i.zero.map (·.cells)) = some (some #[]) := by kernel_rfl
theorem zc198 : (Try.prog.info? 198).map (fun i => i.zero.map (·.cells)) = some (some #[]) := by kernel_rfl
theorem zc199 : (Try.prog.info? 199).map (fun i => i.zero.map (·.cells)) = some (some #[]) := by kernel_rfl
theorem sca200 : scaB Try.prog 200 = true := by kernel_rfl
theorem zc200 : (Try.prog.info? 200).map (fun i => i.zero.map (·.cells)) = some (some #[.nilFunc]) := by kernel_rfl
theorem z200 : (Try.prog.info? 200).map (·.zero) = some (some (.nilFunc)) := by kernel_rfl
theorem ty201 : Try.prog.underlying 201 = some (.int .u8) := by kernel_rfl
theorem is201 : (Try.prog.underlying 201).isSome = true := by kernel_rfl
theorem sca201 : scaB Try.prog 201 = true := by kernel_rfl
theorem zc201 : (Try.prog.info? 201).map (fun i => i.zero.map (·.cells)) = some (some #[.int .u8 0]) := by kernel_rfl
theorem z201 : (Try.prog.info? 201).map (·.zero) = some (some (.int .u8 0)) := by kernel_rfl
theorem ty202 : Try.prog.underlying 202 = some (.int .u8) := by kernel_rfl
theorem is202 : (Try.prog.underlying 202).isSome = true := by kernel_rfl
theorem sca202 : scaB Try.prog 202 = true := by kernel_rfl
theorem zc202 : (Try.prog.info? 202).map (fun i => i.zero.map (·.cells)) = some (some #[.int .u8 0]) := by kernel_rfl
theorem z202 : (Try.prog.info? 202).map (·.zero) = some (some (.int .u8 0)) := by kernel_rfl
theorem sca203 : scaB Try.prog 203 = true := by kernel_rfl
theorem zc203 : (Try.prog.info? 203).map (fun i => i.zero.map (·.cells)) = some (some #[.nilFunc]) := by kernel_rfl
theorem z203 : (Try.prog.info? 203).map (·.zero) = some (some (.nilFunc)) := by kernel_rfl
theorem sca204 : scaB Try.prog 204 = true := by kernel_rfl
theorem ptr204 : ptrB Try.prog 204 = true := by kernel_rfl
theorem zc204 : (Try.prog.info? 204).map (fun i => i.zero.map (·.cells)) = some (some #[.pointer none]) := by kernel_rfl
theorem z204 : (Try.prog.info? 204).map (·.zero) = some (some (.pointer none)) := by kernel_rfl
theorem ty205 : Try.prog.underlying 205 = some (.int .i32) := by kernel_rfl
theorem is205 : (Try.prog.underlying 205).isSome = true := by kernel_rfl
theorem sca205 : scaB Try.prog 205 = true := by kernel_rfl
theorem zc205 : (Try.prog.info? 205).map (fun i => i.zero.map (·.cells)) = some (some #[.int .i32 0]) := by kernel_rfl
theorem z205 : (Try.prog.info? 205).map (·.zero) = some (some (.int .i32 0)) := by kernel_rfl
theorem ty206 : Try.prog.underlying 206 = some (.int .i32) := by kernel_rfl
theorem is206 : (Try.prog.underlying 206).isSome = true := by kernel_rfl
theorem sca206 : scaB Try.prog 206 = true := by kernel_rfl
theorem zc206 : (Try.prog.info? 206).map (fun i => i.zero.map (·.cells)) = some (some #[.int .i32 0]) := by kernel_rfl
theorem z206 : (Try.prog.info? 206).map (·.zero) = some (some (.int .i32 0)) := by kernel_rfl
theorem zc207 : (Try.prog.info? 207).map (fun i => i.zero.map (·.cells)) = some (some #[.int .u64 0, .int .u64 0, .int .u32 0, .int .u8 0, .int .u8 0, .int .u8 0, .int .u8 0, .nilFunc, .pointer none, .int .i32 0, .int .i32 0]) := by kernel_rfl
theorem agg207 : aggB Try.prog 207 11 = true := by kernel_rfl
theorem plc207 : places Try.prog 207 = some [(0, 1), (1, 1), (2, 1), (3, 1), (4, 1), (5, 1), (6, 1), (7, 1), (8, 1), (9, 1), (10, 1)] := by kernel_rfl
theorem fld207_0 : fldB Try.prog 207 0 0 = true := by kernel_rfl
theorem fld207_1 : fldB Try.prog 207 1 1 = true := by kernel_rfl
theorem fld207_2 : fldB Try.prog 207 2 2 = true := by kernel_rfl
theorem fld207_3 : fldB Try.prog 207 3 3 = true := by kernel_rfl
theorem fld207_4 : fldB Try.prog 207 4 4 = true := by kernel_rfl
theorem fld207_5 : fldB Try.prog 207 5 5 = true := by kernel_rfl
theorem fld207_6 : fldB Try.prog 207 6 6 = true := by kernel_rfl
theorem fld207_7 : fldB Try.prog 207 7 7 = true := by kernel_rfl
theorem fld207_8 : fldB Try.prog 207 8 8 = true := by kernel_rfl
theorem fld207_9 : fldB Try.prog 207 9 9 = true := by kernel_rfl
theorem fld207_10 : fldB Try.prog 207 10 10 = true := by kernel_rfl
theorem zc208 : (Try.prog.info? 208).map (fun i => i.zero.map (·.cells)) = some (some #[.int .u64 0, .int .u64 0, .int .u32 0, .int .u8 0, .int .u8 0, .int .u8 0, .int .u8 0, .nilFunc, .pointer none, .int .i32 0, .int .i32 0]) := by kernel_rfl
theorem agg208 : aggB Try.prog 208 11 = true := by kernel_rfl
theorem plc208 : places Try.prog 208 = some [(0, 1), (1, 1), (2, 1), (3, 1), (4, 1), (5, 1), (6, 1), (7, 1), (8, 1), (9, 1), (10, 1)] := by kernel_rfl
theorem fld208_0 : fldB Try.prog 208 0 0 = true := by kernel_rfl
theorem fld208_1 : fldB Try.prog 208 1 1 = true := by kernel_rfl
theorem fld208_2 : fldB Try.prog 208 2 2 = true := by kernel_rfl
theorem fld208_3 : fldB Try.prog 208 3 3 = true := by kernel_rfl
theorem fld208_4 : fldB Try.prog 208 4 4 = true := by kernel_rfl
theorem fld208_5 : fldB Try.prog 208 5 5 = true := by kernel_rfl
theorem fld208_6 : fldB Try.prog 208 6 6 = true := by kernel_rfl
theorem fld208_7 : fldB Try.prog 208 7 7 = true := by kernel_rfl
theorem fld208_8 : fldB Try.prog 208 8 8 = true := by kernel_rfl
theorem fld208_9 : fldB Try.prog 208 9 9 = true := by kernel_rfl
theorem fld208_10 : fldB Try.prog 208 10 10 = true := by kernel_rfl
theorem sca209 : scaB Try.prog 209 = true := by kernel_rfl
theorem zc209 : (Try.prog.info? 209).map (fun i => i.zero.map (·.cells)) = some (some #[.nilFunc]) := by kernel_rfl
theorem z209 : (Try.prog.info? 209).map (·.zero) = some (some (.nilFunc)) := by kernel_rfl
theorem zc210 : (Try.prog.info? 210).map (fun i => i.zero.map (·.cells)) = some (some #[.pointer none]) := by kernel_rfl
theorem z210 : (Try.prog.info? 210).map (·.zero) = some (some (.pointer none)) := by kernel_rfl
theorem fn3 : fnB Try.prog 3 = true := by kernel_rfl
theorem fn4 : fnB Try.prog 4 = true := by kernel_rfl
theorem fn5 : fnB Try.prog 5 = true := by kernel_rfl
theorem fn6 : fnB Try.prog 6 = true := by kernel_rfl
theorem fn7 : fnB Try.prog 7 = true := by kernel_rfl
theorem fn8 : fnB Try.prog 8 = true := by kernel_rfl
theorem fn9 : fnB Try.prog 9 = true := by kernel_rfl
theorem fn10 : fnB Try.prog 10 = true := by kernel_rfl
theorem fn11 : fnB Try.prog 11 = true := by kernel_rfl
theorem fn12 : fnB Try.prog 12 = true := by kernel_rfl
theorem fn13 : fnB Try.prog 13 = true := by kernel_rfl
theorem fn14 : fnB Try.prog 14 = true := by kernel_rfl
theorem fn15 : fnB Try.prog 15 = true := by kernel_rfl
theorem fn16 : fnB Try.prog 16 = true := by kernel_rfl
theorem fn17 : fnB Try.prog 17 = true := by kernel_rfl
theorem fn18 : fnB Try.prog 18 = true := by kernel_rfl
theorem fn19 : fnB Try.prog 19 = true := by kernel_rfl
theorem fn20 : fnB Try.prog 20 = true := by kernel_rfl
theorem fn21 : fnB Try.prog 21 = true := by kernel_rfl
theorem fn22 : fnB Try.prog 22 = true := by kernel_rfl
theorem fn23 : fnB Try.prog 23 = true := by kernel_rfl
theorem fn24 : fnB Try.prog 24 = true := by kernel_rfl
theorem fn25 : fnB Try.prog 25 = true := by kernel_rfl
theorem fn26 : fnB Try.prog 26 = true := by kernel_rfl
theorem fn27 : fnB Try.prog 27 = true := by kernel_rfl
theorem fn28 : fnB Try.prog 28 = true := by kernel_rfl
theorem fn29 : fnB Try.prog 29 = true := by kernel_rfl
theorem fn30 : fnB Try.prog 30 = true := by kernel_rfl
theorem fn31 : fnB Try.prog 31 = true := by kernel_rfl
theorem fn32 : fnB Try.prog 32 = true := by kernel_rfl
theorem fn33 : fnB Try.prog 33 = true := by kernel_rfl
theorem fn34 : fnB Try.prog 34 = true := by kernel_rfl
theorem fn35 : fnB Try.prog 35 = true := by kernel_rfl
theorem fn36 : fnB Try.prog 36 = true := by kernel_rfl
theorem fn37 : fnB Try.prog 37 = true := by kernel_rfl
theorem fn38 : fnB Try.prog 38 = true := by kernel_rfl
theorem fn39 : fnB Try.prog 39 = true := by kernel_rfl
theorem fn40 : fnB Try.prog 40 = true := by kernel_rfl
theorem fn41 : fnB Try.prog 41 = true := by kernel_rfl
theorem fn42 : fnB Try.prog 42 = true := by kernel_rfl
theorem fn43 : fnB Try.prog 43 = true := by kernel_rfl
theorem fn44 : fnB Try.prog 44 = true := by kernel_rfl
theorem fn45 : fnB Try.prog 45 = true := by kernel_rfl
theorem fn46 : fnB Try.prog 46 = true := by kernel_rfl
theorem fn47 : fnB Try.prog 47 = true := by kernel_rfl
theorem fn48 : fnB Try.prog 48 = true := by kernel_rfl
theorem fn49 : fnB Try.prog 49 = true := by kernel_rfl
theorem fn50 : fnB Try.prog 50 = true := by kernel_rfl
theorem fn51 : fnB Try.prog 51 = true := by kernel_rfl
theorem fn52 : fnB Try.prog 52 = true := by kernel_rfl
theorem fn53 : fnB Try.prog 53 = true := by kernel_rfl
theorem fn54 : fnB Try.prog 54 = true := by kernel_rfl
theorem fn55 : fnB Try.prog 55 = true := by kernel_rfl
theorem fn56 : fnB Try.prog 56 = true := by kernel_rfl
theorem fn57 : fnB Try.prog 57 = true := by kernel_rfl
theorem fn58 : fnB Try.prog 58 = true := by kernel_rfl
theorem fn59 : fnB Try.prog 59 = true := by kernel_rfl
theorem fn60 : fnB Try.prog 60 = true := by kernel_rfl
theorem fn61 : fnB Try.prog 61 = true := by kernel_rfl
theorem fn62 : fnB Try.prog 62 = true := by kernel_rfl
theorem fn63 : fnB Try.prog 63 = true := by kernel_rfl
theorem fn64 : fnB Try.prog 64 = true := by kernel_rfl
theorem fn65 : fnB Try.prog 65 = true := by kernel_rfl
theorem fn66 : fnB Try.prog 66 = true := by kernel_rfl
theorem fn67 : fnB Try.prog 67 = true := by kernel_rfl
theorem fn68 : fnB Try.prog 68 = true := by kernel_rfl
theorem fn69 : fnB Try.prog 69 = true := by kernel_rfl
theorem fn70 : fnB Try.prog 70 = true := by kernel_rfl
theorem fn71 : fnB Try.prog 71 = true := by kernel_rfl
theorem fn72 : fnB Try.prog 72 = true := by kernel_rfl
theorem fn73 : fnB Try.prog 73 = true := by kernel_rfl
theorem fn74 : fnB Try.prog 74 = true := by kernel_rfl
theorem fn75 : fnB Try.prog 75 = true := by kernel_rfl
theorem fn76 : fnB Try.prog 76 = true := by kernel_rfl
theorem fn77 : fnB Try.prog 77 = true := by kernel_rfl
theorem fn78 : fnB Try.prog 78 = true := by kernel_rfl
theorem fn79 : fnB Try.prog 79 = true := by kernel_rfl
theorem fn80 : fnB Try.prog 80 = true := by kernel_rfl
theorem fn81 : fnB Try.prog 81 = true := by kernel_rfl
theorem fn82 : fnB Try.prog 82 = true := by kernel_rfl
theorem fn83 : fnB Try.prog 83 = true := by kernel_rfl
theorem fn84 : fnB Try.prog 84 = true := by kernel_rfl
theorem fn85 : fnB Try.prog 85 = true := by kernel_rfl
theorem fn86 : fnB Try.prog 86 = true := by kernel_rfl
theorem fn87 : fnB Try.prog 87 = true := by kernel_rfl
theorem fn88 : fnB Try.prog 88 = true := by kernel_rfl
theorem fn89 : fnB Try.prog 89 = true := by kernel_rfl
theorem fn90 : fnB Try.prog 90 = true := by kernel_rfl
theorem fn91 : fnB Try.prog 91 = true := by kernel_rfl
theorem fn92 : fnB Try.prog 92 = true := by kernel_rfl
theorem fn93 : fnB Try.prog 93 = true := by kernel_rfl
theorem fn94 : fnB Try.prog 94 = true := by kernel_rfl
theorem fn95 : fnB Try.prog 95 = true := by kernel_rfl
theorem fn96 : fnB Try.prog 96 = true := by kernel_rfl
theorem fn97 : fnB Try.prog 97 = true := by kernel_rfl
theorem fn98 : fnB Try.prog 98 = true := by kernel_rfl
theorem fn99 : fnB Try.prog 99 = true := by kernel_rfl
theorem fn100 : fnB Try.prog 100 = true := by kernel_rfl
theorem fn101 : fnB Try.prog 101 = true := by kernel_rfl
theorem fn103 : fnB Try.prog 103 = true := by kernel_rfl
theorem fn104 : fnB Try.prog 104 = true := by kernel_rfl
theorem fn105 : fnB Try.prog 105 = true := by kernel_rfl
theorem fn106 : fnB Try.prog 106 = true := by kernel_rfl
theorem fn107 : fnB Try.prog 107 = true := by kernel_rfl
theorem fn108 : fnB Try.prog 108 = true := by kernel_rfl
theorem fn109 : fnB Try.prog 109 = true := by kernel_rfl
theorem fn110 : fnB Try.prog 110 = true := by kernel_rfl
theorem fn111 : fnB Try.prog 111 = true := by kernel_rfl
theorem fn112 : fnB Try.prog 112 = true := by kernel_rfl
theorem fn113 : fnB Try.prog 113 = true := by kernel_rfl
theorem fn114 : fnB Try.prog 114 = true := by kernel_rfl
theorem fn115 : fnB Try.prog 115 = true := by kernel_rfl
theorem fn116 : fnB Try.prog 116 = true := by kernel_rfl
theorem fn117 : fnB Try.prog 117 = true := by kernel_rfl
theorem fn118 : fnB Try.prog 118 = true := by kernel_rfl
theorem fn119 : fnB Try.prog 119 = true := by kernel_rfl
theorem fn120 : fnB Try.prog 120 = true := by kernel_rfl
theorem fn121 : fnB Try.prog 121 = true := by kernel_rfl
theorem fn122 : fnB Try.prog 122 = true := by kernel_rfl
theorem fn123 : fnB Try.prog 123 = true := by kernel_rfl
theorem fn124 : fnB Try.prog 124 = true := by kernel_rfl
theorem fn125 : fnB Try.prog 125 = true := by kernel_rfl
theorem fn126 : fnB Try.prog 126 = true := by kernel_rfl
theorem fn127 : fnB Try.prog 127 = true := by kernel_rfl
theorem fn128 : fnB Try.prog 128 = true := by kernel_rfl
theorem fn129 : fnB Try.prog 129 = true := by kernel_rfl
theorem fn130 : fnB Try.prog 130 = true := by kernel_rfl
theorem fn131 : fnB Try.prog 131 = true := by kernel_rfl
theorem fn132 : fnB Try.prog 132 = true := by kernel_rfl
theorem fn133 : fnB Try.prog 133 = true := by kernel_rfl
theorem fn134 : fnB Try.prog 134 = true := by kernel_rfl
theorem fn135 : fnB Try.prog 135 = true := by kernel_rfl
theorem fn136 : fnB Try.prog 136 = true := by kernel_rfl
theorem ib102 : IbT Try.prog 102 := IbT.mk' Try.func102 (by kernel_rfl) (by kernel_rfl) (by kernel_rfl) (by kernel_rfl)
theorem mixed : Try.prog.follows .mixedOrders = true := by kernel_rfl
end Go.Proofs.Ytoaplldahbbaiaa
