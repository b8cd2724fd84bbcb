/- Closed facts on types and functions of the program. No condition. -/
import Derived.Test.YtpamandneifemaaKA
import Derived.KernelRfl
namespace Go.Proofs.Ytpamandneifemaa
open Go Go.RowKit
theorem sca1 : scaB Try.prog 1 = true := by kernel_rfl
theorem zc1 : (Try.prog.info? 1).map (fun i => i.zero.map (·.cells)) = some (some #[.nilFunc]) := by kernel_rfl
theorem z1 : (Try.prog.info? 1).map (·.zero) = some (some (.nilFunc)) := by kernel_rfl
theorem ty2 : Try.prog.underlying 2 = some (.int .i64) := by kernel_rfl
theorem is2 : (Try.prog.underlying 2).isSome = true := by kernel_rfl
theorem sca2 : scaB Try.prog 2 = true := by kernel_rfl
theorem zc2 : (Try.prog.info? 2).map (fun i => i.zero.map (·.cells)) = some (some #[.int .i64 0]) := by kernel_rfl
theorem z2 : (Try.prog.info? 2).map (·.zero) = some (some (.int .i64 0)) := by kernel_rfl
theorem ty3 : Try.prog.underlying 3 = some (.int .i64) := by kernel_rfl
theorem is3 : (Try.prog.underlying 3).isSome = true := by kernel_rfl
theorem sca3 : scaB Try.prog 3 = true := by kernel_rfl
theorem zc3 : (Try.prog.info? 3).map (fun i => i.zero.map (·.cells)) = some (some #[.int .i64 0]) := by kernel_rfl
theorem z3 : (Try.prog.info? 3).map (·.zero) = some (some (.int .i64 0)) := by kernel_rfl
theorem sca4 : scaB Try.prog 4 = true := by kernel_rfl
theorem zc4 : (Try.prog.info? 4).map (fun i => i.zero.map (·.cells)) = some (some #[.bool false]) := by kernel_rfl
theorem z4 : (Try.prog.info? 4).map (·.zero) = some (some (.bool false)) := by kernel_rfl
theorem ty4 : Try.prog.underlying 4 = some .bool := by kernel_rfl
theorem ty5 : Try.prog.underlying 5 = some (.int .u8) := by kernel_rfl
theorem is5 : (Try.prog.underlying 5).isSome = true := by kernel_rfl
theorem sca5 : scaB Try.prog 5 = true := by kernel_rfl
theorem zc5 : (Try.prog.info? 5).map (fun i => i.zero.map (·.cells)) = some (some #[.int .u8 0]) := by kernel_rfl
theorem z5 : (Try.prog.info? 5).map (·.zero) = some (some (.int .u8 0)) := by kernel_rfl
theorem ty6 : Try.prog.underlying 6 = some (.int .u8) := by kernel_rfl
theorem is6 : (Try.prog.underlying 6).isSome = true := by kernel_rfl
theorem sca6 : scaB Try.prog 6 = true := by kernel_rfl
theorem zc6 : (Try.prog.info? 6).map (fun i => i.zero.map (·.cells)) = some (some #[.int .u8 0]) := by kernel_rfl
theorem z6 : (Try.prog.info? 6).map (·.zero) = some (some (.int .u8 0)) := by kernel_rfl
theorem zc7 : (Try.prog.info? 7).map (fun i => i.zero.map (·.cells)) = some (some #[.int .i64 0, .int .i64 0, .bool false, .int .u8 0]) := by kernel_rfl
theorem agg7 : aggB Try.prog 7 4 = true := by kernel_rfl
theorem plc7 : places Try.prog 7 = some [(0, 1), (1, 1), (2, 1), (3, 1)] := by kernel_rfl
theorem fld7_0 : fldB Try.prog 7 0 0 = true := by kernel_rfl
theorem fld7_1 : fldB Try.prog 7 1 1 = true := by kernel_rfl
theorem fld7_2 : fldB Try.prog 7 2 2 = true := by kernel_rfl
theorem fld7_3 : fldB Try.prog 7 3 3 = true := by kernel_rfl
theorem zc8 : (Try.prog.info? 8).map (fun i => i.zero.map (·.cells)) = some (some #[.int .i64 0, .int .i64 0, .bool false, .int .u8 0]) := by kernel_rfl
theorem agg8 : aggB Try.prog 8 4 = true := by kernel_rfl
theorem plc8 : places Try.prog 8 = some [(0, 1), (1, 1), (2, 1), (3, 1)] := by kernel_rfl
theorem fld8_0 : fldB Try.prog 8 0 0 = true := by kernel_rfl
theorem fld8_1 : fldB Try.prog 8 1 1 = true := by kernel_rfl
theorem fld8_2 : fldB Try.prog 8 2 2 = true := by kernel_rfl
theorem fld8_3 : fldB Try.prog 8 3 3 = true := by kernel_rfl
theorem ty9 : Try.prog.underlying 9 = some .string := by kernel_rfl
theorem sca9 : scaB Try.prog 9 = true := by kernel_rfl
theorem zc9 : (Try.prog.info? 9).map (fun i => i.zero.map (·.cells)) = some (some #[.string ByteArray.empty]) := by kernel_rfl
theorem z9 : (Try.prog.info? 9).map (·.zero) = some (some (.string ByteArray.empty)) := by kernel_rfl
theorem ty10 : Try.prog.underlying 10 = some .string := by kernel_rfl
theorem sca10 : scaB Try.prog 10 = true := by kernel_rfl
theorem zc10 : (Try.prog.info? 10).map (fun i => i.zero.map (·.cells)) = some (some #[.string ByteArray.empty]) := by kernel_rfl
theorem z10 : (Try.prog.info? 10).map (·.zero) = some (some (.string ByteArray.empty)) := by kernel_rfl
theorem ty11 : Try.prog.underlying 11 = some .string := by kernel_rfl
theorem sca11 : scaB Try.prog 11 = true := by kernel_rfl
theorem zc11 : (Try.prog.info? 11).map (fun i => i.zero.map (·.cells)) = some (some #[.string ByteArray.empty]) := by kernel_rfl
theorem z11 : (Try.prog.info? 11).map (·.zero) = some (some (.string ByteArray.empty)) := by kernel_rfl
theorem ty12 : Try.prog.underlying 12 = some (.int .u64) := by kernel_rfl
theorem is12 : (Try.prog.underlying 12).isSome = true := by kernel_rfl
theorem sca12 : scaB Try.prog 12 = true := by kernel_rfl
theorem zc12 : (Try.prog.info? 12).map (fun i => i.zero.map (·.cells)) = some (some #[.int .u64 0]) := by kernel_rfl
theorem z12 : (Try.prog.info? 12).map (·.zero) = some (some (.int .u64 0)) := by kernel_rfl
theorem zc13 : (Try.prog.info? 13).map (fun i => i.zero.map (·.cells)) = some (some #[.string ByteArray.empty, .int .u64 0]) := by kernel_rfl
theorem agg13 : aggB Try.prog 13 2 = true := by kernel_rfl
theorem plc13 : places Try.prog 13 = some [(0, 1), (1, 1)] := by kernel_rfl
theorem fld13_0 : fldB Try.prog 13 0 0 = true := by kernel_rfl
theorem fld13_1 : fldB Try.prog 13 1 1 = true := by kernel_rfl
theorem zc14 : (Try.prog.info? 14).map (fun i => i.zero.map (·.cells)) = some (some #[.string ByteArray.empty, .int .u64 0]) := by kernel_rfl
theorem agg14 : aggB Try.prog 14 2 = true := by kernel_rfl
theorem plc14 : places Try.prog 14 = some [(0, 1), (1, 1)] := by kernel_rfl
theorem fld14_0 : fldB Try.prog 14 0 0 = true := by kernel_rfl
theorem fld14_1 : fldB Try.prog 14 1 1 = true := by kernel_rfl
theorem sca15 : scaB Try.prog 15 = true := by kernel_rfl
theorem ptr15 : ptrB Try.prog 15 = true := by kernel_rfl
theorem zc15 : (Try.prog.info? 15).map (fun i => i.zero.map (·.cells)) = some (some #[.pointer none]) := by kernel_rfl
theorem z15 : (Try.prog.info? 15).map (·.zero) = some (some (.pointer none)) := by kernel_rfl
theorem sca16 : scaB Try.prog 16 = true := by kernel_rfl
theorem ptr16 : ptrB Try.prog 16 = true := by kernel_rfl
theorem zc16 : (Try.prog.info? 16).map (fun i => i.zero.map (·.cells)) = some (some #[.pointer none]) := by kernel_rfl
theorem z16 : (Try.prog.info? 16).map (·.zero) = some (some (.pointer none)) := by kernel_rfl
theorem sca17 : scaB Try.prog 17 = true := by kernel_rfl
theorem ptr17 : ptrB Try.prog 17 = true := by kernel_rfl
theorem zc17 : (Try.prog.info? 17).map (fun i => i.zero.map (·.cells)) = some (some #[.pointer none]) := by kernel_rfl
theorem z17 : (Try.prog.info? 17).map (·.zero) = some (some (.pointer none)) := by kernel_rfl
theorem zc18 : (Try.prog.info? 18).map (fun i => i.zero.map (·.cells)) = some (some #[.pointer none]) := by kernel_rfl
theorem agg18 : aggB Try.prog 18 1 = true := by kernel_rfl
theorem plc18 : places Try.prog 18 = some [(0, 1)] := by kernel_rfl
theorem fld18_0 : fldB Try.prog 18 0 0 = true := by kernel_rfl
theorem zc19 : (Try.prog.info? 19).map (fun i => i.zero.map (·.cells)) = some (some #[.pointer none]) := by kernel_rfl
theorem agg19 : aggB Try.prog 19 1 = true := by kernel_rfl
theorem plc19 : places Try.prog 19 = some [(0, 1)] := by kernel_rfl
theorem fld19_0 : fldB Try.prog 19 0 0 = true := by kernel_rfl
theorem sca20 : scaB Try.prog 20 = true := by kernel_rfl
theorem zc20 : (Try.prog.info? 20).map (fun i => i.zero.map (·.cells)) = some (some #[.nilIface]) := by kernel_rfl
theorem z20 : (Try.prog.info? 20).map (·.zero) = some (some (.nilIface)) := by kernel_rfl
theorem ty21 : Try.prog.underlying 21 = some (.int .i32) := by kernel_rfl
theorem is21 : (Try.prog.underlying 21).isSome = true := by kernel_rfl
theorem sca21 : scaB Try.prog 21 = true := by kernel_rfl
theorem zc21 : (Try.prog.info? 21).map (fun i => i.zero.map (·.cells)) = some (some #[.int .i32 0]) := by kernel_rfl
theorem z21 : (Try.prog.info? 21).map (·.zero) = some (some (.int .i32 0)) := by kernel_rfl
theorem sca22 : scaB Try.prog 22 = true := by kernel_rfl
theorem sl22 : SliceT Try.prog 22 25 1 24 := ⟨by kernel_rfl, by kernel_rfl⟩
theorem zc22 : (Try.prog.info? 22).map (fun i => i.zero.map (·.cells)) = some (some #[.slice none 0 0]) := by kernel_rfl
theorem z22 : (Try.prog.info? 22).map (·.zero) = some (some (.slice none 0 0)) := by kernel_rfl
theorem sca23 : scaB Try.prog 23 = true := by kernel_rfl
theorem zc23 : (Try.prog.info? 23).map (fun i => i.zero.map (·.cells)) = some (some #[.nilFunc]) := by kernel_rfl
theorem z23 : (Try.prog.info? 23).map (·.zero) = some (some (.nilFunc)) := by kernel_rfl
theorem sca24 : scaB Try.prog 24 = true := by kernel_rfl
theorem zc24 : (Try.prog.info? 24).map (fun i => i.zero.map (·.cells)) = some (some #[.nilFunc]) := by kernel_rfl
theorem z24 : (Try.prog.info? 24).map (·.zero) = some (some (.nilFunc)) := by kernel_rfl
theorem sca25 : scaB Try.prog 25 = true := by kernel_rfl
theorem sl25 : SliceT Try.prog 25 35 10 136 := ⟨by kernel_rfl, by kernel_rfl⟩
theorem zc25 : (Try.prog.info? 25).map (fun i => i.zero.map (·.cells)) = some (some #[.slice none 0 0]) := by kernel_rfl
theorem z25 : (Try.prog.info? 25).map (·.zero) = some (some (.slice none 0 0)) := by kernel_rfl
theorem sca26 : scaB Try.prog 26 = true := by kernel_rfl
theorem zc26 : (Try.prog.info? 26).map (fun i => i.zero.map (·.cells)) = some (some #[.nilFunc]) := by kernel_rfl
theorem z26 : (Try.prog.info? 26).map (·.zero) = some (some (.nilFunc)) := by kernel_rfl
theorem sca27 : scaB Try.prog 27 = true := by kernel_rfl
theorem zc27 : (Try.prog.info? 27).map (fun i => i.zero.map (·.cells)) = some (some #[.nilFunc]) := by kernel_rfl
theorem z27 : (Try.prog.info? 27).map (·.zero) = some (some (.nilFunc)) := by kernel_rfl
theorem sca28 : scaB Try.prog 28 = true := by kernel_rfl
theorem zc28 : (Try.prog.info? 28).map (fun i => i.zero.map (·.cells)) = some (some #[.nilFunc]) := by kernel_rfl
theorem z28 : (Try.prog.info? 28).map (·.zero) = some (some (.nilFunc)) := by kernel_rfl
theorem sca29 : scaB Try.prog 29 = true := by kernel_rfl
theorem sl29 : SliceT Try.prog 29 9 1 16 := ⟨by kernel_rfl, by kernel_rfl⟩
theorem zc29 : (Try.prog.info? 29).map (fun i => i.zero.map (·.cells)) = some (some #[.slice none 0 0]) := by kernel_rfl
theorem z29 : (Try.prog.info? 29).map (·.zero) = some (some (.slice none 0 0)) := by kernel_rfl
theorem zc30 : (Try.prog.info? 30).map (fun i => i.zero.map (·.cells)) = some (some #[.int .i64 0, .int .i64 0, .int .i64 0]) := by kernel_rfl
theorem agg30 : aggB Try.prog 30 3 = true := by kernel_rfl
theorem plc30 : places Try.prog 30 = some [(0, 1), (1, 1), (2, 1)] := by kernel_rfl
theorem fld30_0 : fldB Try.prog 30 0 0 = true := by kernel_rfl
theorem fld30_1 : fldB Try.prog 30 1 1 = true := by kernel_rfl
theorem fld30_2 : fldB Try.prog 30 2 2 = true := by kernel_rfl
theorem zc31 : (Try.prog.info? 31).map (fun i => i.zero.map (·.cells)) = some (some #[.int .i64 0, .int .i64 0, .int .i64 0]) := by kernel_rfl
theorem agg31 : aggB Try.prog 31 3 = true := by kernel_rfl
theorem plc31 : places Try.prog 31 = some [(0, 1), (1, 1), (2, 1)] := by kernel_rfl
theorem fld31_0 : fldB Try.prog 31 0 0 = true := by kernel_rfl
theorem fld31_1 : fldB Try.prog 31 1 1 = true := by kernel_rfl
theorem fld31_2 : fldB Try.prog 31 2 2 = true := by kernel_rfl
theorem sca32 : scaB Try.prog 32 = true := by kernel_rfl
theorem sl32 : SliceT Try.prog 32 5 1 1 := ⟨by kernel_rfl, by kernel_rfl⟩
theorem zc32 : (Try.prog.info? 32).map (fun i => i.zero.map (·.cells)) = some (some #[.slice none 0 0]) := by kernel_rfl
theorem z32 : (Try.prog.info? 32).map (·.zero) = some (some (.slice none 0 0)) := by kernel_rfl
theorem sca33 : scaB Try.prog 33 = true := by kernel_rfl
theorem sl33 : SliceT Try.prog 33 70 2 40 := ⟨by kernel_rfl, by kernel_rfl⟩
theorem zc33 : (Try.prog.info? 33).map (fun i => i.zero.map (·.cells)) = some (some #[.slice none 0 0]) := by kernel_rfl
theorem z33 : (Try.prog.info? 33).map (·.zero) = some (some (.slice none 0 0)) := by kernel_rfl
theorem zc34 : (Try.prog.info? 34).map (fun i => i.zero.map (·.cells)) = some (some #[.slice none 0 0, .int .i64 0, .int .i64 0, .int .i64 0, .int .i64 0, .int .i64 0, .slice none 0 0, .string ByteArray.empty, .slice none 0 0, .bool false]) := by kernel_rfl
theorem agg34 : aggB Try.prog 34 10 = true := by kernel_rfl
theorem plc34 : places Try.prog 34 = some [(0, 1), (1, 1), (2, 1), (3, 3), (6, 1), (7, 1), (8, 1), (9, 1)] := by kernel_rfl
theorem fld34_0 : fldB Try.prog 34 0 0 = true := by kernel_rfl
theorem fld34_1 : fldB Try.prog 34 1 1 = true := by kernel_rfl
theorem fld34_2 : fldB Try.prog 34 2 2 = true := by kernel_rfl
theorem fld34_3 : fldB Try.prog 34 3 3 = true := by kernel_rfl
theorem fld34_4 : fldB Try.prog 34 4 6 = true := by kernel_rfl
theorem fld34_5 : fldB Try.prog 34 5 7 = true := by kernel_rfl
theorem fld34_6 : fldB Try.prog 34 6 8 = true := by kernel_rfl
theorem fld34_7 : fldB Try.prog 34 7 9 = true := by kernel_rfl
theorem zc35 : (Try.prog.info? 35).map (fun i => i.zero.map (·.cells)) = some (some #[.slice none 0 0, .int .i64 0, .int .i64 0, .int .i64 0, .int .i64 0, .int .i64 0, .slice none 0 0, .string ByteArray.empty, .slice none 0 0, .bool false]) := by kernel_rfl
theorem agg35 : aggB Try.prog 35 10 = true := by kernel_rfl
theorem plc35 : places Try.prog 35 = some [(0, 1), (1, 1), (2, 1), (3, 3), (6, 1), (7, 1), (8, 1), (9, 1)] := by kernel_rfl
theorem fld35_0 : fldB Try.prog 35 0 0 = true := by kernel_rfl
theorem fld35_1 : fldB Try.prog 35 1 1 = true := by kernel_rfl
theorem fld35_2 : fldB Try.prog 35 2 2 = true := by kernel_rfl
theorem fld35_3 : fldB Try.prog 35 3 3 = true := by kernel_rfl
theorem fld35_4 : fldB Try.prog 35 4 6 = true := by kernel_rfl
theorem fld35_5 : fldB Try.prog 35 5 7 = true := by kernel_rfl
theorem fld35_6 : fldB Try.prog 35 6 8 = true := by kernel_rfl
theorem fld35_7 : fldB Try.prog 35 7 9 = true := by kernel_rfl
theorem sca36 : scaB Try.prog 36 = true := by kernel_rfl
theorem zc36 : (Try.prog.info? 36).map (fun i => i.zero.map (·.cells)) = some (some #[.nilFunc]) := by kernel_rfl
theorem z36 : (Try.prog.info? 36).map (·.zero) = some (some (.nilFunc)) := by kernel_rfl
theorem sca37 : scaB Try.prog 37 = true := by kernel_rfl
theorem zc37 : (Try.prog.info? 37).map (fun i => i.zero.map (·.cells)) = some (some #[.nilFunc]) := by kernel_rfl
theorem z37 : (Try.prog.info? 37).map (·.zero) = some (some (.nilFunc)) := by kernel_rfl
theorem sca38 : scaB Try.prog 38 = true := by kernel_rfl
theorem zc38 : (Try.prog.info? 38).map (fun i => i.zero.map (·.cells)) = some (some #[.nilFunc]) := by kernel_rfl
theorem z38 : (Try.prog.info? 38).map (·.zero) = some (some (.nilFunc)) := by kernel_rfl
theorem sca39 : scaB Try.prog 39 = true := by kernel_rfl
theorem zc39 : (Try.prog.info? 39).map (fun i => i.zero.map (·.cells)) = some (some #[.nilFunc]) := by kernel_rfl
theorem z39 : (Try.prog.info? 39).map (·.zero) = some (some (.nilFunc)) := by kernel_rfl
theorem sca40 : scaB Try.prog 40 = true := by kernel_rfl
theorem zc40 : (Try.prog.info? 40).map (fun i => i.zero.map (·.cells)) = some (some #[.nilFunc]) := by kernel_rfl
theorem z40 : (Try.prog.info? 40).map (·.zero) = some (some (.nilFunc)) := by kernel_rfl
theorem ty41 : Try.prog.underlying 41 = some (.int .i64) := by kernel_rfl
theorem is41 : (Try.prog.underlying 41).isSome = true := by kernel_rfl
theorem sca41 : scaB Try.prog 41 = true := by kernel_rfl
theorem zc41 : (Try.prog.info? 41).map (fun i => i.zero.map (·.cells)) = some (some #[.int .i64 0]) := by kernel_rfl
theorem z41 : (Try.prog.info? 41).map (·.zero) = some (some (.int .i64 0)) := by kernel_rfl
theorem sca42 : scaB Try.prog 42 = true := by kernel_rfl
theorem zc42 : (Try.prog.info? 42).map (fun i => i.zero.map (·.cells)) = some (some #[.nilFunc]) := by kernel_rfl
theorem z42 : (Try.prog.info? 42).map (·.zero) = some (some (.nilFunc)) := by kernel_rfl
theorem sca43 : scaB Try.prog 43 = true := by kernel_rfl
theorem sl43 : SliceT Try.prog 43 29 1 24 := ⟨by kernel_rfl, by kernel_rfl⟩
theorem zc43 : (Try.prog.info? 43).map (fun i => i.zero.map (·.cells)) = some (some #[.slice none 0 0]) := by kernel_rfl
theorem z43 : (Try.prog.info? 43).map (·.zero) = some (some (.slice none 0 0)) := by kernel_rfl
theorem sca44 : scaB Try.prog 44 = true := by kernel_rfl
theorem zc44 : (Try.prog.info? 44).map (fun i => i.zero.map (·.cells)) = some (some #[.nilFunc]) := by kernel_rfl
theorem z44 : (Try.prog.info? 44).map (·.zero) = some (some (.nilFunc)) := by kernel_rfl
theorem sca45 : scaB Try.prog 45 = true := by kernel_rfl
theorem sl45 : SliceT Try.prog 45 3 1 8 := ⟨by kernel_rfl, by kernel_rfl⟩
theorem zc45 : (Try.prog.info? 45).map (fun i => i.zero.map (·.cells)) = some (some #[.slice none 0 0]) := by kernel_rfl
theorem z45 : (Try.prog.info? 45).map (·.zero) = some (some (.slice none 0 0)) := by kernel_rfl
theorem sca46 : scaB Try.prog 46 = true := by kernel_rfl
theorem zc46 : (Try.prog.info? 46).map (fun i => i.zero.map (·.cells)) = some (some #[.nilFunc]) := by kernel_rfl
theorem z46 : (Try.prog.info? 46).map (·.zero) = some (some (.nilFunc)) := by kernel_rfl
theorem sca48 : scaB Try.prog 48 = true := by kernel_rfl
theorem zc48 : (Try.prog.info? 48).map (fun i => i.zero.map (·.cells)) = some (some #[.nilFunc]) := by kernel_rfl
theorem z48 : (Try.prog.info? 48).map (·.zero) = some (some (.nilFunc)) := by kernel_rfl
theorem sca49 : scaB Try.prog 49 = true := by kernel_rfl
theorem zc49 : (Try.prog.info? 49).map (fun i => i.zero.map (·.cells)) = some (some #[.nilFunc]) := by kernel_rfl
theorem z49 : (Try.prog.info? 49).map (·.zero) = some (some (.nilFunc)) := by kernel_rfl
theorem sca50 : scaB Try.prog 50 = true := by kernel_rfl
theorem zc50 : (Try.prog.info? 50).map (fun i => i.zero.map (·.cells)) = some (some #[.nilFunc]) := by kernel_rfl
theorem z50 : (Try.prog.info? 50).map (·.zero) = some (some (.nilFunc)) := by kernel_rfl
theorem sca51 : scaB Try.prog 51 = true := by kernel_rfl
theorem zc51 : (Try.prog.info? 51).map (fun i => i.zero.map (·.cells)) = some (some #[.nilFunc]) := by kernel_rfl
theorem z51 : (Try.prog.info? 51).map (·.zero) = some (some (.nilFunc)) := by kernel_rfl
theorem sca52 : scaB Try.prog 52 = true := by kernel_rfl
theorem zc52 : (Try.prog.info? 52).map (fun i => i.zero.map (·.cells)) = some (some #[.nilFunc]) := by kernel_rfl
theorem z52 : (Try.prog.info? 52).map (·.zero) = some (some (.nilFunc)) := by kernel_rfl
theorem sca53 : scaB Try.prog 53 = true := by kernel_rfl
theorem sl53 : SliceT Try.prog 53 64 1 8 := ⟨by kernel_rfl, by kernel_rfl⟩
theorem zc53 : (Try.prog.info? 53).map (fun i => i.zero.map (·.cells)) = some (some #[.slice none 0 0]) := by kernel_rfl
theorem z53 : (Try.prog.info? 53).map (·.zero) = some (some (.slice none 0 0)) := by kernel_rfl
theorem sca54 : scaB Try.prog 54 = true := by kernel_rfl
theorem sl54 : SliceT Try.prog 54 64 1 8 := ⟨by kernel_rfl, by kernel_rfl⟩
theorem zc54 : (Try.prog.info? 54).map (fun i => i.zero.map (·.cells)) = some (some #[.slice none 0 0]) := by kernel_rfl
theorem z54 : (Try.prog.info? 54).map (·.zero) = some (some (.slice none 0 0)) := by kernel_rfl
theorem sca55 : scaB Try.prog 55 = true := by kernel_rfl
theorem zc55 : (Try.prog.info? 55).map (fun i => i.zero.map (·.cells)) = some (some #[.nilFunc]) := by kernel_rfl
theorem z55 : (Try.prog.info? 55).map (·.zero) = some (some (.nilFunc)) := by kernel_rfl
theorem sca56 : scaB Try.prog 56 = true := by kernel_rfl
theorem zc56 : (Try.prog.info? 56).map (fun i => i.zero.map (·.cells)) = some (some #[.map none]) := by kernel_rfl
theorem z56 : (Try.prog.info? 56).map (·.zero) = some (some (.map none)) := by kernel_rfl
theorem sca57 : scaB Try.prog 57 = true := by kernel_rfl
theorem zc57 : (Try.prog.info? 57).map (fun i => i.zero.map (·.cells)) = some (some #[.nilFunc]) := by kernel_rfl
theorem z57 : (Try.prog.info? 57).map (·.zero) = some (some (.nilFunc)) := by kernel_rfl
theorem sca58 : scaB Try.prog 58 = true := by kernel_rfl
theorem zc58 : (Try.prog.info? 58).map (fun i => i.zero.map (·.cells)) = some (some #[.map none]) := by kernel_rfl
theorem z58 : (Try.prog.info? 58).map (·.zero) = some (some (.map none)) := by kernel_rfl
theorem sca59 : scaB Try.prog 59 = true := by kernel_rfl
theorem zc59 : (Try.prog.info? 59).map (fun i => i.zero.map (·.cells)) = some (some #[.nilFunc]) := by kernel_rfl
theorem z59 : (Try.prog.info? 59).map (·.zero) = some (some (.nilFunc)) := by kernel_rfl
theorem sca60 : scaB Try.prog 60 = true := by kernel_rfl
theorem zc60 : (Try.prog.info? 60).map (fun i => i.zero.map (·.cells)) = some (some #[.nilFunc]) := by kernel_rfl
theorem z60 : (Try.prog.info? 60).map (·.zero) = some (some (.nilFunc)) := by kernel_rfl
theorem sca61 : scaB Try.prog 61 = true := by kernel_rfl
theorem zc61 : (Try.prog.info? 61).map (fun i => i.zero.map (·.cells)) = some (some #[.nilFunc]) := by kernel_rfl
theorem z61 : (Try.prog.info? 61).map (·.zero) = some (some (.nilFunc)) := by kernel_rfl
theorem sca62 : scaB Try.prog 62 = true := by kernel_rfl
theorem zc62 : (Try.prog.info? 62).map (fun i => i.zero.map (·.cells)) = some (some #[.nilFunc]) := by kernel_rfl
theorem z62 : (Try.prog.info? 62).map (·.zero) = some (some (.nilFunc)) := by kernel_rfl
theorem sca63 : scaB Try.prog 63 = true := by kernel_rfl
theorem zc63 : (Try.prog.info? 63).map (fun i => i.zero.map (·.cells)) = some (some #[.nilFunc]) := by kernel_rfl
theorem z63 : (Try.prog.info? 63).map (·.zero) = some (some (.nilFunc)) := by kernel_rfl
theorem sca64 : scaB Try.prog 64 = true := by kernel_rfl
theorem zc64 : (Try.prog.info? 64).map (fun i => i.zero.map (·.cells)) = some (some #[.map none]) := by kernel_rfl
theorem z64 : (Try.prog.info? 64).map (·.zero) = some (some (.map none)) := by kernel_rfl
theorem zc65 : (Try.prog.info? 65).map (fun i => i.zero.map (·.cells)) = some (some #[.int .i64 0, .int .i64 0]) := by kernel_rfl
theorem agg65 : aggB Try.prog 65 2 = true := by kernel_rfl
theorem plc65 : places Try.prog 65 = some [(0, 1), (1, 1)] := by kernel_rfl
theorem fld65_0 : fldB Try.prog 65 0 0 = true := by kernel_rfl
theorem fld65_1 : fldB Try.prog 65 1 1 = true := by kernel_rfl
theorem zc66 : (Try.prog.info? 66).map (fun i => i.zero.map (·.cells)) = some (some #[.int .i64 0, .int .i64 0]) := by kernel_rfl
theorem agg66 : aggB Try.prog 66 2 = true := by kernel_rfl
theorem plc66 : places Try.prog 66 = some [(0, 1), (1, 1)] := by kernel_rfl
theorem fld66_0 : fldB Try.prog 66 0 0 = true := by kernel_rfl
theorem fld66_1 : fldB Try.prog 66 1 1 = true := by kernel_rfl
theorem sca67 : scaB Try.prog 67 = true := by kernel_rfl
theorem zc67 : (Try.prog.info? 67).map (fun i => i.zero.map (·.cells)) = some (some #[.nilFunc]) := by kernel_rfl
theorem z67 : (Try.prog.info? 67).map (·.zero) = some (some (.nilFunc)) := by kernel_rfl
theorem sca68 : scaB Try.prog 68 = true := by kernel_rfl
theorem zc68 : (Try.prog.info? 68).map (fun i => i.zero.map (·.cells)) = some (some #[.nilFunc]) := by kernel_rfl
theorem z68 : (Try.prog.info? 68).map (·.zero) = some (some (.nilFunc)) := by kernel_rfl
theorem zc69 : (Try.prog.info? 69).map (fun i => i.zero.map (·.cells)) = some (some #[.string ByteArray.empty, .slice none 0 0]) := by kernel_rfl
theorem agg69 : aggB Try.prog 69 2 = true := by kernel_rfl
theorem plc69 : places Try.prog 69 = some [(0, 1), (1, 1)] := by kernel_rfl
theorem fld69_0 : fldB Try.prog 69 0 0 = true := by kernel_rfl
theorem fld69_1 : fldB Try.prog 69 1 1 = true := by kernel_rfl
theorem zc70 : (Try.prog.info? 70).map (fun i => i.zero.map (·.cells)) = some (some #[.string ByteArray.empty, .slice none 0 0]) := by kernel_rfl
theorem agg70 : aggB Try.prog 70 2 = true := by kernel_rfl
theorem plc70 : places Try.prog 70 = some [(0, 1), (1, 1)] := by kernel_rfl
theorem fld70_0 : fldB Try.prog 70 0 0 = true := by kernel_rfl
theorem fld70_1 : fldB Try.prog 70 1 1 = true := by kernel_rfl
theorem sca71 : scaB Try.prog 71 = true := by kernel_rfl
theorem zc71 : (Try.prog.info? 71).map (fun i => i.zero.map (·.cells)) = some (some #[.nilFunc]) := by kernel_rfl
theorem z71 : (Try.prog.info? 71).map (·.zero) = some (some (.nilFunc)) := by kernel_rfl
theorem sca72 : scaB Try.prog 72 = true := by kernel_rfl
theorem zc72 : (Try.prog.info? 72).map (fun i => i.zero.map (·.cells)) = some (some #[.nilFunc]) := by kernel_rfl
theorem z72 : (Try.prog.info? 72).map (·.zero) = some (some (.nilFunc)) := by kernel_rfl
theorem sca73 : scaB Try.prog 73 = true := by kernel_rfl
theorem zc73 : (Try.prog.info? 73).map (fun i => i.zero.map (·.cells)) = some (some #[.nilFunc]) := by kernel_rfl
theorem z73 : (Try.prog.info? 73).map (·.zero) = some (some (.nilFunc)) := by kernel_rfl
theorem sca74 : scaB Try.prog 74 = true := by kernel_rfl
theorem zc74 : (Try.prog.info? 74).map (fun i => i.zero.map (·.cells)) = some (some #[.nilFunc]) := by kernel_rfl
theorem z74 : (Try.prog.info? 74).map (·.zero) = some (some (.nilFunc)) := by kernel_rfl
theorem sca75 : scaB Try.prog 75 = true := by kernel_rfl
theorem zc75 : (Try.prog.info? 75).map (fun i => i.zero.map (·.cells)) = some (some #[.nilFunc]) := by kernel_rfl
theorem z75 : (Try.prog.info? 75).map (·.zero) = some (some (.nilFunc)) := by kernel_rfl
theorem sca76 : scaB Try.prog 76 = true := by kernel_rfl
theorem zc76 : (Try.prog.info? 76).map (fun i => i.zero.map (·.cells)) = some (some #[.nilFunc]) := by kernel_rfl
theorem z76 : (Try.prog.info? 76).map (·.zero) = some (some (.nilFunc)) := by kernel_rfl
theorem sca77 : scaB Try.prog 77 = true := by kernel_rfl
theorem zc77 : (Try.prog.info? 77).map (fun i => i.zero.map (·.cells)) = some (some #[.nilFunc]) := by kernel_rfl
theorem z77 : (Try.prog.info? 77).map (·.zero) = some (some (.nilFunc)) := by kernel_rfl
theorem sca78 : scaB Try.prog 78 = true := by kernel_rfl
theorem zc78 : (Try.prog.info? 78).map (fun i => i.zero.map (·.cells)) = some (some #[.nilFunc]) := by kernel_rfl
theorem z78 : (Try.prog.info? 78).map (·.zero) = some (some (.nilFunc)) := by kernel_rfl
theorem sca80 : scaB Try.prog 80 = true := by kernel_rfl
theorem zc80 : (Try.prog.info? 80).map (fun i => i.zero.map (·.cells)) = some (some #[.nilFunc]) := by kernel_rfl
theorem z80 : (Try.prog.info? 80).map (·.zero) = some (some (.nilFunc)) := by kernel_rfl
theorem sca81 : scaB Try.prog 81 = true := by kernel_rfl
theorem zc81 : (Try.prog.info? 81).map (fun i => i.zero.map (·.cells)) = some (some #[.nilFunc]) := by kernel_rfl
theorem z81 : (Try.prog.info? 81).map (·.zero) = some (some (.nilFunc)) := by kernel_rfl
theorem sca82 : scaB Try.prog 82 = true := by kernel_rfl
theorem zc82 : (Try.prog.info? 82).map (fun i => i.zero.map (·.cells)) = some (some #[.nilFunc]) := by kernel_rfl
theorem z82 : (Try.prog.info? 82).map (·.zero) = some (some (.nilFunc)) := by kernel_rfl
theorem sca83 : scaB Try.prog 83 = true := by kernel_rfl
theorem zc83 : (Try.prog.info? 83).map (fun i => i.zero.map (·.cells)) = some (some #[.nilFunc]) := by kernel_rfl
theorem z83 : (Try.prog.info? 83).map (·.zero) = some (some (.nilFunc)) := by kernel_rfl
theorem sca84 : scaB Try.prog 84 = true := by kernel_rfl
theorem zc84 : (Try.prog.info? 84).map (fun i => i.zero.map (·.cells)) = some (some #[.nilFunc]) := by kernel_rfl
theorem z84 : (Try.prog.info? 84).map (·.zero) = some (some (.nilFunc)) := by kernel_rfl
theorem sca85 : scaB Try.prog 85 = true := by kernel_rfl
theorem ptr85 : ptrB Try.prog 85 = true := by kernel_rfl
theorem zc85 : (Try.prog.info? 85).map (fun i => i.zero.map (·.cells)) = some (some #[.pointer none]) := by kernel_rfl
theorem z85 : (Try.prog.info? 85).map (·.zero) = some (some (.pointer none)) := by kernel_rfl
theorem zc86 : (Try.prog.info? 86).map (fun i => i.zero.map (·.cells)) = some (some #[.pointer none, .slice none 0 0]) := by kernel_rfl
theorem agg86 : aggB Try.prog 86 2 = true := by kernel_rfl
theorem plc86 : places Try.prog 86 = some [(0, 1), (1, 1)] := by kernel_rfl
theorem fld86_0 : fldB Try.prog 86 0 0 = true := by kernel_rfl
theorem fld86_1 : fldB Try.prog 86 1 1 = true := by kernel_rfl
theorem zc87 : (Try.prog.info? 87).map (fun i => i.zero.map (·.cells)) = some (some #[.pointer none, .slice none 0 0]) := by kernel_rfl
theorem agg87 : aggB Try.prog 87 2 = true := by kernel_rfl
theorem plc87 : places Try.prog 87 = some [(0, 1), (1, 1)] := by kernel_rfl
theorem fld87_0 : fldB Try.prog 87 0 0 = true := by kernel_rfl
theorem fld87_1 : fldB Try.prog 87 1 1 = true := by kernel_rfl
theorem sca88 : scaB Try.prog 88 = true := by kernel_rfl
theorem zc88 : (Try.prog.info? 88).map (fun i => i.zero.map (·.cells)) = some (some #[.nilFunc]) := by kernel_rfl
theorem z88 : (Try.prog.info? 88).map (·.zero) = some (some (.nilFunc)) := by kernel_rfl
theorem sca89 : scaB Try.prog 89 = true := by kernel_rfl
theorem zc89 : (Try.prog.info? 89).map (fun i => i.zero.map (·.cells)) = some (some #[.nilIface]) := by kernel_rfl
theorem z89 : (Try.prog.info? 89).map (·.zero) = some (some (.nilIface)) := by kernel_rfl
theorem sca90 : scaB Try.prog 90 = true := by kernel_rfl
theorem zc90 : (Try.prog.info? 90).map (fun i => i.zero.map (·.cells)) = some (some #[.nilIface]) := by kernel_rfl
theorem z90 : (Try.prog.info? 90).map (·.zero) = some (some (.nilIface)) := by kernel_rfl
theorem sca92 : scaB Try.prog 92 = true := by kernel_rfl
theorem zc92 : (Try.prog.info? 92).map (fun i => i.zero.map (·.cells)) = some (some #[.nilFunc]) := by kernel_rfl
theorem z92 : (Try.prog.info? 92).map (·.zero) = some (some (.nilFunc)) := by kernel_rfl
theorem sca93 : scaB Try.prog 93 = true := by kernel_rfl
theorem zc93 : (Try.prog.info? 93).map (fun i => i.zero.map (·.cells)) = some (some #[.nilFunc]) := by kernel_rfl
theorem z93 : (Try.prog.info? 93).map (·.zero) = some (some (.nilFunc)) := by kernel_rfl
theorem sca94 : scaB Try.prog 94 = true := by kernel_rfl
theorem zc94 : (Try.prog.info? 94).map (fun i => i.zero.map (·.cells)) = some (some #[.nilFunc]) := by kernel_rfl
theorem z94 : (Try.prog.info? 94).map (·.zero) = some (some (.nilFunc)) := by kernel_rfl
theorem sca95 : scaB Try.prog 95 = true := by kernel_rfl
theorem zc95 : (Try.prog.info? 95).map (fun i => i.zero.map (·.cells)) = some (some #[.nilFunc]) := by kernel_rfl
theorem z95 : (Try.prog.info? 95).map (·.zero) = some (some (.nilFunc)) := by kernel_rfl
theorem sca96 : scaB Try.prog 96 = true := by kernel_rfl
theorem zc96 : (Try.prog.info? 96).map (fun i => i.zero.map (·.cells)) = some (some #[.nilFunc]) := by kernel_rfl
theorem z96 : (Try.prog.info? 96).map (·.zero) = some (some (.nilFunc)) := by kernel_rfl
theorem ty97 : Try.prog.underlying 97 = some (.int .u64) := by kernel_rfl
theorem is97 : (Try.prog.underlying 97).isSome = true := by kernel_rfl
theorem sca97 : scaB Try.prog 97 = true := by kernel_rfl
theorem zc97 : (Try.prog.info? 97).map (fun i => i.zero.map (·.cells)) = some (some #[.int .u64 0]) := by kernel_rfl
theorem z97 : (Try.prog.info? 97).map (·.zero) = some (some (.int .u64 0)) := by kernel_rfl
theorem sca98 : scaB Try.prog 98 = true := by kernel_rfl
theorem ptr98 : ptrB Try.prog 98 = true := by kernel_rfl
theorem zc98 : (Try.prog.info? 98).map (fun i => i.zero.map (·.cells)) = some (some #[.pointer none]) := by kernel_rfl
theorem z98 : (Try.prog.info? 98).map (·.zero) = some (some (.pointer none)) := by kernel_rfl
theorem sca99 : scaB Try.prog 99 = true := by kernel_rfl
theorem zc99 : (Try.prog.info? 99).map (fun i => i.zero.map (·.cells)) = some (some #[.nilFunc]) := by kernel_rfl
theorem z99 : (Try.prog.info? 99).map (·.zero) = some (some (.nilFunc)) := by kernel_rfl
theorem ty100 : Try.prog.underlying 100 = some (.int .i64) := by kernel_rfl
theorem is100 : (Try.prog.underlying 100).isSome = true := by kernel_rfl
theorem sca100 : scaB Try.prog 100 = true := by kernel_rfl
theorem zc100 : (Try.prog.info? 100).map (fun i => i.zero.map (·.cells)) = some (some #[.int .i64 0]) := by kernel_rfl
theorem z100 : (Try.prog.info? 100).map (·.zero) = some (some (.int .i64 0)) := by kernel_rfl
theorem sca102 : scaB Try.prog 102 = true := by kernel_rfl
theorem zc102 : (Try.prog.info? 102).map (fun i => i.zero.map (·.cells)) = some (some #[.nilFunc]) := by kernel_rfl
theorem z102 : (Try.prog.info? 102).map (·.zero) = some (some (.nilFunc)) := by kernel_rfl
theorem sca103 : scaB Try.prog 103 = true := by kernel_rfl
theorem zc103 : (Try.prog.info? 103).map (fun i => i.zero.map (·.cells)) = some (some #[.nilFunc]) := by kernel_rfl
theorem z103 : (Try.prog.info? 103).map (·.zero) = some (some (.nilFunc)) := by kernel_rfl
theorem sca104 : scaB Try.prog 104 = true := by kernel_rfl
theorem zc104 : (Try.prog.info? 104).map (fun i => i.zero.map (·.cells)) = some (some #[.nilFunc]) := by kernel_rfl
theorem z104 : (Try.prog.info? 104).map (·.zero) = some (some (.nilFunc)) := by kernel_rfl
theorem sca105 : scaB Try.prog 105 = true := by kernel_rfl
theorem zc105 : (Try.prog.info? 105).map (fun i => i.zero.map (·.cells)) = some (some #[.nilFunc]) := by kernel_rfl
theorem z105 : (Try.prog.info? 105).map (·.zero) = some (some (.nilFunc)) := by kernel_rfl
theorem sca106 : scaB Try.prog 106 = true := by kernel_rfl
theorem zc106 : (Try.prog.info? 106).map (fun i => i.zero.map (·.cells)) = some (some #[.nilFunc]) := by kernel_rfl
theorem z106 : (Try.prog.info? 106).map (·.zero) = some (some (.nilFunc)) := by kernel_rfl
theorem ty107 : Try.prog.underlying 107 = some (.int .u32) := by kernel_rfl
theorem is107 : (Try.prog.underlying 107).isSome = true := by kernel_rfl
theorem sca107 : scaB Try.prog 107 = true := by kernel_rfl
theorem zc107 : (Try.prog.info? 107).map (fun i => i.zero.map (·.cells)) = some (some #[.int .u32 0]) := by kernel_rfl
theorem z107 : (Try.prog.info? 107).map (·.zero) = some (some (.int .u32 0)) := by kernel_rfl
theorem sca108 : scaB Try.prog 108 = true := by kernel_rfl
theorem zc108 : (Try.prog.info? 108).map (fun i => i.zero.map (·.cells)) = some (some #[.nilFunc]) := by kernel_rfl
theorem z108 : (Try.prog.info? 108).map (·.zero) = some (some (.nilFunc)) := by kernel_rfl
theorem ty109 : Try.prog.underlying 109 = some (.int .u64) := by kernel_rfl
theorem is109 : (Try.prog.underlying 109).isSome = true := by kernel_rfl
theorem sca109 : scaB Try.prog 109 = true := by kernel_rfl
theorem zc109 : (Try.prog.info? 109).map (fun i => i.zero.map (·.cells)) = some (some #[.int .u64 0]) := by kernel_rfl
theorem z109 : (Try.prog.info? 109).map (·.zero) = some (some (.int .u64 0)) := by kernel_rfl
theorem zc110 : (Try.prog.info? 110).map (fun i => i.zero.map (·.cells)) = some (some #[.pointer none]) := by kernel_rfl
theorem z110 : (Try.prog.info? 110).map (·.zero) = some (some (.pointer none)) := by kernel_rfl
theorem sca111 : scaB Try.prog 111 = true := by kernel_rfl
theorem zc111 : (Try.prog.info? 111).map (fun i => i.zero.map (·.cells)) = some (some #[.nilFunc]) := by kernel_rfl
theorem z111 : (Try.prog.info? 111).map (·.zero) = some (some (.nilFunc)) := by kernel_rfl
theorem sca112 : scaB Try.prog 112 = true := by kernel_rfl
theorem zc112 : (Try.prog.info? 112).map (fun i => i.zero.map (·.cells)) = some (some #[.nilFunc]) := by kernel_rfl
theorem z112 : (Try.prog.info? 112).map (·.zero) = some (some (.nilFunc)) := by kernel_rfl
theorem ty113 : Try.prog.underlying 113 = some (.int .u64) := by kernel_rfl
theorem is113 : (Try.prog.underlying 113).isSome = true := by kernel_rfl
theorem sca113 : scaB Try.prog 113 = true := by kernel_rfl
theorem zc113 : (Try.prog.info? 113).map (fun i => i.zero.map (·.cells)) = some (some #[.int .u64 0]) := by kernel_rfl
theorem z113 : (Try.prog.info? 113).map (·.zero) = some (some (.int .u64 0)) := by kernel_rfl
theorem sca114 : scaB Try.prog 114 = true := by kernel_rfl
theorem zc114 : (Try.prog.info? 114).map (fun i => i.zero.map (·.cells)) = some (some #[.nilFunc]) := by kernel_rfl
theorem z114 : (Try.prog.info? 114).map (·.zero) = some (some (.nilFunc)) := by kernel_rfl
theorem sca115 : scaB Try.prog 115 = true := by kernel_rfl
theorem zc115 : (Try.prog.info? 115).map (fun i => i.zero.map (·.cells)) = some (some #[.nilFunc]) := by kernel_rfl
theorem z115 : (Try.prog.info? 115).map (·.zero) = some (some (.nilFunc)) := by kernel_rfl
theorem sca116 : scaB Try.prog 116 = true := by kernel_rfl
theorem zc116 : (Try.prog.info? 116).map (fun i => i.zero.map (·.cells)) = some (some #[.nilFunc]) := by kernel_rfl
theorem z116 : (Try.prog.info? 116).map (·.zero) = some (some (.nilFunc)) := by kernel_rfl
theorem sca117 : scaB Try.prog 117 = true := by kernel_rfl
theorem ptr117 : ptrB Try.prog 117 = true := by kernel_rfl
theorem zc117 : (Try.prog.info? 117).map (fun i => i.zero.map (·.cells)) = some (some #[.pointer none]) := by kernel_rfl
theorem z117 : (Try.prog.info? 117).map (·.zero) = some (some (.pointer none)) := by kernel_rfl
theorem sca118 : scaB Try.prog 118 = true := by kernel_rfl
theorem zc118 : (Try.prog.info? 118).map (fun i => i.zero.map (·.cells)) = some (some #[.nilFunc]) := by kernel_rfl
theorem z118 : (Try.prog.info? 118).map (·.zero) = some (some (.nilFunc)) := by kernel_rfl
theorem sca119 : scaB Try.prog 119 = true := by kernel_rfl
theorem ptr119 : ptrB Try.prog 119 = true := by kernel_rfl
theorem zc119 : (Try.prog.info? 119).map (fun i => i.zero.map (·.cells)) = some (some #[.pointer none]) := by kernel_rfl
theorem z119 : (Try.prog.info? 119).map (·.zero) = some (some (.pointer none)) := by kernel_rfl
theorem sca120 : scaB Try.prog 120 = true := by kernel_rfl
theorem zc120 : (Try.prog.info? 120).map (fun i => i.zero.map (·.cells)) = some (some #[.nilFunc]) := by kernel_rfl
theorem z120 : (Try.prog.info? 120).map (·.zero) = some (some (.nilFunc)) := by kernel_rfl
theorem zc121 : (Try.prog.info? 121).map (fun i => i.zero.map (·.cells)) = some (some #[.pointer none, .pointer none, .pointer none, .string ByteArray.empty]) := by kernel_rfl
theorem agg121 : aggB Try.prog 121 4 = true := by kernel_rfl
theorem plc121 : places Try.prog 121 = some [(0, 1), (1, 1), (2, 1), (3, 1)] := by kernel_rfl
theorem fld121_0 : fldB Try.prog 121 0 0 = true := by kernel_rfl
theorem fld121_1 : fldB Try.prog 121 1 1 = true := by kernel_rfl
theorem fld121_2 : fldB Try.prog 121 2 2 = true := by kernel_rfl
theorem fld121_3 : fldB Try.prog 121 3 3 = true := by kernel_rfl
theorem zc122 : (Try.prog.info? 122).map (fun i => i.zero.map (·.cells)) = some (some #[.pointer none, .pointer none, .pointer none, .string ByteArray.empty]) := by kernel_rfl
theorem agg122 : aggB Try.prog 122 4 = true := by kernel_rfl
theorem plc122 : places Try.prog 122 = some [(0, 1), (1, 1), (2, 1), (3, 1)] := by kernel_rfl
theorem fld122_0 : fldB Try.prog 122 0 0 = true := by kernel_rfl
theorem fld122_1 : fldB Try.prog 122 1 1 = true := by kernel_rfl
theorem fld122_2 : fldB Try.prog 122 2 2 = true := by kernel_rfl
theorem fld122_3 : fldB Try.prog 122 3 3 = true := by kernel_rfl
theorem zc123 : (Try.prog.info? 123).map (fun i => i.zero.map (·.cells)) = some (some #[]) := by kernel_rfl
theorem zc124 : (Try.prog.info? 124).map (fun i => i.zero.map (·.cells)) = some (some #[]) := by kernel_rfl
theorem zc125 : (Try.prog.info? 125).map (fun i => i.zero.map (·.cells)) = some (some #[]) := by kernel_rfl
theorem sca126 : scaB Try.prog 126 = true := by kernel_rfl
theorem zc126 : (Try.prog.info? 126).map (fun i => i.zero.map (·.cells)) = some (some #[.nilFunc]) := by kernel_rfl
theorem z126 : (Try.prog.info? 126).map (·.zero) = some (some (.nilFunc)) := by kernel_rfl
theorem ty127 : Try.prog.underlying 127 = some (.int .u8) := by kernel_rfl
theorem is127 : (Try.prog.underlying 127).isSome = true := by kernel_rfl
theorem sca127 : scaB Try.prog 127 = true := by kernel_rfl
theorem zc127 : (Try.prog.info? 127).map (fun i => i.zero.map (·.cells)) = some (some #[.int .u8 0]) := by kernel_rfl
theorem z127 : (Try.prog.info? 127).map (·.zero) = some (some (.int .u8 0)) := by kernel_rfl
theorem ty128 : Try.prog.underlying 128 = some (.int .u8) := by kernel_rfl
theorem is128 : (Try.prog.underlying 128).isSome = true := by kernel_rfl
theorem sca128 : scaB Try.prog 128 = true := by kernel_rfl
theorem zc128 : (Try.prog.info? 128).map (fun i => i.zero.map (·.cells)) = some (some #[.int .u8 0]) := by kernel_rfl
theorem z128 : (Try.prog.info? 128).map (·.zero) = some (some (.int .u8 0)) := by kernel_rfl
theorem sca129 : scaB Try.prog 129 = true := by kernel_rfl
theorem zc129 : (Try.prog.info? 129).map (fun i => i.zero.map (·.cells)) = some (some #[.nilFunc]) := by kernel_rfl
theorem z129 : (Try.prog.info? 129).map (·.zero) = some (some (.nilFunc)) := by kernel_rfl
theorem ty130 : Try.prog.underlying 130 = some (.int .i32) := by kernel_rfl
theorem is130 : (Try.prog.underlying 130).isSome = true := by kernel_rfl
theorem sca130 : scaB Try.prog 130 = true := by kernel_rfl
theorem zc130 : (Try.prog.info? 130).map (fun i => i.zero.map (·.cells)) = some (some #[.int .i32 0]) := by kernel_rfl
theorem z130 : (Try.prog.info? 130).map (·.zero) = some (some (.int .i32 0)) := by kernel_rfl
theorem ty131 : Try.prog.underlying 131 = some (.int .i32) := by kernel_rfl
theorem is131 : (Try.prog.underlying 131).isSome = true := by kernel_rfl
theorem sca131 : scaB Try.prog 131 = true := by kernel_rfl
theorem zc131 : (Try.prog.info? 131).map (fun i => i.zero.map (·.cells)) = some (some #[.int .i32 0]) := by kernel_rfl
theorem z131 : (Try.prog.info? 131).map (·.zero) = some (some (.int .i32 0)) := by kernel_rfl
theorem zc132 : (Try.prog.info? 132).map (fun i => i.zero.map (·.cells)) = some (some #[.int .u64 0, .int .u64 0, .int .u32 0, .int .u8 0, .int .u8 0, .int .u8 0, .int .u8 0, .nilFunc, .pointer none, .int .i32 0, .int .i32 0]) := by kernel_rfl
theorem agg132 : aggB Try.prog 132 11 = true := by kernel_rfl
theorem plc132 : places Try.prog 132 = some [(0, 1), (1, 1), (2, 1), (3, 1), (4, 1), (5, 1), (6, 1), (7, 1), (8, 1), (9, 1), (10, 1)] := by kernel_rfl
theorem fld132_0 : fldB Try.prog 132 0 0 = true := by kernel_rfl
theorem fld132_1 : fldB Try.prog 132 1 1 = true := by kernel_rfl
theorem fld132_2 : fldB Try.prog 132 2 2 = true := by kernel_rfl
theorem fld132_3 : fldB Try.prog 132 3 3 = true := by kernel_rfl
theorem fld132_4 : fldB Try.prog 132 4 4 = true := by kernel_rfl
theorem fld132_5 : fldB Try.prog 132 5 5 = true := by kernel_rfl
theorem fld132_6 : fldB Try.prog 132 6 6 = true := by kernel_rfl
theorem fld132_7 : fldB Try.prog 132 7 7 = true := by kernel_rfl
theorem fld132_8 : fldB Try.prog 132 8 8 = true := by kernel_rfl
theorem fld132_9 : fldB Try.prog 132 9 9 = true := by kernel_rfl
theorem fld132_10 : fldB Try.prog 132 10 10 = true := by kernel_rfl
theorem zc133 : (Try.prog.info? 133).map (fun i => i.zero.map (·.cells)) = some (some #[.int .u64 0, .int .u64 0, .int .u32 0, .int .u8 0, .int .u8 0, .int .u8 0, .int .u8 0, .nilFunc, .pointer none, .int .i32 0, .int .i32 0]) := by kernel_rfl
theorem agg133 : aggB Try.prog 133 11 = true := by kernel_rfl
theorem plc133 : places Try.prog 133 = some [(0, 1), (1, 1), (2, 1), (3, 1), (4, 1), (5, 1), (6, 1), (7, 1), (8, 1), (9, 1), (10, 1)] := by kernel_rfl
theorem fld133_0 : fldB Try.prog 133 0 0 = true := by kernel_rfl
theorem fld133_1 : fldB Try.prog 133 1 1 = true := by kernel_rfl
theorem fld133_2 : fldB Try.prog 133 2 2 = true := by kernel_rfl
theorem fld133_3 : fldB Try.prog 133 3 3 = true := by kernel_rfl
theorem fld133_4 : fldB Try.prog 133 4 4 = true := by kernel_rfl
theorem fld133_5 : fldB Try.prog 133 5 5 = true := by kernel_rfl
theorem fld133_6 : fldB Try.prog 133 6 6 = true := by kernel_rfl
theorem fld133_7 : fldB Try.prog 133 7 7 = true := by kernel_rfl
theorem fld133_8 : fldB Try.prog 133 8 8 = true := by kernel_rfl
theorem fld133_9 : fldB Try.prog 133 9 9 = true := by kernel_rfl
theorem fld133_10 : fldB Try.prog 133 10 10 = true := by kernel_rfl
theorem fn3 : fnB Try.prog 3 = true := by kernel_rfl
theorem fn4 : fnB Try.prog 4 = true := by kernel_rfl
theorem fn5 : fnB Try.prog 5 = true := by kernel_rfl
theorem fn6 : fnB Try.prog 6 = true := by kernel_rfl
theorem fn7 : fnB Try.prog 7 = true := by kernel_rfl
theorem fn8 : fnB Try.prog 8 = true := by kernel_rfl
theorem fn9 : fnB Try.prog 9 = true := by kernel_rfl
theorem fn10 : fnB Try.prog 10 = true := by kernel_rfl
theorem fn11 : fnB Try.prog 11 = true := by kernel_rfl
theorem fn12 : fnB Try.prog 12 = true := by kernel_rfl
theorem fn13 : fnB Try.prog 13 = true := by kernel_rfl
theorem fn14 : fnB Try.prog 14 = true := by kernel_rfl
theorem fn15 : fnB Try.prog 15 = true := by kernel_rfl
theorem fn16 : fnB Try.prog 16 = true := by kernel_rfl
theorem fn17 : fnB Try.prog 17 = true := by kernel_rfl
theorem fn18 : fnB Try.prog 18 = true := by kernel_rfl
theorem fn19 : fnB Try.prog 19 = true := by kernel_rfl
theorem fn20 : fnB Try.prog 20 = true := by kernel_rfl
theorem fn21 : fnB Try.prog 21 = true := by kernel_rfl
theorem fn22 : fnB Try.prog 22 = true := by kernel_rfl
theorem fn23 : fnB Try.prog 23 = true := by kernel_rfl
theorem fn24 : fnB Try.prog 24 = true := by kernel_rfl
theorem fn25 : fnB Try.prog 25 = true := by kernel_rfl
theorem fn26 : fnB Try.prog 26 = true := by kernel_rfl
theorem fn27 : fnB Try.prog 27 = true := by kernel_rfl
theorem fn28 : fnB Try.prog 28 = true := by kernel_rfl
theorem fn29 : fnB Try.prog 29 = true := by kernel_rfl
theorem fn30 : fnB Try.prog 30 = true := by kernel_rfl
theorem fn31 : fnB Try.prog 31 = true := by kernel_rfl
theorem fn32 : fnB Try.prog 32 = true := by kernel_rfl
theorem fn33 : fnB Try.prog 33 = true := by kernel_rfl
theorem fn34 : fnB Try.prog 34 = true := by kernel_rfl
theorem fn35 : fnB Try.prog 35 = true := by kernel_rfl
theorem fn36 : fnB Try.prog 36 = true := by kernel_rfl
theorem fn37 : fnB Try.prog 37 = true := by kernel_rfl
theorem fn38 : fnB Try.prog 38 = true := by kernel_rfl
theorem fn39 : fnB Try.prog 39 = true := by kernel_rfl
theorem fn40 : fnB Try.prog 40 = true := by kernel_rfl
theorem fn41 : fnB Try.prog 41 = true := by kernel_rfl
theorem fn42 : fnB Try.prog 42 = true := by kernel_rfl
theorem fn43 : fnB Try.prog 43 = true := by kernel_rfl
theorem fn44 : fnB Try.prog 44 = true := by kernel_rfl
theorem fn45 : fnB Try.prog 45 = true := by kernel_rfl
theorem fn46 : fnB Try.prog 46 = true := by kernel_rfl
theorem fn47 : fnB Try.prog 47 = true := by kernel_rfl
theorem fn48 : fnB Try.prog 48 = true := by kernel_rfl
theorem fn49 : fnB Try.prog 49 = true := by kernel_rfl
theorem fn50 : fnB Try.prog 50 = true := by kernel_rfl
theorem fn51 : fnB Try.prog 51 = true := by kernel_rfl
theorem fn52 : fnB Try.prog 52 = true := by kernel_rfl
theorem fn53 : fnB Try.prog 53 = true := by kernel_rfl
theorem fn54 : fnB Try.prog 54 = true := by kernel_rfl
theorem fn55 : fnB Try.prog 55 = true := by kernel_rfl
theorem fn56 : fnB Try.prog 56 = true := by kernel_rfl
theorem fn57 : fnB Try.prog 57 = true := by kernel_rfl
theorem fn58 : fnB Try.prog 58 = true := by kernel_rfl
theorem fn59 : fnB Try.prog 59 = true := by kernel_rfl
theorem fn60 : fnB Try.prog 60 = true := by kernel_rfl
theorem fn61 : fnB Try.prog 61 = true := by kernel_rfl
theorem fn62 : fnB Try.prog 62 = true := by kernel_rfl
theorem fn63 : fnB Try.prog 63 = true := by kernel_rfl
theorem fn64 : fnB Try.prog 64 = true := by kernel_rfl
theorem fn65 : fnB Try.prog 65 = true := by kernel_rfl
theorem fn66 : fnB Try.prog 66 = true := by kernel_rfl
theorem fn67 : fnB Try.prog 67 = true := by kernel_rfl
theorem fn68 : fnB Try.prog 68 = true := by kernel_rfl
theorem fn69 : fnB Try.prog 69 = true := by kernel_rfl
theorem fn70 : fnB Try.prog 70 = true := by kernel_rfl
theorem fn71 : fnB Try.prog 71 = true := by kernel_rfl
theorem fn72 : fnB Try.prog 72 = true := by kernel_rfl
theorem fn73 : fnB Try.prog 73 = true := by kernel_rfl
theorem fn74 : fnB Try.prog 74 = true := by kernel_rfl
theorem fn75 : fnB Try.prog 75 = true := by kernel_rfl
theorem fn76 : fnB Try.prog 76 = true := by kernel_rfl
theorem fn77 : fnB Try.prog 77 = true := by kernel_rfl
theorem fn78 : fnB Try.prog 78 = true := by kernel_rfl
theorem fn79 : fnB Try.prog 79 = true := by kernel_rfl
theorem fn82 : fnB Try.prog 82 = true := by kernel_rfl
theorem fn83 : fnB Try.prog 83 = true := by kernel_rfl
theorem fn84 : fnB Try.prog 84 = true := by kernel_rfl
theorem fn85 : fnB Try.prog 85 = true := by kernel_rfl
theorem fn86 : fnB Try.prog 86 = true := by kernel_rfl
theorem fn87 : fnB Try.prog 87 = true := by kernel_rfl
theorem mixed : Try.prog.follows .mixedOrders = true := by kernel_rfl
end Go.Proofs.Ytpamandneifemaa
