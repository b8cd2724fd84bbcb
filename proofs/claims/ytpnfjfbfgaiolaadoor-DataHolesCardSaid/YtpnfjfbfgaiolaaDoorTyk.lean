/- Closed facts on types and functions of the program. No condition. -/
import Derived.Test.YtpnfjfbfgaiolaaDoorKA
import Derived.KernelRfl
namespace Go.Proofs.YtpnfjfbfgaiolaaDoor
open Go Go.RowKit
theorem sca1 : scaB Tryd.prog 1 = true := by kernel_rfl
theorem zc1 : (Tryd.prog.info? 1).map (fun i => i.zero.map (·.cells)) = some (some #[.nilFunc]) := by kernel_rfl
theorem z1 : (Tryd.prog.info? 1).map (·.zero) = some (some (.nilFunc)) := by kernel_rfl
theorem ty2 : Tryd.prog.underlying 2 = some (.int .i64) := by kernel_rfl
theorem is2 : (Tryd.prog.underlying 2).isSome = true := by kernel_rfl
theorem sca2 : scaB Tryd.prog 2 = true := by kernel_rfl
theorem zc2 : (Tryd.prog.info? 2).map (fun i => i.zero.map (·.cells)) = some (some #[.int .i64 0]) := by kernel_rfl
theorem z2 : (Tryd.prog.info? 2).map (·.zero) = some (some (.int .i64 0)) := by kernel_rfl
theorem ty3 : Tryd.prog.underlying 3 = some (.int .i64) := by kernel_rfl
theorem is3 : (Tryd.prog.underlying 3).isSome = true := by kernel_rfl
theorem sca3 : scaB Tryd.prog 3 = true := by kernel_rfl
theorem zc3 : (Tryd.prog.info? 3).map (fun i => i.zero.map (·.cells)) = some (some #[.int .i64 0]) := by kernel_rfl
theorem z3 : (Tryd.prog.info? 3).map (·.zero) = some (some (.int .i64 0)) := by kernel_rfl
theorem sca4 : scaB Tryd.prog 4 = true := by kernel_rfl
theorem zc4 : (Tryd.prog.info? 4).map (fun i => i.zero.map (·.cells)) = some (some #[.bool false]) := by kernel_rfl
theorem z4 : (Tryd.prog.info? 4).map (·.zero) = some (some (.bool false)) := by kernel_rfl
theorem ty4 : Tryd.prog.underlying 4 = some .bool := by kernel_rfl
theorem ty5 : Tryd.prog.underlying 5 = some (.int .u8) := by kernel_rfl
theorem is5 : (Tryd.prog.underlying 5).isSome = true := by kernel_rfl
theorem sca5 : scaB Tryd.prog 5 = true := by kernel_rfl
theorem zc5 : (Tryd.prog.info? 5).map (fun i => i.zero.map (·.cells)) = some (some #[.int .u8 0]) := by kernel_rfl
theorem z5 : (Tryd.prog.info? 5).map (·.zero) = some (some (.int .u8 0)) := by kernel_rfl
theorem ty6 : Tryd.prog.underlying 6 = some (.int .u8) := by kernel_rfl
theorem is6 : (Tryd.prog.underlying 6).isSome = true := by kernel_rfl
theorem sca6 : scaB Tryd.prog 6 = true := by kernel_rfl
theorem zc6 : (Tryd.prog.info? 6).map (fun i => i.zero.map (·.cells)) = some (some #[.int .u8 0]) := by kernel_rfl
theorem z6 : (Tryd.prog.info? 6).map (·.zero) = some (some (.int .u8 0)) := by kernel_rfl
theorem zc7 : (Tryd.prog.info? 7).map (fun i => i.zero.map (·.cells)) = some (some #[.int .i64 0, .int .i64 0, .bool false, .int .u8 0]) := by kernel_rfl
theorem agg7 : aggB Tryd.prog 7 4 = true := by kernel_rfl
theorem plc7 : places Tryd.prog 7 = some [(0, 1), (1, 1), (2, 1), (3, 1)] := by kernel_rfl
theorem fld7_0 : fldB Tryd.prog 7 0 0 = true := by kernel_rfl
theorem fld7_1 : fldB Tryd.prog 7 1 1 = true := by kernel_rfl
theorem fld7_2 : fldB Tryd.prog 7 2 2 = true := by kernel_rfl
theorem fld7_3 : fldB Tryd.prog 7 3 3 = true := by kernel_rfl
theorem zc8 : (Tryd.prog.info? 8).map (fun i => i.zero.map (·.cells)) = some (some #[.int .i64 0, .int .i64 0, .bool false, .int .u8 0]) := by kernel_rfl
theorem agg8 : aggB Tryd.prog 8 4 = true := by kernel_rfl
theorem plc8 : places Tryd.prog 8 = some [(0, 1), (1, 1), (2, 1), (3, 1)] := by kernel_rfl
theorem fld8_0 : fldB Tryd.prog 8 0 0 = true := by kernel_rfl
theorem fld8_1 : fldB Tryd.prog 8 1 1 = true := by kernel_rfl
theorem fld8_2 : fldB Tryd.prog 8 2 2 = true := by kernel_rfl
theorem fld8_3 : fldB Tryd.prog 8 3 3 = true := by kernel_rfl
theorem ty9 : Tryd.prog.underlying 9 = some .string := by kernel_rfl
theorem sca9 : scaB Tryd.prog 9 = true := by kernel_rfl
theorem zc9 : (Tryd.prog.info? 9).map (fun i => i.zero.map (·.cells)) = some (some #[.string ByteArray.empty]) := by kernel_rfl
theorem z9 : (Tryd.prog.info? 9).map (·.zero) = some (some (.string ByteArray.empty)) := by kernel_rfl
theorem ty10 : Tryd.prog.underlying 10 = some .string := by kernel_rfl
theorem sca10 : scaB Tryd.prog 10 = true := by kernel_rfl
theorem zc10 : (Tryd.prog.info? 10).map (fun i => i.zero.map (·.cells)) = some (some #[.string ByteArray.empty]) := by kernel_rfl
theorem z10 : (Tryd.prog.info? 10).map (·.zero) = some (some (.string ByteArray.empty)) := by kernel_rfl
theorem ty11 : Tryd.prog.underlying 11 = some .string := by kernel_rfl
theorem sca11 : scaB Tryd.prog 11 = true := by kernel_rfl
theorem zc11 : (Tryd.prog.info? 11).map (fun i => i.zero.map (·.cells)) = some (some #[.string ByteArray.empty]) := by kernel_rfl
theorem z11 : (Tryd.prog.info? 11).map (·.zero) = some (some (.string ByteArray.empty)) := by kernel_rfl
theorem ty12 : Tryd.prog.underlying 12 = some (.int .u64) := by kernel_rfl
theorem is12 : (Tryd.prog.underlying 12).isSome = true := by kernel_rfl
theorem sca12 : scaB Tryd.prog 12 = true := by kernel_rfl
theorem zc12 : (Tryd.prog.info? 12).map (fun i => i.zero.map (·.cells)) = some (some #[.int .u64 0]) := by kernel_rfl
theorem z12 : (Tryd.prog.info? 12).map (·.zero) = some (some (.int .u64 0)) := by kernel_rfl
theorem zc13 : (Tryd.prog.info? 13).map (fun i => i.zero.map (·.cells)) = some (some #[.string ByteArray.empty, .int .u64 0]) := by kernel_rfl
theorem agg13 : aggB Tryd.prog 13 2 = true := by kernel_rfl
theorem plc13 : places Tryd.prog 13 = some [(0, 1), (1, 1)] := by kernel_rfl
theorem fld13_0 : fldB Tryd.prog 13 0 0 = true := by kernel_rfl
theorem fld13_1 : fldB Tryd.prog 13 1 1 = true := by kernel_rfl
theorem zc14 : (Tryd.prog.info? 14).map (fun i => i.zero.map (·.cells)) = some (some #[.string ByteArray.empty, .int .u64 0]) := by kernel_rfl
theorem agg14 : aggB Tryd.prog 14 2 = true := by kernel_rfl
theorem plc14 : places Tryd.prog 14 = some [(0, 1), (1, 1)] := by kernel_rfl
theorem fld14_0 : fldB Tryd.prog 14 0 0 = true := by kernel_rfl
theorem fld14_1 : fldB Tryd.prog 14 1 1 = true := by kernel_rfl
theorem sca15 : scaB Tryd.prog 15 = true := by kernel_rfl
theorem ptr15 : ptrB Tryd.prog 15 = true := by kernel_rfl
theorem zc15 : (Tryd.prog.info? 15).map (fun i => i.zero.map (·.cells)) = some (some #[.pointer none]) := by kernel_rfl
theorem z15 : (Tryd.prog.info? 15).map (·.zero) = some (some (.pointer none)) := by kernel_rfl
theorem sca16 : scaB Tryd.prog 16 = true := by kernel_rfl
theorem ptr16 : ptrB Tryd.prog 16 = true := by kernel_rfl
theorem zc16 : (Tryd.prog.info? 16).map (fun i => i.zero.map (·.cells)) = some (some #[.pointer none]) := by kernel_rfl
theorem z16 : (Tryd.prog.info? 16).map (·.zero) = some (some (.pointer none)) := by kernel_rfl
theorem sca17 : scaB Tryd.prog 17 = true := by kernel_rfl
theorem ptr17 : ptrB Tryd.prog 17 = true := by kernel_rfl
theorem zc17 : (Tryd.prog.info? 17).map (fun i => i.zero.map (·.cells)) = some (some #[.pointer none]) := by kernel_rfl
theorem z17 : (Tryd.prog.info? 17).map (·.zero) = some (some (.pointer none)) := by kernel_rfl
theorem zc18 : (Tryd.prog.info? 18).map (fun i => i.zero.map (·.cells)) = some (some #[.pointer none]) := by kernel_rfl
theorem agg18 : aggB Tryd.prog 18 1 = true := by kernel_rfl
theorem plc18 : places Tryd.prog 18 = some [(0, 1)] := by kernel_rfl
theorem fld18_0 : fldB Tryd.prog 18 0 0 = true := by kernel_rfl
theorem zc19 : (Tryd.prog.info? 19).map (fun i => i.zero.map (·.cells)) = some (some #[.pointer none]) := by kernel_rfl
theorem agg19 : aggB Tryd.prog 19 1 = true := by kernel_rfl
theorem plc19 : places Tryd.prog 19 = some [(0, 1)] := by kernel_rfl
theorem fld19_0 : fldB Tryd.prog 19 0 0 = true := by kernel_rfl
theorem sca20 : scaB Tryd.prog 20 = true := by kernel_rfl
theorem zc20 : (Tryd.prog.info? 20).map (fun i => i.zero.map (·.cells)) = some (some #[.nilIface]) := by kernel_rfl
theorem z20 : (Tryd.prog.info? 20).map (·.zero) = some (some (.nilIface)) := by kernel_rfl
theorem ty21 : Tryd.prog.underlying 21 = some (.int .i32) := by kernel_rfl
theorem is21 : (Tryd.prog.underlying 21).isSome = true := by kernel_rfl
theorem sca21 : scaB Tryd.prog 21 = true := by kernel_rfl
theorem zc21 : (Tryd.prog.info? 21).map (fun i => i.zero.map (·.cells)) = some (some #[.int .i32 0]) := by kernel_rfl
theorem z21 : (Tryd.prog.info? 21).map (·.zero) = some (some (.int .i32 0)) := by kernel_rfl
theorem sca22 : scaB Tryd.prog 22 = true := by kernel_rfl
theorem sl22 : SliceT Tryd.prog 22 23 1 24 := ⟨by kernel_rfl, by kernel_rfl⟩
theorem zc22 : (Tryd.prog.info? 22).map (fun i => i.zero.map (·.cells)) = some (some #[.slice none 0 0]) := by kernel_rfl
theorem z22 : (Tryd.prog.info? 22).map (·.zero) = some (some (.slice none 0 0)) := by kernel_rfl
theorem sca23 : scaB Tryd.prog 23 = true := by kernel_rfl
theorem sl23 : SliceT Tryd.prog 23 5 1 1 := ⟨by kernel_rfl, by kernel_rfl⟩
theorem zc23 : (Tryd.prog.info? 23).map (fun i => i.zero.map (·.cells)) = some (some #[.slice none 0 0]) := by kernel_rfl
theorem z23 : (Tryd.prog.info? 23).map (·.zero) = some (some (.slice none 0 0)) := by kernel_rfl
theorem sca24 : scaB Tryd.prog 24 = true := by kernel_rfl
theorem zc24 : (Tryd.prog.info? 24).map (fun i => i.zero.map (·.cells)) = some (some #[.nilFunc]) := by kernel_rfl
theorem z24 : (Tryd.prog.info? 24).map (·.zero) = some (some (.nilFunc)) := by kernel_rfl
theorem sca25 : scaB Tryd.prog 25 = true := by kernel_rfl
theorem zc25 : (Tryd.prog.info? 25).map (fun i => i.zero.map (·.cells)) = some (some #[.nilFunc]) := by kernel_rfl
theorem z25 : (Tryd.prog.info? 25).map (·.zero) = some (some (.nilFunc)) := by kernel_rfl
theorem ty26 : Tryd.prog.underlying 26 = some (.int .u32) := by kernel_rfl
theorem is26 : (Tryd.prog.underlying 26).isSome = true := by kernel_rfl
theorem sca26 : scaB Tryd.prog 26 = true := by kernel_rfl
theorem zc26 : (Tryd.prog.info? 26).map (fun i => i.zero.map (·.cells)) = some (some #[.int .u32 0]) := by kernel_rfl
theorem z26 : (Tryd.prog.info? 26).map (·.zero) = some (some (.int .u32 0)) := by kernel_rfl
theorem agg27 : aggB Tryd.prog 27 256 = true := by kernel_rfl
theorem agg28 : aggB Tryd.prog 28 256 = true := by kernel_rfl
theorem sca29 : scaB Tryd.prog 29 = true := by kernel_rfl
theorem zc29 : (Tryd.prog.info? 29).map (fun i => i.zero.map (·.cells)) = some (some #[.nilFunc]) := by kernel_rfl
theorem z29 : (Tryd.prog.info? 29).map (·.zero) = some (some (.nilFunc)) := by kernel_rfl
theorem sca30 : scaB Tryd.prog 30 = true := by kernel_rfl
theorem ptr30 : ptrB Tryd.prog 30 = true := by kernel_rfl
theorem zc30 : (Tryd.prog.info? 30).map (fun i => i.zero.map (·.cells)) = some (some #[.pointer none]) := by kernel_rfl
theorem z30 : (Tryd.prog.info? 30).map (·.zero) = some (some (.pointer none)) := by kernel_rfl
theorem sca31 : scaB Tryd.prog 31 = true := by kernel_rfl
theorem zc31 : (Tryd.prog.info? 31).map (fun i => i.zero.map (·.cells)) = some (some #[.nilFunc]) := by kernel_rfl
theorem z31 : (Tryd.prog.info? 31).map (·.zero) = some (some (.nilFunc)) := by kernel_rfl
theorem sca32 : scaB Tryd.prog 32 = true := by kernel_rfl
theorem ptr32 : ptrB Tryd.prog 32 = true := by kernel_rfl
theorem zc32 : (Tryd.prog.info? 32).map (fun i => i.zero.map (·.cells)) = some (some #[.pointer none]) := by kernel_rfl
theorem z32 : (Tryd.prog.info? 32).map (·.zero) = some (some (.pointer none)) := by kernel_rfl
theorem sca33 : scaB Tryd.prog 33 = true := by kernel_rfl
theorem sl33 : SliceT Tryd.prog 33 3 1 8 := ⟨by kernel_rfl, by kernel_rfl⟩
theorem zc33 : (Tryd.prog.info? 33).map (fun i => i.zero.map (·.cells)) = some (some #[.slice none 0 0]) := by kernel_rfl
theorem z33 : (Tryd.prog.info? 33).map (·.zero) = some (some (.slice none 0 0)) := by kernel_rfl
theorem sca35 : scaB Tryd.prog 35 = true := by kernel_rfl
theorem zc35 : (Tryd.prog.info? 35).map (fun i => i.zero.map (·.cells)) = some (some #[.nilFunc]) := by kernel_rfl
theorem z35 : (Tryd.prog.info? 35).map (·.zero) = some (some (.nilFunc)) := by kernel_rfl
theorem sca36 : scaB Tryd.prog 36 = true := by kernel_rfl
theorem zc36 : (Tryd.prog.info? 36).map (fun i => i.zero.map (·.cells)) = some (some #[.nilFunc]) := by kernel_rfl
theorem z36 : (Tryd.prog.info? 36).map (·.zero) = some (some (.nilFunc)) := by kernel_rfl
theorem sca37 : scaB Tryd.prog 37 = true := by kernel_rfl
theorem zc37 : (Tryd.prog.info? 37).map (fun i => i.zero.map (·.cells)) = some (some #[.nilFunc]) := by kernel_rfl
theorem z37 : (Tryd.prog.info? 37).map (·.zero) = some (some (.nilFunc)) := by kernel_rfl
theorem sca38 : scaB Tryd.prog 38 = true := by kernel_rfl
theorem sl38 : SliceT Tryd.prog 38 4 1 1 := ⟨by kernel_rfl, by kernel_rfl⟩
theorem zc38 : (Tryd.prog.info? 38).map (fun i => i.zero.map (·.cells)) = some (some #[.slice none 0 0]) := by kernel_rfl
theorem z38 : (Tryd.prog.info? 38).map (·.zero) = some (some (.slice none 0 0)) := by kernel_rfl
theorem sca39 : scaB Tryd.prog 39 = true := by kernel_rfl
theorem ptr39 : ptrB Tryd.prog 39 = true := by kernel_rfl
theorem zc39 : (Tryd.prog.info? 39).map (fun i => i.zero.map (·.cells)) = some (some #[.pointer none]) := by kernel_rfl
theorem z39 : (Tryd.prog.info? 39).map (·.zero) = some (some (.pointer none)) := by kernel_rfl
theorem sca40 : scaB Tryd.prog 40 = true := by kernel_rfl
theorem sl40 : SliceT Tryd.prog 40 71 2 32 := ⟨by kernel_rfl, by kernel_rfl⟩
theorem zc40 : (Tryd.prog.info? 40).map (fun i => i.zero.map (·.cells)) = some (some #[.slice none 0 0]) := by kernel_rfl
theorem z40 : (Tryd.prog.info? 40).map (·.zero) = some (some (.slice none 0 0)) := by kernel_rfl
theorem zc41 : (Tryd.prog.info? 41).map (fun i => i.zero.map (·.cells)) = some (some #[.int .i64 0, .slice none 0 0, .slice none 0 0]) := by kernel_rfl
theorem agg41 : aggB Tryd.prog 41 3 = true := by kernel_rfl
theorem plc41 : places Tryd.prog 41 = some [(0, 1), (1, 1), (2, 1)] := by kernel_rfl
theorem fld41_0 : fldB Tryd.prog 41 0 0 = true := by kernel_rfl
theorem fld41_1 : fldB Tryd.prog 41 1 1 = true := by kernel_rfl
theorem fld41_2 : fldB Tryd.prog 41 2 2 = true := by kernel_rfl
theorem zc42 : (Tryd.prog.info? 42).map (fun i => i.zero.map (·.cells)) = some (some #[.int .i64 0, .slice none 0 0, .slice none 0 0]) := by kernel_rfl
theorem agg42 : aggB Tryd.prog 42 3 = true := by kernel_rfl
theorem plc42 : places Tryd.prog 42 = some [(0, 1), (1, 1), (2, 1)] := by kernel_rfl
theorem fld42_0 : fldB Tryd.prog 42 0 0 = true := by kernel_rfl
theorem fld42_1 : fldB Tryd.prog 42 1 1 = true := by kernel_rfl
theorem fld42_2 : fldB Tryd.prog 42 2 2 = true := by kernel_rfl
theorem sca43 : scaB Tryd.prog 43 = true := by kernel_rfl
theorem zc43 : (Tryd.prog.info? 43).map (fun i => i.zero.map (·.cells)) = some (some #[.nilFunc]) := by kernel_rfl
theorem z43 : (Tryd.prog.info? 43).map (·.zero) = some (some (.nilFunc)) := by kernel_rfl
theorem sca44 : scaB Tryd.prog 44 = true := by kernel_rfl
theorem zc44 : (Tryd.prog.info? 44).map (fun i => i.zero.map (·.cells)) = some (some #[.nilFunc]) := by kernel_rfl
theorem z44 : (Tryd.prog.info? 44).map (·.zero) = some (some (.nilFunc)) := by kernel_rfl
theorem ty45 : Tryd.prog.underlying 45 = some (.int .i64) := by kernel_rfl
theorem is45 : (Tryd.prog.underlying 45).isSome = true := by kernel_rfl
theorem sca45 : scaB Tryd.prog 45 = true := by kernel_rfl
theorem zc45 : (Tryd.prog.info? 45).map (fun i => i.zero.map (·.cells)) = some (some #[.int .i64 0]) := by kernel_rfl
theorem z45 : (Tryd.prog.info? 45).map (·.zero) = some (some (.int .i64 0)) := by kernel_rfl
theorem sca47 : scaB Tryd.prog 47 = true := by kernel_rfl
theorem zc47 : (Tryd.prog.info? 47).map (fun i => i.zero.map (·.cells)) = some (some #[.nilFunc]) := by kernel_rfl
theorem z47 : (Tryd.prog.info? 47).map (·.zero) = some (some (.nilFunc)) := by kernel_rfl
theorem sca48 : scaB Tryd.prog 48 = true := by kernel_rfl
theorem zc48 : (Tryd.prog.info? 48).map (fun i => i.zero.map (·.cells)) = some (some #[.nilFunc]) := by kernel_rfl
theorem z48 : (Tryd.prog.info? 48).map (·.zero) = some (some (.nilFunc)) := by kernel_rfl
theorem sca49 : scaB Tryd.prog 49 = true := by kernel_rfl
theorem sl49 : SliceT Tryd.prog 49 51 5 40 := ⟨by kernel_rfl, by kernel_rfl⟩
theorem zc49 : (Tryd.prog.info? 49).map (fun i => i.zero.map (·.cells)) = some (some #[.slice none 0 0]) := by kernel_rfl
theorem z49 : (Tryd.prog.info? 49).map (·.zero) = some (some (.slice none 0 0)) := by kernel_rfl
theorem zc50 : (Tryd.prog.info? 50).map (fun i => i.zero.map (·.cells)) = some (some #[.int .i64 0, .int .i64 0, .int .i64 0, .int .i64 0, .int .i64 0]) := by kernel_rfl
theorem agg50 : aggB Tryd.prog 50 5 = true := by kernel_rfl
theorem plc50 : places Tryd.prog 50 = some [(0, 1), (1, 1), (2, 1), (3, 1), (4, 1)] := by kernel_rfl
theorem fld50_0 : fldB Tryd.prog 50 0 0 = true := by kernel_rfl
theorem fld50_1 : fldB Tryd.prog 50 1 1 = true := by kernel_rfl
theorem fld50_2 : fldB Tryd.prog 50 2 2 = true := by kernel_rfl
theorem fld50_3 : fldB Tryd.prog 50 3 3 = true := by kernel_rfl
theorem fld50_4 : fldB Tryd.prog 50 4 4 = true := by kernel_rfl
theorem zc51 : (Tryd.prog.info? 51).map (fun i => i.zero.map (·.cells)) = some (some #[.int .i64 0, .int .i64 0, .int .i64 0, .int .i64 0, .int .i64 0]) := by kernel_rfl
theorem agg51 : aggB Tryd.prog 51 5 = true := by kernel_rfl
theorem plc51 : places Tryd.prog 51 = some [(0, 1), (1, 1), (2, 1), (3, 1), (4, 1)] := by kernel_rfl
theorem fld51_0 : fldB Tryd.prog 51 0 0 = true := by kernel_rfl
theorem fld51_1 : fldB Tryd.prog 51 1 1 = true := by kernel_rfl
theorem fld51_2 : fldB Tryd.prog 51 2 2 = true := by kernel_rfl
theorem fld51_3 : fldB Tryd.prog 51 3 3 = true := by kernel_rfl
theorem fld51_4 : fldB Tryd.prog 51 4 4 = true := by kernel_rfl
theorem sca52 : scaB Tryd.prog 52 = true := by kernel_rfl
theorem zc52 : (Tryd.prog.info? 52).map (fun i => i.zero.map (·.cells)) = some (some #[.nilFunc]) := by kernel_rfl
theorem z52 : (Tryd.prog.info? 52).map (·.zero) = some (some (.nilFunc)) := by kernel_rfl
theorem sca54 : scaB Tryd.prog 54 = true := by kernel_rfl
theorem zc54 : (Tryd.prog.info? 54).map (fun i => i.zero.map (·.cells)) = some (some #[.nilFunc]) := by kernel_rfl
theorem z54 : (Tryd.prog.info? 54).map (·.zero) = some (some (.nilFunc)) := by kernel_rfl
theorem sca55 : scaB Tryd.prog 55 = true := by kernel_rfl
theorem zc55 : (Tryd.prog.info? 55).map (fun i => i.zero.map (·.cells)) = some (some #[.nilFunc]) := by kernel_rfl
theorem z55 : (Tryd.prog.info? 55).map (·.zero) = some (some (.nilFunc)) := by kernel_rfl
theorem sca56 : scaB Tryd.prog 56 = true := by kernel_rfl
theorem zc56 : (Tryd.prog.info? 56).map (fun i => i.zero.map (·.cells)) = some (some #[.nilFunc]) := by kernel_rfl
theorem z56 : (Tryd.prog.info? 56).map (·.zero) = some (some (.nilFunc)) := by kernel_rfl
theorem sca57 : scaB Tryd.prog 57 = true := by kernel_rfl
theorem zc57 : (Tryd.prog.info? 57).map (fun i => i.zero.map (·.cells)) = some (some #[.nilFunc]) := by kernel_rfl
theorem z57 : (Tryd.prog.info? 57).map (·.zero) = some (some (.nilFunc)) := by kernel_rfl
theorem ty58 : Tryd.prog.underlying 58 = some (.int .u64) := by kernel_rfl
theorem is58 : (Tryd.prog.underlying 58).isSome = true := by kernel_rfl
theorem sca58 : scaB Tryd.prog 58 = true := by kernel_rfl
theorem zc58 : (Tryd.prog.info? 58).map (fun i => i.zero.map (·.cells)) = some (some #[.int .u64 0]) := by kernel_rfl
theorem z58 : (Tryd.prog.info? 58).map (·.zero) = some (some (.int .u64 0)) := by kernel_rfl
theorem sca59 : scaB Tryd.prog 59 = true := by kernel_rfl
theorem zc59 : (Tryd.prog.info? 59).map (fun i => i.zero.map (·.cells)) = some (some #[.map none]) := by kernel_rfl
theorem z59 : (Tryd.prog.info? 59).map (·.zero) = some (some (.map none)) := by kernel_rfl
theorem zc60 : (Tryd.prog.info? 60).map (fun i => i.zero.map (·.cells)) = some (some #[.pointer none, .int .i64 0, .slice none 0 0, .map none]) := by kernel_rfl
theorem agg60 : aggB Tryd.prog 60 4 = true := by kernel_rfl
theorem plc60 : places Tryd.prog 60 = some [(0, 1), (1, 1), (2, 1), (3, 1)] := by kernel_rfl
theorem fld60_0 : fldB Tryd.prog 60 0 0 = true := by kernel_rfl
theorem fld60_1 : fldB Tryd.prog 60 1 1 = true := by kernel_rfl
theorem fld60_2 : fldB Tryd.prog 60 2 2 = true := by kernel_rfl
theorem fld60_3 : fldB Tryd.prog 60 3 3 = true := by kernel_rfl
theorem zc61 : (Tryd.prog.info? 61).map (fun i => i.zero.map (·.cells)) = some (some #[.pointer none, .int .i64 0, .slice none 0 0, .map none]) := by kernel_rfl
theorem agg61 : aggB Tryd.prog 61 4 = true := by kernel_rfl
theorem plc61 : places Tryd.prog 61 = some [(0, 1), (1, 1), (2, 1), (3, 1)] := by kernel_rfl
theorem fld61_0 : fldB Tryd.prog 61 0 0 = true := by kernel_rfl
theorem fld61_1 : fldB Tryd.prog 61 1 1 = true := by kernel_rfl
theorem fld61_2 : fldB Tryd.prog 61 2 2 = true := by kernel_rfl
theorem fld61_3 : fldB Tryd.prog 61 3 3 = true := by kernel_rfl
theorem sca62 : scaB Tryd.prog 62 = true := by kernel_rfl
theorem zc62 : (Tryd.prog.info? 62).map (fun i => i.zero.map (·.cells)) = some (some #[.nilFunc]) := by kernel_rfl
theorem z62 : (Tryd.prog.info? 62).map (·.zero) = some (some (.nilFunc)) := by kernel_rfl
theorem sca63 : scaB Tryd.prog 63 = true := by kernel_rfl
theorem zc63 : (Tryd.prog.info? 63).map (fun i => i.zero.map (·.cells)) = some (some #[.nilFunc]) := by kernel_rfl
theorem z63 : (Tryd.prog.info? 63).map (·.zero) = some (some (.nilFunc)) := by kernel_rfl
theorem sca64 : scaB Tryd.prog 64 = true := by kernel_rfl
theorem zc64 : (Tryd.prog.info? 64).map (fun i => i.zero.map (·.cells)) = some (some #[.nilFunc]) := by kernel_rfl
theorem z64 : (Tryd.prog.info? 64).map (·.zero) = some (some (.nilFunc)) := by kernel_rfl
theorem sca65 : scaB Tryd.prog 65 = true := by kernel_rfl
theorem zc65 : (Tryd.prog.info? 65).map (fun i => i.zero.map (·.cells)) = some (some #[.nilFunc]) := by kernel_rfl
theorem z65 : (Tryd.prog.info? 65).map (·.zero) = some (some (.nilFunc)) := by kernel_rfl
theorem sca66 : scaB Tryd.prog 66 = true := by kernel_rfl
theorem zc66 : (Tryd.prog.info? 66).map (fun i => i.zero.map (·.cells)) = some (some #[.nilFunc]) := by kernel_rfl
theorem z66 : (Tryd.prog.info? 66).map (·.zero) = some (some (.nilFunc)) := by kernel_rfl
theorem sca67 : scaB Tryd.prog 67 = true := by kernel_rfl
theorem zc67 : (Tryd.prog.info? 67).map (fun i => i.zero.map (·.cells)) = some (some #[.nilFunc]) := by kernel_rfl
theorem z67 : (Tryd.prog.info? 67).map (·.zero) = some (some (.nilFunc)) := by kernel_rfl
theorem sca69 : scaB Tryd.prog 69 = true := by kernel_rfl
theorem zc69 : (Tryd.prog.info? 69).map (fun i => i.zero.map (·.cells)) = some (some #[.nilFunc]) := by kernel_rfl
theorem z69 : (Tryd.prog.info? 69).map (·.zero) = some (some (.nilFunc)) := by kernel_rfl
theorem zc70 : (Tryd.prog.info? 70).map (fun i => i.zero.map (·.cells)) = some (some #[.slice none 0 0, .int .i64 0]) := by kernel_rfl
theorem agg70 : aggB Tryd.prog 70 2 = true := by kernel_rfl
theorem plc70 : places Tryd.prog 70 = some [(0, 1), (1, 1)] := by kernel_rfl
theorem fld70_0 : fldB Tryd.prog 70 0 0 = true := by kernel_rfl
theorem fld70_1 : fldB Tryd.prog 70 1 1 = true := by kernel_rfl
theorem zc71 : (Tryd.prog.info? 71).map (fun i => i.zero.map (·.cells)) = some (some #[.slice none 0 0, .int .i64 0]) := by kernel_rfl
theorem agg71 : aggB Tryd.prog 71 2 = true := by kernel_rfl
theorem plc71 : places Tryd.prog 71 = some [(0, 1), (1, 1)] := by kernel_rfl
theorem fld71_0 : fldB Tryd.prog 71 0 0 = true := by kernel_rfl
theorem fld71_1 : fldB Tryd.prog 71 1 1 = true := by kernel_rfl
theorem sca72 : scaB Tryd.prog 72 = true := by kernel_rfl
theorem zc72 : (Tryd.prog.info? 72).map (fun i => i.zero.map (·.cells)) = some (some #[.nilFunc]) := by kernel_rfl
theorem z72 : (Tryd.prog.info? 72).map (·.zero) = some (some (.nilFunc)) := by kernel_rfl
theorem sca74 : scaB Tryd.prog 74 = true := by kernel_rfl
theorem zc74 : (Tryd.prog.info? 74).map (fun i => i.zero.map (·.cells)) = some (some #[.nilFunc]) := by kernel_rfl
theorem z74 : (Tryd.prog.info? 74).map (·.zero) = some (some (.nilFunc)) := by kernel_rfl
theorem sca75 : scaB Tryd.prog 75 = true := by kernel_rfl
theorem zc75 : (Tryd.prog.info? 75).map (fun i => i.zero.map (·.cells)) = some (some #[.nilFunc]) := by kernel_rfl
theorem z75 : (Tryd.prog.info? 75).map (·.zero) = some (some (.nilFunc)) := by kernel_rfl
theorem sca76 : scaB Tryd.prog 76 = true := by kernel_rfl
theorem zc76 : (Tryd.prog.info? 76).map (fun i => i.zero.map (·.cells)) = some (some #[.nilFunc]) := by kernel_rfl
theorem z76 : (Tryd.prog.info? 76).map (·.zero) = some (some (.nilFunc)) := by kernel_rfl
theorem zc77 : (Tryd.prog.info? 77).map (fun i => i.zero.map (·.cells)) = some (some #[.int .i64 0]) := by kernel_rfl
theorem agg77 : aggB Tryd.prog 77 1 = true := by kernel_rfl
theorem plc77 : places Tryd.prog 77 = some [(0, 1)] := by kernel_rfl
theorem fld77_0 : fldB Tryd.prog 77 0 0 = true := by kernel_rfl
theorem zc78 : (Tryd.prog.info? 78).map (fun i => i.zero.map (·.cells)) = some (some #[.int .i64 0]) := by kernel_rfl
theorem agg78 : aggB Tryd.prog 78 1 = true := by kernel_rfl
theorem plc78 : places Tryd.prog 78 = some [(0, 1)] := by kernel_rfl
theorem fld78_0 : fldB Tryd.prog 78 0 0 = true := by kernel_rfl
theorem zc79 : (Tryd.prog.info? 79).map (fun i => i.zero.map (·.cells)) = some (some #[.int .i64 0, .slice none 0 0]) := by kernel_rfl
theorem agg79 : aggB Tryd.prog 79 2 = true := by kernel_rfl
theorem plc79 : places Tryd.prog 79 = some [(0, 1), (1, 1)] := by kernel_rfl
theorem fld79_0 : fldB Tryd.prog 79 0 0 = true := by kernel_rfl
theorem fld79_1 : fldB Tryd.prog 79 1 1 = true := by kernel_rfl
theorem zc80 : (Tryd.prog.info? 80).map (fun i => i.zero.map (·.cells)) = some (some #[.int .i64 0, .slice none 0 0]) := by kernel_rfl
theorem agg80 : aggB Tryd.prog 80 2 = true := by kernel_rfl
theorem plc80 : places Tryd.prog 80 = some [(0, 1), (1, 1)] := by kernel_rfl
theorem fld80_0 : fldB Tryd.prog 80 0 0 = true := by kernel_rfl
theorem fld80_1 : fldB Tryd.prog 80 1 1 = true := by kernel_rfl
theorem zc81 : (Tryd.prog.info? 81).map (fun i => i.zero.map (·.cells)) = some (some #[.int .u8 0, .int .u8 0, .int .u8 0]) := by kernel_rfl
theorem agg81 : aggB Tryd.prog 81 3 = true := by kernel_rfl
theorem zc82 : (Tryd.prog.info? 82).map (fun i => i.zero.map (·.cells)) = some (some #[.int .u8 0, .int .u8 0, .int .u8 0]) := by kernel_rfl
theorem agg82 : aggB Tryd.prog 82 3 = true := by kernel_rfl
theorem sca83 : scaB Tryd.prog 83 = true := by kernel_rfl
theorem zc83 : (Tryd.prog.info? 83).map (fun i => i.zero.map (·.cells)) = some (some #[.nilFunc]) := by kernel_rfl
theorem z83 : (Tryd.prog.info? 83).map (·.zero) = some (some (.nilFunc)) := by kernel_rfl
theorem sca84 : scaB Tryd.prog 84 = true := by kernel_rfl
theorem zc84 : (Tryd.prog.info? 84).map (fun i => i.zero.map (·.cells)) = some (some #[.nilFunc]) := by kernel_rfl
theorem z84 : (Tryd.prog.info? 84).map (·.zero) = some (some (.nilFunc)) := by kernel_rfl
theorem sca85 : scaB Tryd.prog 85 = true := by kernel_rfl
theorem zc85 : (Tryd.prog.info? 85).map (fun i => i.zero.map (·.cells)) = some (some #[.nilFunc]) := by kernel_rfl
theorem z85 : (Tryd.prog.info? 85).map (·.zero) = some (some (.nilFunc)) := by kernel_rfl
theorem sca86 : scaB Tryd.prog 86 = true := by kernel_rfl
theorem zc86 : (Tryd.prog.info? 86).map (fun i => i.zero.map (·.cells)) = some (some #[.nilFunc]) := by kernel_rfl
theorem z86 : (Tryd.prog.info? 86).map (·.zero) = some (some (.nilFunc)) := by kernel_rfl
theorem sca87 : scaB Tryd.prog 87 = true := by kernel_rfl
theorem zc87 : (Tryd.prog.info? 87).map (fun i => i.zero.map (·.cells)) = some (some #[.nilFunc]) := by kernel_rfl
theorem z87 : (Tryd.prog.info? 87).map (·.zero) = some (some (.nilFunc)) := by kernel_rfl
theorem sca88 : scaB Tryd.prog 88 = true := by kernel_rfl
theorem zc88 : (Tryd.prog.info? 88).map (fun i => i.zero.map (·.cells)) = some (some #[.nilFunc]) := by kernel_rfl
theorem z88 : (Tryd.prog.info? 88).map (·.zero) = some (some (.nilFunc)) := by kernel_rfl
theorem zc89 : (Tryd.prog.info? 89).map (fun i => i.zero.map (·.cells)) = some (some #[.slice none 0 0, .int .i64 0]) := by kernel_rfl
theorem agg89 : aggB Tryd.prog 89 2 = true := by kernel_rfl
theorem plc89 : places Tryd.prog 89 = some [(0, 1), (1, 1)] := by kernel_rfl
theorem fld89_0 : fldB Tryd.prog 89 0 0 = true := by kernel_rfl
theorem fld89_1 : fldB Tryd.prog 89 1 1 = true := by kernel_rfl
theorem zc90 : (Tryd.prog.info? 90).map (fun i => i.zero.map (·.cells)) = some (some #[.slice none 0 0, .int .i64 0]) := by kernel_rfl
theorem agg90 : aggB Tryd.prog 90 2 = true := by kernel_rfl
theorem plc90 : places Tryd.prog 90 = some [(0, 1), (1, 1)] := by kernel_rfl
theorem fld90_0 : fldB Tryd.prog 90 0 0 = true := by kernel_rfl
theorem fld90_1 : fldB Tryd.prog 90 1 1 = true := by kernel_rfl
theorem sca91 : scaB Tryd.prog 91 = true := by kernel_rfl
theorem zc91 : (Tryd.prog.info? 91).map (fun i => i.zero.map (·.cells)) = some (some #[.nilFunc]) := by kernel_rfl
theorem z91 : (Tryd.prog.info? 91).map (·.zero) = some (some (.nilFunc)) := by kernel_rfl
theorem zc92 : (Tryd.prog.info? 92).map (fun i => i.zero.map (·.cells)) = some (some #[.slice none 0 0, .int .u32 0, .bool false, .int .i64 0]) := by kernel_rfl
theorem agg92 : aggB Tryd.prog 92 4 = true := by kernel_rfl
theorem plc92 : places Tryd.prog 92 = some [(0, 1), (1, 1), (2, 1), (3, 1)] := by kernel_rfl
theorem fld92_0 : fldB Tryd.prog 92 0 0 = true := by kernel_rfl
theorem fld92_1 : fldB Tryd.prog 92 1 1 = true := by kernel_rfl
theorem fld92_2 : fldB Tryd.prog 92 2 2 = true := by kernel_rfl
theorem fld92_3 : fldB Tryd.prog 92 3 3 = true := by kernel_rfl
theorem zc93 : (Tryd.prog.info? 93).map (fun i => i.zero.map (·.cells)) = some (some #[.slice none 0 0, .int .u32 0, .bool false, .int .i64 0]) := by kernel_rfl
theorem agg93 : aggB Tryd.prog 93 4 = true := by kernel_rfl
theorem plc93 : places Tryd.prog 93 = some [(0, 1), (1, 1), (2, 1), (3, 1)] := by kernel_rfl
theorem fld93_0 : fldB Tryd.prog 93 0 0 = true := by kernel_rfl
theorem fld93_1 : fldB Tryd.prog 93 1 1 = true := by kernel_rfl
theorem fld93_2 : fldB Tryd.prog 93 2 2 = true := by kernel_rfl
theorem fld93_3 : fldB Tryd.prog 93 3 3 = true := by kernel_rfl
theorem sca95 : scaB Tryd.prog 95 = true := by kernel_rfl
theorem zc95 : (Tryd.prog.info? 95).map (fun i => i.zero.map (·.cells)) = some (some #[.nilFunc]) := by kernel_rfl
theorem z95 : (Tryd.prog.info? 95).map (·.zero) = some (some (.nilFunc)) := by kernel_rfl
theorem sca97 : scaB Tryd.prog 97 = true := by kernel_rfl
theorem zc97 : (Tryd.prog.info? 97).map (fun i => i.zero.map (·.cells)) = some (some #[.nilFunc]) := by kernel_rfl
theorem z97 : (Tryd.prog.info? 97).map (·.zero) = some (some (.nilFunc)) := by kernel_rfl
theorem sca98 : scaB Tryd.prog 98 = true := by kernel_rfl
theorem zc98 : (Tryd.prog.info? 98).map (fun i => i.zero.map (·.cells)) = some (some #[.nilFunc]) := by kernel_rfl
theorem z98 : (Tryd.prog.info? 98).map (·.zero) = some (some (.nilFunc)) := by kernel_rfl
theorem agg99 : aggB Tryd.prog 99 256 = true := by kernel_rfl
theorem agg100 : aggB Tryd.prog 100 256 = true := by kernel_rfl
theorem sca102 : scaB Tryd.prog 102 = true := by kernel_rfl
theorem zc102 : (Tryd.prog.info? 102).map (fun i => i.zero.map (·.cells)) = some (some #[.nilFunc]) := by kernel_rfl
theorem z102 : (Tryd.prog.info? 102).map (·.zero) = some (some (.nilFunc)) := by kernel_rfl
theorem sca103 : scaB Tryd.prog 103 = true := by kernel_rfl
theorem zc103 : (Tryd.prog.info? 103).map (fun i => i.zero.map (·.cells)) = some (some #[.nilFunc]) := by kernel_rfl
theorem z103 : (Tryd.prog.info? 103).map (·.zero) = some (some (.nilFunc)) := by kernel_rfl
theorem sca104 : scaB Tryd.prog 104 = true := by kernel_rfl
theorem ptr104 : ptrB Tryd.prog 104 = true := by kernel_rfl
theorem zc104 : (Tryd.prog.info? 104).map (fun i => i.zero.map (·.cells)) = some (some #[.pointer none]) := by kernel_rfl
theorem z104 : (Tryd.prog.info? 104).map (·.zero) = some (some (.pointer none)) := by kernel_rfl
theorem sca105 : scaB Tryd.prog 105 = true := by kernel_rfl
theorem ptr105 : ptrB Tryd.prog 105 = true := by kernel_rfl
theorem zc105 : (Tryd.prog.info? 105).map (fun i => i.zero.map (·.cells)) = some (some #[.pointer none]) := by kernel_rfl
theorem z105 : (Tryd.prog.info? 105).map (·.zero) = some (some (.pointer none)) := by kernel_rfl
theorem sca106 : scaB Tryd.prog 106 = true := by kernel_rfl
theorem zc106 : (Tryd.prog.info? 106).map (fun i => i.zero.map (·.cells)) = some (some #[.nilFunc]) := by kernel_rfl
theorem z106 : (Tryd.prog.info? 106).map (·.zero) = some (some (.nilFunc)) := by kernel_rfl
theorem sca107 : scaB Tryd.prog 107 = true := by kernel_rfl
theorem zc107 : (Tryd.prog.info? 107).map (fun i => i.zero.map (·.cells)) = some (some #[.nilFunc]) := by kernel_rfl
theorem z107 : (Tryd.prog.info? 107).map (·.zero) = some (some (.nilFunc)) := by kernel_rfl
theorem sca108 : scaB Tryd.prog 108 = true := by kernel_rfl
theorem ptr108 : ptrB Tryd.prog 108 = true := by kernel_rfl
theorem zc108 : (Tryd.prog.info? 108).map (fun i => i.zero.map (·.cells)) = some (some #[.pointer none]) := by kernel_rfl
theorem z108 : (Tryd.prog.info? 108).map (·.zero) = some (some (.pointer none)) := by kernel_rfl
theorem sca109 : scaB Tryd.prog 109 = true := by kernel_rfl
theorem zc109 : (Tryd.prog.info? 109).map (fun i => i.zero.map (·.cells)) = some (some #[.map none]) := by kernel_rfl
theorem z109 : (Tryd.prog.info? 109).map (·.zero) = some (some (.map none)) := by kernel_rfl
theorem sca110 : scaB Tryd.prog 110 = true := by kernel_rfl
theorem zc110 : (Tryd.prog.info? 110).map (fun i => i.zero.map (·.cells)) = some (some #[.map none]) := by kernel_rfl
theorem z110 : (Tryd.prog.info? 110).map (·.zero) = some (some (.map none)) := by kernel_rfl
theorem sca112 : scaB Tryd.prog 112 = true := by kernel_rfl
theorem zc112 : (Tryd.prog.info? 112).map (fun i => i.zero.map (·.cells)) = some (some #[.nilFunc]) := by kernel_rfl
theorem z112 : (Tryd.prog.info? 112).map (·.zero) = some (some (.nilFunc)) := by kernel_rfl
theorem sca113 : scaB Tryd.prog 113 = true := by kernel_rfl
theorem zc113 : (Tryd.prog.info? 113).map (fun i => i.zero.map (·.cells)) = some (some #[.nilFunc]) := by kernel_rfl
theorem z113 : (Tryd.prog.info? 113).map (·.zero) = some (some (.nilFunc)) := by kernel_rfl
theorem sca114 : scaB Tryd.prog 114 = true := by kernel_rfl
theorem zc114 : (Tryd.prog.info? 114).map (fun i => i.zero.map (·.cells)) = some (some #[.nilFunc]) := by kernel_rfl
theorem z114 : (Tryd.prog.info? 114).map (·.zero) = some (some (.nilFunc)) := by kernel_rfl
theorem sca115 : scaB Tryd.prog 115 = true := by kernel_rfl
theorem ptr115 : ptrB Tryd.prog 115 = true := by kernel_rfl
theorem zc115 : (Tryd.prog.info? 115).map (fun i => i.zero.map (·.cells)) = some (some #[.pointer none]) := by kernel_rfl
theorem z115 : (Tryd.prog.info? 115).map (·.zero) = some (some (.pointer none)) := by kernel_rfl
theorem sca116 : scaB Tryd.prog 116 = true := by kernel_rfl
theorem zc116 : (Tryd.prog.info? 116).map (fun i => i.zero.map (·.cells)) = some (some #[.nilFunc]) := by kernel_rfl
theorem z116 : (Tryd.prog.info? 116).map (·.zero) = some (some (.nilFunc)) := by kernel_rfl
theorem sca117 : scaB Tryd.prog 117 = true := by kernel_rfl
theorem ptr117 : ptrB Tryd.prog 117 = true := by kernel_rfl
theorem zc117 : (Tryd.prog.info? 117).map (fun i => i.zero.map (·.cells)) = some (some #[.pointer none]) := by kernel_rfl
theorem z117 : (Tryd.prog.info? 117).map (·.zero) = some (some (.pointer none)) := by kernel_rfl
theorem sca118 : scaB Tryd.prog 118 = true := by kernel_rfl
theorem zc118 : (Tryd.prog.info? 118).map (fun i => i.zero.map (·.cells)) = some (some #[.nilFunc]) := by kernel_rfl
theorem z118 : (Tryd.prog.info? 118).map (·.zero) = some (some (.nilFunc)) := by kernel_rfl
theorem zc119 : (Tryd.prog.info? 119).map (fun i => i.zero.map (·.cells)) = some (some #[.int .i64 0, .slice none 0 0]) := by kernel_rfl
theorem agg119 : aggB Tryd.prog 119 2 = true := by kernel_rfl
theorem plc119 : places Tryd.prog 119 = some [(0, 1), (1, 1)] := by kernel_rfl
theorem fld119_0 : fldB Tryd.prog 119 0 0 = true := by kernel_rfl
theorem fld119_1 : fldB Tryd.prog 119 1 1 = true := by kernel_rfl
theorem sca120 : scaB Tryd.prog 120 = true := by kernel_rfl
theorem zc120 : (Tryd.prog.info? 120).map (fun i => i.zero.map (·.cells)) = some (some #[.nilFunc]) := by kernel_rfl
theorem z120 : (Tryd.prog.info? 120).map (·.zero) = some (some (.nilFunc)) := by kernel_rfl
theorem zc121 : (Tryd.prog.info? 121).map (fun i => i.zero.map (·.cells)) = some (some #[.slice none 0 0, .int .i64 0]) := by kernel_rfl
theorem agg121 : aggB Tryd.prog 121 2 = true := by kernel_rfl
theorem plc121 : places Tryd.prog 121 = some [(0, 1), (1, 1)] := by kernel_rfl
theorem fld121_0 : fldB Tryd.prog 121 0 0 = true := by kernel_rfl
theorem fld121_1 : fldB Tryd.prog 121 1 1 = true := by kernel_rfl
theorem sca122 : scaB Tryd.prog 122 = true := by kernel_rfl
theorem zc122 : (Tryd.prog.info? 122).map (fun i => i.zero.map (·.cells)) = some (some #[.nilFunc]) := by kernel_rfl
theorem z122 : (Tryd.prog.info? 122).map (·.zero) = some (some (.nilFunc)) := by kernel_rfl
theorem sca124 : scaB Tryd.prog 124 = true := by kernel_rfl
theorem zc124 : (Tryd.prog.info? 124).map (fun i => i.zero.map (·.cells)) = some (some #[.nilFunc]) := by kernel_rfl
theorem z124 : (Tryd.prog.info? 124).map (·.zero) = some (some (.nilFunc)) := by kernel_rfl
theorem sca125 : scaB Tryd.prog 125 = true := by kernel_rfl
theorem zc125 : (Tryd.prog.info? 125).map (fun i => i.zero.map (·.cells)) = some (some #[.nilFunc]) := by kernel_rfl
theorem z125 : (Tryd.prog.info? 125).map (·.zero) = some (some (.nilFunc)) := by kernel_rfl
theorem zc126 : (Tryd.prog.info? 126).map (fun i => i.zero.map (·.cells)) = some (some #[.int .u8 0, .int .u8 0, .int .u8 0]) := by kernel_rfl
theorem agg126 : aggB Tryd.prog 126 3 = true := by kernel_rfl
theorem sca127 : scaB Tryd.prog 127 = true := by kernel_rfl
theorem zc127 : (Tryd.prog.info? 127).map (fun i => i.zero.map (·.cells)) = some (some #[.nilFunc]) := by kernel_rfl
theorem z127 : (Tryd.prog.info? 127).map (·.zero) = some (some (.nilFunc)) := by kernel_rfl
theorem sca128 : scaB Tryd.prog 128 = true := by kernel_rfl
theorem ptr128 : ptrB Tryd.prog 128 = true := by kernel_rfl
theorem zc128 : (Tryd.prog.info? 128).map (fun i => i.zero.map (·.cells)) = some (some #[.pointer none]) := by kernel_rfl
theorem z128 : (Tryd.prog.info? 128).map (·.zero) = some (some (.pointer none)) := by kernel_rfl
theorem agg129 : aggB Tryd.prog 129 256 = true := by kernel_rfl
theorem zc130 : (Tryd.prog.info? 130).map (fun i => i.zero.map (·.cells)) = some (some #[.int .u8 0, .int .u8 0]) := by kernel_rfl
theorem agg130 : aggB Tryd.prog 130 2 = true := by kernel_rfl
theorem plc130 : places Tryd.prog 130 = some [(0, 1), (1, 1)] := by kernel_rfl
theorem fld130_0 : fldB Tryd.prog 130 0 0 = true := by kernel_rfl
theorem fld130_1 : fldB Tryd.prog 130 1 1 = true := by kernel_rfl
theorem zc131 : (Tryd.prog.info? 131).map (fun i => i.zero.map (·.cells)) = some (some #[.int .u8 0, .int .u8 0]) := by kernel_rfl
theorem agg131 : aggB Tryd.prog 131 2 = true := by kernel_rfl
theorem plc131 : places Tryd.prog 131 = some [(0, 1), (1, 1)] := by kernel_rfl
theorem fld131_0 : fldB Tryd.prog 131 0 0 = true := by kernel_rfl
theorem fld131_1 : fldB Tryd.prog 131 1 1 = true := by kernel_rfl
theorem agg132 : aggB Tryd.prog 132 32 = true := by kernel_rfl
theorem sca133 : scaB Tryd.prog 133 = true := by kernel_rfl
theorem zc133 : (Tryd.prog.info? 133).map (fun i => i.zero.map (·.cells)) = some (some #[.nilFunc]) := by kernel_rfl
theorem z133 : (Tryd.prog.info? 133).map (·.zero) = some (some (.nilFunc)) := by kernel_rfl
theorem zc134 : (Tryd.prog.info? 134).map (fun i => i.zero.map (·.cells)) = some (some #[.pointer none, .pointer none, .pointer none, .string ByteArray.empty]) := by kernel_rfl
theorem agg134 : aggB Tryd.prog 134 4 = true := by kernel_rfl
theorem plc134 : places Tryd.prog 134 = some [(0, 1), (1, 1), (2, 1), (3, 1)] := by kernel_rfl
theorem fld134_0 : fldB Tryd.prog 134 0 0 = true := by kernel_rfl
theorem fld134_1 : fldB Tryd.prog 134 1 1 = true := by kernel_rfl
theorem fld134_2 : fldB Tryd.prog 134 2 2 = true := by kernel_rfl
theorem fld134_3 : fldB Tryd.prog 134 3 3 = true := by kernel_rfl
theorem zc135 : (Tryd.prog.info? 135).map (fun i => i.zero.map (·.cells)) = some (some #[.pointer none, .pointer none, .pointer none, .string ByteArray.empty]) := by kernel_rfl
theorem agg135 : aggB Tryd.prog 135 4 = true := by kernel_rfl
theorem plc135 : places Tryd.prog 135 = some [(0, 1), (1, 1), (2, 1), (3, 1)] := by kernel_rfl
theorem fld135_0 : fldB Tryd.prog 135 0 0 = true := by kernel_rfl
theorem fld135_1 : fldB Tryd.prog 135 1 1 = true := by kernel_rfl
theorem fld135_2 : fldB Tryd.prog 135 2 2 = true := by kernel_rfl
theorem fld135_3 : fldB Tryd.prog 135 3 3 = true := by kernel_rfl
theorem zc136 : (Tryd.prog.info? 136).map (fun i => i.zero.map (·.cells)) = some (some #[]) := by kernel_rfl
theorem zc137 : (Tryd.prog.info? 137).map (fun i => i.zero.map (·.cells)) = some (some #[]) := by kernel_rfl
theorem zc138 : (Tryd.prog.info? 138).map (fun i => i.zero.map (·.cells)) = some (some #[]) := by kernel_rfl
theorem sca139 : scaB Tryd.prog 139 = true := by kernel_rfl
theorem zc139 : (Tryd.prog.info? 139).map (fun i => i.zero.map (·.cells)) = some (some #[.nilFunc]) := by kernel_rfl
theorem z139 : (Tryd.prog.info? 139).map (·.zero) = some (some (.nilFunc)) := by kernel_rfl
theorem ty140 : Tryd.prog.underlying 140 = some (.int .u8) := by kernel_rfl
theorem is140 : (Tryd.prog.underlying 140).isSome = true := by kernel_rfl
theorem sca140 : scaB Tryd.prog 140 = true := by kernel_rfl
theorem zc140 : (Tryd.prog.info? 140).map (fun i => i.zero.map (·.cells)) = some (some #[.int .u8 0]) := by kernel_rfl
theorem z140 : (Tryd.prog.info? 140).map (·.zero) = some (some (.int .u8 0)) := by kernel_rfl
theorem ty141 : Tryd.prog.underlying 141 = some (.int .u8) := by kernel_rfl
theorem is141 : (Tryd.prog.underlying 141).isSome = true := by kernel_rfl
theorem sca141 : scaB Tryd.prog 141 = true := by kernel_rfl
theorem zc141 : (Tryd.prog.info? 141).map (fun i => i.zero.map (·.cells)) = some (some #[.int .u8 0]) := by kernel_rfl
theorem z141 : (Tryd.prog.info? 141).map (·.zero) = some (some (.int .u8 0)) := by kernel_rfl
theorem sca142 : scaB Tryd.prog 142 = true := by kernel_rfl
theorem zc142 : (Tryd.prog.info? 142).map (fun i => i.zero.map (·.cells)) = some (some #[.nilFunc]) := by kernel_rfl
theorem z142 : (Tryd.prog.info? 142).map (·.zero) = some (some (.nilFunc)) := by kernel_rfl
theorem sca143 : scaB Tryd.prog 143 = true := by kernel_rfl
theorem ptr143 : ptrB Tryd.prog 143 = true := by kernel_rfl
theorem zc143 : (Tryd.prog.info? 143).map (fun i => i.zero.map (·.cells)) = some (some #[.pointer none]) := by kernel_rfl
theorem z143 : (Tryd.prog.info? 143).map (·.zero) = some (some (.pointer none)) := by kernel_rfl
theorem ty144 : Tryd.prog.underlying 144 = some (.int .i32) := by kernel_rfl
theorem is144 : (Tryd.prog.underlying 144).isSome = true := by kernel_rfl
theorem sca144 : scaB Tryd.prog 144 = true := by kernel_rfl
theorem zc144 : (Tryd.prog.info? 144).map (fun i => i.zero.map (·.cells)) = some (some #[.int .i32 0]) := by kernel_rfl
theorem z144 : (Tryd.prog.info? 144).map (·.zero) = some (some (.int .i32 0)) := by kernel_rfl
theorem ty145 : Tryd.prog.underlying 145 = some (.int .i32) := by kernel_rfl
theorem is145 : (Tryd.prog.underlying 145).isSome = true := by kernel_rfl
theorem sca145 : scaB Tryd.prog 145 = true := by kernel_rfl
theorem zc145 : (Tryd.prog.info? 145).map (fun i => i.zero.map (·.cells)) = some (some #[.int .i32 0]) := by kernel_rfl
theorem z145 : (Tryd.prog.info? 145).map (·.zero) = some (some (.int .i32 0)) := by kernel_rfl
theorem zc146 : (Tryd.prog.info? 146).map (fun i => i.zero.map (·.cells)) = some (some #[.int .u64 0, .int .u64 0, .int .u32 0, .int .u8 0, .int .u8 0, .int .u8 0, .int .u8 0, .nilFunc, .pointer none, .int .i32 0, .int .i32 0]) := by kernel_rfl
theorem agg146 : aggB Tryd.prog 146 11 = true := by kernel_rfl
theorem plc146 : places Tryd.prog 146 = some [(0, 1), (1, 1), (2, 1), (3, 1), (4, 1), (5, 1), (6, 1), (7, 1), (8, 1), (9, 1), (10, 1)] := by kernel_rfl
theorem fld146_0 : fldB Tryd.prog 146 0 0 = true := by kernel_rfl
theorem fld146_1 : fldB Tryd.prog 146 1 1 = true := by kernel_rfl
theorem fld146_2 : fldB Tryd.prog 146 2 2 = true := by kernel_rfl
theorem fld146_3 : fldB Tryd.prog 146 3 3 = true := by kernel_rfl
theorem fld146_4 : fldB Tryd.prog 146 4 4 = true := by kernel_rfl
theorem fld146_5 : fldB Tryd.prog 146 5 5 = true := by kernel_rfl
theorem fld146_6 : fldB Tryd.prog 146 6 6 = true := by kernel_rfl
theorem fld146_7 : fldB Tryd.prog 146 7 7 = true := by kernel_rfl
theorem fld146_8 : fldB Tryd.prog 146 8 8 = true := by kernel_rfl
theorem fld146_9 : fldB Tryd.prog 146 9 9 = true := by kernel_rfl
theorem fld146_10 : fldB Tryd.prog 146 10 10 = true := by kernel_rfl
theorem zc147 : (Tryd.prog.info? 147).map (fun i => i.zero.map (·.cells)) = some (some #[.int .u64 0, .int .u64 0, .int .u32 0, .int .u8 0, .int .u8 0, .int .u8 0, .int .u8 0, .nilFunc, .pointer none, .int .i32 0, .int .i32 0]) := by kernel_rfl
theorem agg147 : aggB Tryd.prog 147 11 = true := by kernel_rfl
theorem plc147 : places Tryd.prog 147 = some [(0, 1), (1, 1), (2, 1), (3, 1), (4, 1), (5, 1), (6, 1), (7, 1), (8, 1), (9, 1), (10, 1)] := by kernel_rfl
theorem fld147_0 : fldB Tryd.prog 147 0 0 = true := by kernel_rfl
theorem fld147_1 : fldB Tryd.prog 147 1 1 = true := by kernel_rfl
theorem fld147_2 : fldB Tryd.prog 147 2 2 = true := by kernel_rfl
theorem fld147_3 : fldB Tryd.prog 147 3 3 = true := by kernel_rfl
theorem fld147_4 : fldB Tryd.prog 147 4 4 = true := by kernel_rfl
theorem fld147_5 : fldB Tryd.prog 147 5 5 = true := by kernel_rfl
theorem fld147_6 : fldB Tryd.prog 147 6 6 = true := by kernel_rfl
theorem fld147_7 : fldB Tryd.prog 147 7 7 = true := by kernel_rfl
theorem fld147_8 : fldB Tryd.prog 147 8 8 = true := by kernel_rfl
theorem fld147_9 : fldB Tryd.prog 147 9 9 = true := by kernel_rfl
theorem fld147_10 : fldB Tryd.prog 147 10 10 = true := by kernel_rfl
theorem sca148 : scaB Tryd.prog 148 = true := by kernel_rfl
theorem zc148 : (Tryd.prog.info? 148).map (fun i => i.zero.map (·.cells)) = some (some #[.nilFunc]) := by kernel_rfl
theorem z148 : (Tryd.prog.info? 148).map (·.zero) = some (some (.nilFunc)) := by kernel_rfl
theorem sca149 : scaB Tryd.prog 149 = true := by kernel_rfl
theorem zc149 : (Tryd.prog.info? 149).map (fun i => i.zero.map (·.cells)) = some (some #[.nilFunc]) := by kernel_rfl
theorem z149 : (Tryd.prog.info? 149).map (·.zero) = some (some (.nilFunc)) := by kernel_rfl
theorem zc150 : (Tryd.prog.info? 150).map (fun i => i.zero.map (·.cells)) = some (some #[.pointer none]) := by kernel_rfl
theorem z150 : (Tryd.prog.info? 150).map (·.zero) = some (some (.pointer none)) := by kernel_rfl
theorem fn3 : fnB Tryd.prog 3 = true := by kernel_rfl
theorem fn4 : fnB Tryd.prog 4 = true := by kernel_rfl
theorem fn5 : fnB Tryd.prog 5 = true := by kernel_rfl
theorem fn6 : fnB Tryd.prog 6 = true := by kernel_rfl
theorem fn7 : fnB Tryd.prog 7 = true := by kernel_rfl
theorem fn8 : fnB Tryd.prog 8 = true := by kernel_rfl
theorem fn9 : fnB Tryd.prog 9 = true := by kernel_rfl
theorem fn10 : fnB Tryd.prog 10 = true := by kernel_rfl
theorem fn11 : fnB Tryd.prog 11 = true := by kernel_rfl
theorem fn12 : fnB Tryd.prog 12 = true := by kernel_rfl
theorem fn13 : fnB Tryd.prog 13 = true := by kernel_rfl
theorem fn14 : fnB Tryd.prog 14 = true := by kernel_rfl
theorem fn15 : fnB Tryd.prog 15 = true := by kernel_rfl
theorem fn16 : fnB Tryd.prog 16 = true := by kernel_rfl
theorem fn17 : fnB Tryd.prog 17 = true := by kernel_rfl
theorem fn18 : fnB Tryd.prog 18 = true := by kernel_rfl
theorem fn19 : fnB Tryd.prog 19 = true := by kernel_rfl
theorem fn20 : fnB Tryd.prog 20 = true := by kernel_rfl
theorem fn21 : fnB Tryd.prog 21 = true := by kernel_rfl
theorem fn22 : fnB Tryd.prog 22 = true := by kernel_rfl
theorem fn23 : fnB Tryd.prog 23 = true := by kernel_rfl
theorem fn24 : fnB Tryd.prog 24 = true := by kernel_rfl
theorem fn25 : fnB Tryd.prog 25 = true := by kernel_rfl
theorem fn26 : fnB Tryd.prog 26 = true := by kernel_rfl
theorem fn27 : fnB Tryd.prog 27 = true := by kernel_rfl
theorem fn28 : fnB Tryd.prog 28 = true := by kernel_rfl
theorem fn29 : fnB Tryd.prog 29 = true := by kernel_rfl
theorem fn30 : fnB Tryd.prog 30 = true := by kernel_rfl
theorem fn31 : fnB Tryd.prog 31 = true := by kernel_rfl
theorem fn32 : fnB Tryd.prog 32 = true := by kernel_rfl
theorem fn33 : fnB Tryd.prog 33 = true := by kernel_rfl
theorem fn34 : fnB Tryd.prog 34 = true := by kernel_rfl
theorem fn35 : fnB Tryd.prog 35 = true := by kernel_rfl
theorem fn36 : fnB Tryd.prog 36 = true := by kernel_rfl
theorem fn37 : fnB Tryd.prog 37 = true := by kernel_rfl
theorem fn38 : fnB Tryd.prog 38 = true := by kernel_rfl
theorem fn39 : fnB Tryd.prog 39 = true := by kernel_rfl
theorem fn40 : fnB Tryd.prog 40 = true := by kernel_rfl
theorem fn41 : fnB Tryd.prog 41 = true := by kernel_rfl
theorem fn42 : fnB Tryd.prog 42 = true := by kernel_rfl
theorem fn43 : fnB Tryd.prog 43 = true := by kernel_rfl
theorem fn44 : fnB Tryd.prog 44 = true := by kernel_rfl
theorem fn45 : fnB Tryd.prog 45 = true := by kernel_rfl
theorem fn46 : fnB Tryd.prog 46 = true := by kernel_rfl
theorem fn47 : fnB Tryd.prog 47 = true := by kernel_rfl
theorem fn48 : fnB Tryd.prog 48 = true := by kernel_rfl
theorem fn49 : fnB Tryd.prog 49 = true := by kernel_rfl
theorem fn50 : fnB Tryd.prog 50 = true := by kernel_rfl
theorem fn51 : fnB Tryd.prog 51 = true := by kernel_rfl
theorem fn52 : fnB Tryd.prog 52 = true := by kernel_rfl
theorem fn53 : fnB Tryd.prog 53 = true := by kernel_rfl
theorem fn54 : fnB Tryd.prog 54 = true := by kernel_rfl
theorem fn55 : fnB Tryd.prog 55 = true := by kernel_rfl
theorem fn56 : fnB Tryd.prog 56 = true := by kernel_rfl
theorem fn57 : fnB Tryd.prog 57 = true := by kernel_rfl
theorem fn58 : fnB Tryd.prog 58 = true := by kernel_rfl
theorem fn59 : fnB Tryd.prog 59 = true := by kernel_rfl
theorem fn60 : fnB Tryd.prog 60 = true := by kernel_rfl
theorem fn61 : fnB Tryd.prog 61 = true := by kernel_rfl
theorem fn62 : fnB Tryd.prog 62 = true := by kernel_rfl
theorem fn63 : fnB Tryd.prog 63 = true := by kernel_rfl
theorem fn64 : fnB Tryd.prog 64 = true := by kernel_rfl
theorem fn65 : fnB Tryd.prog 65 = true := by kernel_rfl
theorem fn66 : fnB Tryd.prog 66 = true := by kernel_rfl
theorem fn67 : fnB Tryd.prog 67 = true := by kernel_rfl
theorem fn68 : fnB Tryd.prog 68 = true := by kernel_rfl
theorem fn69 : fnB Tryd.prog 69 = true := by kernel_rfl
theorem fn70 : fnB Tryd.prog 70 = true := by kernel_rfl
theorem fn71 : fnB Tryd.prog 71 = true := by kernel_rfl
theorem fn72 : fnB Tryd.prog 72 = true := by kernel_rfl
theorem fn73 : fnB Tryd.prog 73 = true := by kernel_rfl
theorem fn74 : fnB Tryd.prog 74 = true := by kernel_rfl
theorem fn75 : fnB Tryd.prog 75 = true := by kernel_rfl
theorem fn76 : fnB Tryd.prog 76 = true := by kernel_rfl
theorem mixed : Tryd.prog.follows .mixedOrders = true := by kernel_rfl
end Go.Proofs.YtpnfjfbfgaiolaaDoor
