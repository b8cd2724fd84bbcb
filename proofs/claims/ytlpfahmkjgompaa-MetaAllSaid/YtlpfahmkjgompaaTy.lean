/- Closed facts on types and functions of the program. No condition. -/
import Derived.Test.YtlpfahmkjgompaaRow
import Derived.KernelRfl
namespace Go.Proofs.Ytlpfahmkjgompaa
open Go Go.RowKit
theorem sca1 : scaB Try.prog 1 = true := by kernel_rfl
theorem zc1 : (Try.prog.info? 1).map (fun i => i.zero.map (·.cells)) = some (some #[.nilFunc]) := by kernel_rfl
theorem z1 : (Try.prog.info? 1).map (·.zero) = some (some (.nilFunc)) := by kernel_rfl
theorem ty2 : Try.prog.underlying 2 = some (.int .i64) := by kernel_rfl
theorem is2 : (Try.prog.underlying 2).isSome = true := by kernel_rfl
theorem sca2 : scaB Try.prog 2 = true := by kernel_rfl
theorem zc2 : (Try.prog.info? 2).map (fun i => i.zero.map (·.cells)) = some (some #[.int .i64 0]) := by kernel_rfl
theorem z2 : (Try.prog.info? 2).map (·.zero) = some (some (.int .i64 0)) := by kernel_rfl
theorem ty3 : Try.prog.underlying 3 = some (.int .i64) := by kernel_rfl
theorem is3 : (Try.prog.underlying 3).isSome = true := by kernel_rfl
theorem sca3 : scaB Try.prog 3 = true := by kernel_rfl
theorem zc3 : (Try.prog.info? 3).map (fun i => i.zero.map (·.cells)) = some (some #[.int .i64 0]) := by kernel_rfl
theorem z3 : (Try.prog.info? 3).map (·.zero) = some (some (.int .i64 0)) := by kernel_rfl
theorem sca4 : scaB Try.prog 4 = true := by kernel_rfl
theorem zc4 : (Try.prog.info? 4).map (fun i => i.zero.map (·.cells)) = some (some #[.bool false]) := by kernel_rfl
theorem z4 : (Try.prog.info? 4).map (·.zero) = some (some (.bool false)) := by kernel_rfl
theorem ty4 : Try.prog.underlying 4 = some .bool := by kernel_rfl
theorem ty5 : Try.prog.underlying 5 = some (.int .u8) := by kernel_rfl
theorem is5 : (Try.prog.underlying 5).isSome = true := by kernel_rfl
theorem sca5 : scaB Try.prog 5 = true := by kernel_rfl
theorem zc5 : (Try.prog.info? 5).map (fun i => i.zero.map (·.cells)) = some (some #[.int .u8 0]) := by kernel_rfl
theorem z5 : (Try.prog.info? 5).map (·.zero) = some (some (.int .u8 0)) := by kernel_rfl
theorem ty6 : Try.prog.underlying 6 = some (.int .u8) := by kernel_rfl
theorem is6 : (Try.prog.underlying 6).isSome = true := by kernel_rfl
theorem sca6 : scaB Try.prog 6 = true := by kernel_rfl
theorem zc6 : (Try.prog.info? 6).map (fun i => i.zero.map (·.cells)) = some (some #[.int .u8 0]) := by kernel_rfl
theorem z6 : (Try.prog.info? 6).map (·.zero) = some (some (.int .u8 0)) := by kernel_rfl
theorem zc7 : (Try.prog.info? 7).map (fun i => i.zero.map (·.cells)) = some (some #[.int .i64 0, .int .i64 0, .bool false, .int .u8 0]) := by kernel_rfl
theorem agg7 : aggB Try.prog 7 4 = true := by kernel_rfl
theorem plc7 : places Try.prog 7 = some [(0, 1), (1, 1), (2, 1), (3, 1)] := by kernel_rfl
theorem fld7_0 : fldB Try.prog 7 0 0 = true := by kernel_rfl
theorem fld7_1 : fldB Try.prog 7 1 1 = true := by kernel_rfl
theorem fld7_2 : fldB Try.prog 7 2 2 = true := by kernel_rfl
theorem fld7_3 : fldB Try.prog 7 3 3 = true := by kernel_rfl
theorem zc8 : (Try.prog.info? 8).map (fun i => i.zero.map (·.cells)) = some (some #[.int .i64 0, .int .i64 0, .bool false, .int .u8 0]) := by kernel_rfl
theorem agg8 : aggB Try.prog 8 4 = true := by kernel_rfl
theorem plc8 : places Try.prog 8 = some [(0, 1), (1, 1), (2, 1), (3, 1)] := by kernel_rfl
theorem fld8_0 : fldB Try.prog 8 0 0 = true := by kernel_rfl
theorem fld8_1 : fldB Try.prog 8 1 1 = true := by kernel_rfl
theorem fld8_2 : fldB Try.prog 8 2 2 = true := by kernel_rfl
theorem fld8_3 : fldB Try.prog 8 3 3 = true := by kernel_rfl
theorem ty9 : Try.prog.underlying 9 = some .string := by kernel_rfl
theorem sca9 : scaB Try.prog 9 = true := by kernel_rfl
theorem zc9 : (Try.prog.info? 9).map (fun i => i.zero.map (·.cells)) = some (some #[.string ByteArray.empty]) := by kernel_rfl
theorem z9 : (Try.prog.info? 9).map (·.zero) = some (some (.string ByteArray.empty)) := by kernel_rfl
theorem ty10 : Try.prog.underlying 10 = some .string := by kernel_rfl
theorem sca10 : scaB Try.prog 10 = true := by kernel_rfl
theorem zc10 : (Try.prog.info? 10).map (fun i => i.zero.map (·.cells)) = some (some #[.string ByteArray.empty]) := by kernel_rfl
theorem z10 : (Try.prog.info? 10).map (·.zero) = some (some (.string ByteArray.empty)) := by kernel_rfl
theorem ty11 : Try.prog.underlying 11 = some .string := by kernel_rfl
theorem sca11 : scaB Try.prog 11 = true := by kernel_rfl
theorem zc11 : (Try.prog.info? 11).map (fun i => i.zero.map (·.cells)) = some (some #[.string ByteArray.empty]) := by kernel_rfl
theorem z11 : (Try.prog.info? 11).map (·.zero) = some (some (.string ByteArray.empty)) := by kernel_rfl
theorem ty12 : Try.prog.underlying 12 = some (.int .u64) := by kernel_rfl
theorem is12 : (Try.prog.underlying 12).isSome = true := by kernel_rfl
theorem sca12 : scaB Try.prog 12 = true := by kernel_rfl
theorem zc12 : (Try.prog.info? 12).map (fun i => i.zero.map (·.cells)) = some (some #[.int .u64 0]) := by kernel_rfl
theorem z12 : (Try.prog.info? 12).map (·.zero) = some (some (.int .u64 0)) := by kernel_rfl
theorem zc13 : (Try.prog.info? 13).map (fun i => i.zero.map (·.cells)) = some (some #[.string ByteArray.empty, .int .u64 0]) := by kernel_rfl
theorem agg13 : aggB Try.prog 13 2 = true := by kernel_rfl
theorem plc13 : places Try.prog 13 = some [(0, 1), (1, 1)] := by kernel_rfl
theorem fld13_0 : fldB Try.prog 13 0 0 = true := by kernel_rfl
theorem fld13_1 : fldB Try.prog 13 1 1 = true := by kernel_rfl
theorem zc14 : (Try.prog.info? 14).map (fun i => i.zero.map (·.cells)) = some (some #[.string ByteArray.empty, .int .u64 0]) := by kernel_rfl
theorem agg14 : aggB Try.prog 14 2 = true := by kernel_rfl
theorem plc14 : places Try.prog 14 = some [(0, 1), (1, 1)] := by kernel_rfl
theorem fld14_0 : fldB Try.prog 14 0 0 = true := by kernel_rfl
theorem fld14_1 : fldB Try.prog 14 1 1 = true := by kernel_rfl
theorem sca15 : scaB Try.prog 15 = true := by kernel_rfl
theorem ptr15 : ptrB Try.prog 15 = true := by kernel_rfl
theorem zc15 : (Try.prog.info? 15).map (fun i => i.zero.map (·.cells)) = some (some #[.pointer none]) := by kernel_rfl
theorem z15 : (Try.prog.info? 15).map (·.zero) = some (some (.pointer none)) := by kernel_rfl
theorem sca16 : scaB Try.prog 16 = true := by kernel_rfl
theorem ptr16 : ptrB Try.prog 16 = true := by kernel_rfl
theorem zc16 : (Try.prog.info? 16).map (fun i => i.zero.map (·.cells)) = some (some #[.pointer none]) := by kernel_rfl
theorem z16 : (Try.prog.info? 16).map (·.zero) = some (some (.pointer none)) := by kernel_rfl
theorem sca17 : scaB Try.prog 17 = true := by kernel_rfl
theorem ptr17 : ptrB Try.prog 17 = true := by kernel_rfl
theorem zc17 : (Try.prog.info? 17).map (fun i => i.zero.map (·.cells)) = some (some #[.pointer none]) := by kernel_rfl
theorem z17 : (Try.prog.info? 17).map (·.zero) = some (some (.pointer none)) := by kernel_rfl
theorem zc18 : (Try.prog.info? 18).map (fun i => i.zero.map (·.cells)) = some (some #[.pointer none]) := by kernel_rfl
theorem agg18 : aggB Try.prog 18 1 = true := by kernel_rfl
theorem plc18 : places Try.prog 18 = some [(0, 1)] := by kernel_rfl
theorem fld18_0 : fldB Try.prog 18 0 0 = true := by kernel_rfl
theorem zc19 : (Try.prog.info? 19).map (fun i => i.zero.map (·.cells)) = some (some #[.pointer none]) := by kernel_rfl
theorem agg19 : aggB Try.prog 19 1 = true := by kernel_rfl
theorem plc19 : places Try.prog 19 = some [(0, 1)] := by kernel_rfl
theorem fld19_0 : fldB Try.prog 19 0 0 = true := by kernel_rfl
theorem sca20 : scaB Try.prog 20 = true := by kernel_rfl
theorem zc20 : (Try.prog.info? 20).map (fun i => i.zero.map (·.cells)) = some (some #[.nilIface]) := by kernel_rfl
theorem z20 : (Try.prog.info? 20).map (·.zero) = some (some (.nilIface)) := by kernel_rfl
theorem ty21 : Try.prog.underlying 21 = some (.int .i32) := by kernel_rfl
theorem is21 : (Try.prog.underlying 21).isSome = true := by kernel_rfl
theorem sca21 : scaB Try.prog 21 = true := by kernel_rfl
theorem zc21 : (Try.prog.info? 21).map (fun i => i.zero.map (·.cells)) = some (some #[.int .i32 0]) := by kernel_rfl
theorem z21 : (Try.prog.info? 21).map (·.zero) = some (some (.int .i32 0)) := by kernel_rfl
theorem sca22 : scaB Try.prog 22 = true := by kernel_rfl
theorem sl22 : SliceT Try.prog 22 5 1 1 := ⟨by kernel_rfl, by kernel_rfl⟩
theorem zc22 : (Try.prog.info? 22).map (fun i => i.zero.map (·.cells)) = some (some #[.slice none 0 0]) := by kernel_rfl
theorem z22 : (Try.prog.info? 22).map (·.zero) = some (some (.slice none 0 0)) := by kernel_rfl
theorem sca23 : scaB Try.prog 23 = true := by kernel_rfl
theorem zc23 : (Try.prog.info? 23).map (fun i => i.zero.map (·.cells)) = some (some #[.nilFunc]) := by kernel_rfl
theorem z23 : (Try.prog.info? 23).map (·.zero) = some (some (.nilFunc)) := by kernel_rfl
theorem sca24 : scaB Try.prog 24 = true := by kernel_rfl
theorem zc24 : (Try.prog.info? 24).map (fun i => i.zero.map (·.cells)) = some (some #[.nilFunc]) := by kernel_rfl
theorem z24 : (Try.prog.info? 24).map (·.zero) = some (some (.nilFunc)) := by kernel_rfl
theorem ty25 : Try.prog.underlying 25 = some (.int .u32) := by kernel_rfl
theorem is25 : (Try.prog.underlying 25).isSome = true := by kernel_rfl
theorem sca25 : scaB Try.prog 25 = true := by kernel_rfl
theorem zc25 : (Try.prog.info? 25).map (fun i => i.zero.map (·.cells)) = some (some #[.int .u32 0]) := by kernel_rfl
theorem z25 : (Try.prog.info? 25).map (·.zero) = some (some (.int .u32 0)) := by kernel_rfl
theorem agg26 : aggB Try.prog 26 256 = true := by kernel_rfl
theorem agg27 : aggB Try.prog 27 256 = true := by kernel_rfl
theorem sca28 : scaB Try.prog 28 = true := by kernel_rfl
theorem zc28 : (Try.prog.info? 28).map (fun i => i.zero.map (·.cells)) = some (some #[.nilFunc]) := by kernel_rfl
theorem z28 : (Try.prog.info? 28).map (·.zero) = some (some (.nilFunc)) := by kernel_rfl
theorem ty29 : Try.prog.underlying 29 = some (.int .i64) := by kernel_rfl
theorem is29 : (Try.prog.underlying 29).isSome = true := by kernel_rfl
theorem sca29 : scaB Try.prog 29 = true := by kernel_rfl
theorem zc29 : (Try.prog.info? 29).map (fun i => i.zero.map (·.cells)) = some (some #[.int .i64 0]) := by kernel_rfl
theorem z29 : (Try.prog.info? 29).map (·.zero) = some (some (.int .i64 0)) := by kernel_rfl
theorem sca31 : scaB Try.prog 31 = true := by kernel_rfl
theorem zc31 : (Try.prog.info? 31).map (fun i => i.zero.map (·.cells)) = some (some #[.nilFunc]) := by kernel_rfl
theorem z31 : (Try.prog.info? 31).map (·.zero) = some (some (.nilFunc)) := by kernel_rfl
theorem sca32 : scaB Try.prog 32 = true := by kernel_rfl
theorem ptr32 : ptrB Try.prog 32 = true := by kernel_rfl
theorem zc32 : (Try.prog.info? 32).map (fun i => i.zero.map (·.cells)) = some (some #[.pointer none]) := by kernel_rfl
theorem z32 : (Try.prog.info? 32).map (·.zero) = some (some (.pointer none)) := by kernel_rfl
theorem sca33 : scaB Try.prog 33 = true := by kernel_rfl
theorem zc33 : (Try.prog.info? 33).map (fun i => i.zero.map (·.cells)) = some (some #[.nilFunc]) := by kernel_rfl
theorem z33 : (Try.prog.info? 33).map (·.zero) = some (some (.nilFunc)) := by kernel_rfl
theorem sca34 : scaB Try.prog 34 = true := by kernel_rfl
theorem zc34 : (Try.prog.info? 34).map (fun i => i.zero.map (·.cells)) = some (some #[.nilFunc]) := by kernel_rfl
theorem z34 : (Try.prog.info? 34).map (·.zero) = some (some (.nilFunc)) := by kernel_rfl
theorem sca35 : scaB Try.prog 35 = true := by kernel_rfl
theorem zc35 : (Try.prog.info? 35).map (fun i => i.zero.map (·.cells)) = some (some #[.nilFunc]) := by kernel_rfl
theorem z35 : (Try.prog.info? 35).map (·.zero) = some (some (.nilFunc)) := by kernel_rfl
theorem sca37 : scaB Try.prog 37 = true := by kernel_rfl
theorem zc37 : (Try.prog.info? 37).map (fun i => i.zero.map (·.cells)) = some (some #[.nilFunc]) := by kernel_rfl
theorem z37 : (Try.prog.info? 37).map (·.zero) = some (some (.nilFunc)) := by kernel_rfl
theorem sca38 : scaB Try.prog 38 = true := by kernel_rfl
theorem zc38 : (Try.prog.info? 38).map (fun i => i.zero.map (·.cells)) = some (some #[.nilFunc]) := by kernel_rfl
theorem z38 : (Try.prog.info? 38).map (·.zero) = some (some (.nilFunc)) := by kernel_rfl
theorem sca40 : scaB Try.prog 40 = true := by kernel_rfl
theorem zc40 : (Try.prog.info? 40).map (fun i => i.zero.map (·.cells)) = some (some #[.nilFunc]) := by kernel_rfl
theorem z40 : (Try.prog.info? 40).map (·.zero) = some (some (.nilFunc)) := by kernel_rfl
theorem sca41 : scaB Try.prog 41 = true := by kernel_rfl
theorem zc41 : (Try.prog.info? 41).map (fun i => i.zero.map (·.cells)) = some (some #[.nilFunc]) := by kernel_rfl
theorem z41 : (Try.prog.info? 41).map (·.zero) = some (some (.nilFunc)) := by kernel_rfl
theorem sca42 : scaB Try.prog 42 = true := by kernel_rfl
theorem zc42 : (Try.prog.info? 42).map (fun i => i.zero.map (·.cells)) = some (some #[.nilFunc]) := by kernel_rfl
theorem z42 : (Try.prog.info? 42).map (·.zero) = some (some (.nilFunc)) := by kernel_rfl
theorem sca43 : scaB Try.prog 43 = true := by kernel_rfl
theorem zc43 : (Try.prog.info? 43).map (fun i => i.zero.map (·.cells)) = some (some #[.nilFunc]) := by kernel_rfl
theorem z43 : (Try.prog.info? 43).map (·.zero) = some (some (.nilFunc)) := by kernel_rfl
theorem sca44 : scaB Try.prog 44 = true := by kernel_rfl
theorem sl44 : SliceT Try.prog 44 22 1 24 := ⟨by kernel_rfl, by kernel_rfl⟩
theorem zc44 : (Try.prog.info? 44).map (fun i => i.zero.map (·.cells)) = some (some #[.slice none 0 0]) := by kernel_rfl
theorem z44 : (Try.prog.info? 44).map (·.zero) = some (some (.slice none 0 0)) := by kernel_rfl
theorem sca45 : scaB Try.prog 45 = true := by kernel_rfl
theorem zc45 : (Try.prog.info? 45).map (fun i => i.zero.map (·.cells)) = some (some #[.nilFunc]) := by kernel_rfl
theorem z45 : (Try.prog.info? 45).map (·.zero) = some (some (.nilFunc)) := by kernel_rfl
theorem sca46 : scaB Try.prog 46 = true := by kernel_rfl
theorem zc46 : (Try.prog.info? 46).map (fun i => i.zero.map (·.cells)) = some (some #[.nilFunc]) := by kernel_rfl
theorem z46 : (Try.prog.info? 46).map (·.zero) = some (some (.nilFunc)) := by kernel_rfl
theorem sca47 : scaB Try.prog 47 = true := by kernel_rfl
theorem ptr47 : ptrB Try.prog 47 = true := by kernel_rfl
theorem zc47 : (Try.prog.info? 47).map (fun i => i.zero.map (·.cells)) = some (some #[.pointer none]) := by kernel_rfl
theorem z47 : (Try.prog.info? 47).map (·.zero) = some (some (.pointer none)) := by kernel_rfl
theorem sca48 : scaB Try.prog 48 = true := by kernel_rfl
theorem zc48 : (Try.prog.info? 48).map (fun i => i.zero.map (·.cells)) = some (some #[.nilFunc]) := by kernel_rfl
theorem z48 : (Try.prog.info? 48).map (·.zero) = some (some (.nilFunc)) := by kernel_rfl
theorem sca49 : scaB Try.prog 49 = true := by kernel_rfl
theorem ptr49 : ptrB Try.prog 49 = true := by kernel_rfl
theorem zc49 : (Try.prog.info? 49).map (fun i => i.zero.map (·.cells)) = some (some #[.pointer none]) := by kernel_rfl
theorem z49 : (Try.prog.info? 49).map (·.zero) = some (some (.pointer none)) := by kernel_rfl
theorem zc50 : (Try.prog.info? 50).map (fun i => i.zero.map (·.cells)) = some (some #[.slice none 0 0, .slice none 0 0]) := by kernel_rfl
theorem agg50 : aggB Try.prog 50 2 = true := by kernel_rfl
theorem plc50 : places Try.prog 50 = some [(0, 1), (1, 1)] := by kernel_rfl
theorem fld50_0 : fldB Try.prog 50 0 0 = true := by kernel_rfl
theorem fld50_1 : fldB Try.prog 50 1 1 = true := by kernel_rfl
theorem zc51 : (Try.prog.info? 51).map (fun i => i.zero.map (·.cells)) = some (some #[.slice none 0 0, .slice none 0 0]) := by kernel_rfl
theorem agg51 : aggB Try.prog 51 2 = true := by kernel_rfl
theorem plc51 : places Try.prog 51 = some [(0, 1), (1, 1)] := by kernel_rfl
theorem fld51_0 : fldB Try.prog 51 0 0 = true := by kernel_rfl
theorem fld51_1 : fldB Try.prog 51 1 1 = true := by kernel_rfl
theorem sca52 : scaB Try.prog 52 = true := by kernel_rfl
theorem zc52 : (Try.prog.info? 52).map (fun i => i.zero.map (·.cells)) = some (some #[.nilFunc]) := by kernel_rfl
theorem z52 : (Try.prog.info? 52).map (·.zero) = some (some (.nilFunc)) := by kernel_rfl
theorem sca53 : scaB Try.prog 53 = true := by kernel_rfl
theorem zc53 : (Try.prog.info? 53).map (fun i => i.zero.map (·.cells)) = some (some #[.nilFunc]) := by kernel_rfl
theorem z53 : (Try.prog.info? 53).map (·.zero) = some (some (.nilFunc)) := by kernel_rfl
theorem sca54 : scaB Try.prog 54 = true := by kernel_rfl
theorem sl54 : SliceT Try.prog 54 3 1 8 := ⟨by kernel_rfl, by kernel_rfl⟩
theorem zc54 : (Try.prog.info? 54).map (fun i => i.zero.map (·.cells)) = some (some #[.slice none 0 0]) := by kernel_rfl
theorem z54 : (Try.prog.info? 54).map (·.zero) = some (some (.slice none 0 0)) := by kernel_rfl
theorem sca55 : scaB Try.prog 55 = true := by kernel_rfl
theorem ptr55 : ptrB Try.prog 55 = true := by kernel_rfl
theorem zc55 : (Try.prog.info? 55).map (fun i => i.zero.map (·.cells)) = some (some #[.pointer none]) := by kernel_rfl
theorem z55 : (Try.prog.info? 55).map (·.zero) = some (some (.pointer none)) := by kernel_rfl
theorem sca56 : scaB Try.prog 56 = true := by kernel_rfl
theorem zc56 : (Try.prog.info? 56).map (fun i => i.zero.map (·.cells)) = some (some #[.nilFunc]) := by kernel_rfl
theorem z56 : (Try.prog.info? 56).map (·.zero) = some (some (.nilFunc)) := by kernel_rfl
theorem sca57 : scaB Try.prog 57 = true := by kernel_rfl
theorem zc57 : (Try.prog.info? 57).map (fun i => i.zero.map (·.cells)) = some (some #[.nilFunc]) := by kernel_rfl
theorem z57 : (Try.prog.info? 57).map (·.zero) = some (some (.nilFunc)) := by kernel_rfl
theorem sca58 : scaB Try.prog 58 = true := by kernel_rfl
theorem zc58 : (Try.prog.info? 58).map (fun i => i.zero.map (·.cells)) = some (some #[.nilFunc]) := by kernel_rfl
theorem z58 : (Try.prog.info? 58).map (·.zero) = some (some (.nilFunc)) := by kernel_rfl
theorem sca59 : scaB Try.prog 59 = true := by kernel_rfl
theorem zc59 : (Try.prog.info? 59).map (fun i => i.zero.map (·.cells)) = some (some #[.nilFunc]) := by kernel_rfl
theorem z59 : (Try.prog.info? 59).map (·.zero) = some (some (.nilFunc)) := by kernel_rfl
theorem zc60 : (Try.prog.info? 60).map (fun i => i.zero.map (·.cells)) = some (some #[.int .i64 0, .int .i64 0]) := by kernel_rfl
theorem agg60 : aggB Try.prog 60 2 = true := by kernel_rfl
theorem sca61 : scaB Try.prog 61 = true := by kernel_rfl
theorem sl61 : SliceT Try.prog 61 66 2 16 := ⟨by kernel_rfl, by kernel_rfl⟩
theorem zc61 : (Try.prog.info? 61).map (fun i => i.zero.map (·.cells)) = some (some #[.slice none 0 0]) := by kernel_rfl
theorem z61 : (Try.prog.info? 61).map (·.zero) = some (some (.slice none 0 0)) := by kernel_rfl
theorem sca62 : scaB Try.prog 62 = true := by kernel_rfl
theorem ptr62 : ptrB Try.prog 62 = true := by kernel_rfl
theorem zc62 : (Try.prog.info? 62).map (fun i => i.zero.map (·.cells)) = some (some #[.pointer none]) := by kernel_rfl
theorem z62 : (Try.prog.info? 62).map (·.zero) = some (some (.pointer none)) := by kernel_rfl
theorem zc63 : (Try.prog.info? 63).map (fun i => i.zero.map (·.cells)) = some (some #[.slice none 0 0, .int .i64 0, .int .i64 0]) := by kernel_rfl
theorem agg63 : aggB Try.prog 63 3 = true := by kernel_rfl
theorem plc63 : places Try.prog 63 = some [(0, 1), (1, 1), (2, 1)] := by kernel_rfl
theorem fld63_0 : fldB Try.prog 63 0 0 = true := by kernel_rfl
theorem fld63_1 : fldB Try.prog 63 1 1 = true := by kernel_rfl
theorem fld63_2 : fldB Try.prog 63 2 2 = true := by kernel_rfl
theorem zc64 : (Try.prog.info? 64).map (fun i => i.zero.map (·.cells)) = some (some #[.slice none 0 0, .int .i64 0, .int .i64 0]) := by kernel_rfl
theorem agg64 : aggB Try.prog 64 3 = true := by kernel_rfl
theorem plc64 : places Try.prog 64 = some [(0, 1), (1, 1), (2, 1)] := by kernel_rfl
theorem fld64_0 : fldB Try.prog 64 0 0 = true := by kernel_rfl
theorem fld64_1 : fldB Try.prog 64 1 1 = true := by kernel_rfl
theorem fld64_2 : fldB Try.prog 64 2 2 = true := by kernel_rfl
theorem zc65 : (Try.prog.info? 65).map (fun i => i.zero.map (·.cells)) = some (some #[.int .i64 0, .int .i64 0]) := by kernel_rfl
theorem agg65 : aggB Try.prog 65 2 = true := by kernel_rfl
theorem plc65 : places Try.prog 65 = some [(0, 1), (1, 1)] := by kernel_rfl
theorem fld65_0 : fldB Try.prog 65 0 0 = true := by kernel_rfl
theorem fld65_1 : fldB Try.prog 65 1 1 = true := by kernel_rfl
theorem zc66 : (Try.prog.info? 66).map (fun i => i.zero.map (·.cells)) = some (some #[.int .i64 0, .int .i64 0]) := by kernel_rfl
theorem agg66 : aggB Try.prog 66 2 = true := by kernel_rfl
theorem plc66 : places Try.prog 66 = some [(0, 1), (1, 1)] := by kernel_rfl
theorem fld66_0 : fldB Try.prog 66 0 0 = true := by kernel_rfl
theorem fld66_1 : fldB Try.prog 66 1 1 = true := by kernel_rfl
theorem sca67 : scaB Try.prog 67 = true := by kernel_rfl
theorem zc67 : (Try.prog.info? 67).map (fun i => i.zero.map (·.cells)) = some (some #[.nilFunc]) := by kernel_rfl
theorem z67 : (Try.prog.info? 67).map (·.zero) = some (some (.nilFunc)) := by kernel_rfl
theorem sca68 : scaB Try.prog 68 = true := by kernel_rfl
theorem zc68 : (Try.prog.info? 68).map (fun i => i.zero.map (·.cells)) = some (some #[.nilFunc]) := by kernel_rfl
theorem z68 : (Try.prog.info? 68).map (·.zero) = some (some (.nilFunc)) := by kernel_rfl
theorem ty69 : Try.prog.underlying 69 = some (.int .u64) := by kernel_rfl
theorem is69 : (Try.prog.underlying 69).isSome = true := by kernel_rfl
theorem sca69 : scaB Try.prog 69 = true := by kernel_rfl
theorem zc69 : (Try.prog.info? 69).map (fun i => i.zero.map (·.cells)) = some (some #[.int .u64 0]) := by kernel_rfl
theorem z69 : (Try.prog.info? 69).map (·.zero) = some (some (.int .u64 0)) := by kernel_rfl
theorem zc70 : (Try.prog.info? 70).map (fun i => i.zero.map (·.cells)) = some (some #[.int .i64 0]) := by kernel_rfl
theorem agg70 : aggB Try.prog 70 1 = true := by kernel_rfl
theorem plc70 : places Try.prog 70 = some [(0, 1)] := by kernel_rfl
theorem fld70_0 : fldB Try.prog 70 0 0 = true := by kernel_rfl
theorem zc71 : (Try.prog.info? 71).map (fun i => i.zero.map (·.cells)) = some (some #[.int .i64 0]) := by kernel_rfl
theorem agg71 : aggB Try.prog 71 1 = true := by kernel_rfl
theorem plc71 : places Try.prog 71 = some [(0, 1)] := by kernel_rfl
theorem fld71_0 : fldB Try.prog 71 0 0 = true := by kernel_rfl
theorem zc72 : (Try.prog.info? 72).map (fun i => i.zero.map (·.cells)) = some (some #[.int .i64 0, .slice none 0 0]) := by kernel_rfl
theorem agg72 : aggB Try.prog 72 2 = true := by kernel_rfl
theorem plc72 : places Try.prog 72 = some [(0, 1), (1, 1)] := by kernel_rfl
theorem fld72_0 : fldB Try.prog 72 0 0 = true := by kernel_rfl
theorem fld72_1 : fldB Try.prog 72 1 1 = true := by kernel_rfl
theorem zc73 : (Try.prog.info? 73).map (fun i => i.zero.map (·.cells)) = some (some #[.int .i64 0, .slice none 0 0]) := by kernel_rfl
theorem agg73 : aggB Try.prog 73 2 = true := by kernel_rfl
theorem plc73 : places Try.prog 73 = some [(0, 1), (1, 1)] := by kernel_rfl
theorem fld73_0 : fldB Try.prog 73 0 0 = true := by kernel_rfl
theorem fld73_1 : fldB Try.prog 73 1 1 = true := by kernel_rfl
theorem zc74 : (Try.prog.info? 74).map (fun i => i.zero.map (·.cells)) = some (some #[.int .u8 0, .int .u8 0, .int .u8 0]) := by kernel_rfl
theorem agg74 : aggB Try.prog 74 3 = true := by kernel_rfl
theorem zc75 : (Try.prog.info? 75).map (fun i => i.zero.map (·.cells)) = some (some #[.int .u8 0, .int .u8 0, .int .u8 0]) := by kernel_rfl
theorem agg75 : aggB Try.prog 75 3 = true := by kernel_rfl
theorem sca76 : scaB Try.prog 76 = true := by kernel_rfl
theorem zc76 : (Try.prog.info? 76).map (fun i => i.zero.map (·.cells)) = some (some #[.nilFunc]) := by kernel_rfl
theorem z76 : (Try.prog.info? 76).map (·.zero) = some (some (.nilFunc)) := by kernel_rfl
theorem sca77 : scaB Try.prog 77 = true := by kernel_rfl
theorem zc77 : (Try.prog.info? 77).map (fun i => i.zero.map (·.cells)) = some (some #[.nilFunc]) := by kernel_rfl
theorem z77 : (Try.prog.info? 77).map (·.zero) = some (some (.nilFunc)) := by kernel_rfl
theorem sca78 : scaB Try.prog 78 = true := by kernel_rfl
theorem zc78 : (Try.prog.info? 78).map (fun i => i.zero.map (·.cells)) = some (some #[.nilFunc]) := by kernel_rfl
theorem z78 : (Try.prog.info? 78).map (·.zero) = some (some (.nilFunc)) := by kernel_rfl
theorem sca79 : scaB Try.prog 79 = true := by kernel_rfl
theorem zc79 : (Try.prog.info? 79).map (fun i => i.zero.map (·.cells)) = some (some #[.nilFunc]) := by kernel_rfl
theorem z79 : (Try.prog.info? 79).map (·.zero) = some (some (.nilFunc)) := by kernel_rfl
theorem sca80 : scaB Try.prog 80 = true := by kernel_rfl
theorem zc80 : (Try.prog.info? 80).map (fun i => i.zero.map (·.cells)) = some (some #[.nilFunc]) := by kernel_rfl
theorem z80 : (Try.prog.info? 80).map (·.zero) = some (some (.nilFunc)) := by kernel_rfl
theorem sca81 : scaB Try.prog 81 = true := by kernel_rfl
theorem zc81 : (Try.prog.info? 81).map (fun i => i.zero.map (·.cells)) = some (some #[.nilFunc]) := by kernel_rfl
theorem z81 : (Try.prog.info? 81).map (·.zero) = some (some (.nilFunc)) := by kernel_rfl
theorem zc82 : (Try.prog.info? 82).map (fun i => i.zero.map (·.cells)) = some (some #[.slice none 0 0, .int .i64 0]) := by kernel_rfl
theorem agg82 : aggB Try.prog 82 2 = true := by kernel_rfl
theorem plc82 : places Try.prog 82 = some [(0, 1), (1, 1)] := by kernel_rfl
theorem fld82_0 : fldB Try.prog 82 0 0 = true := by kernel_rfl
theorem fld82_1 : fldB Try.prog 82 1 1 = true := by kernel_rfl
theorem zc83 : (Try.prog.info? 83).map (fun i => i.zero.map (·.cells)) = some (some #[.slice none 0 0, .int .i64 0]) := by kernel_rfl
theorem agg83 : aggB Try.prog 83 2 = true := by kernel_rfl
theorem plc83 : places Try.prog 83 = some [(0, 1), (1, 1)] := by kernel_rfl
theorem fld83_0 : fldB Try.prog 83 0 0 = true := by kernel_rfl
theorem fld83_1 : fldB Try.prog 83 1 1 = true := by kernel_rfl
theorem sca84 : scaB Try.prog 84 = true := by kernel_rfl
theorem zc84 : (Try.prog.info? 84).map (fun i => i.zero.map (·.cells)) = some (some #[.nilFunc]) := by kernel_rfl
theorem z84 : (Try.prog.info? 84).map (·.zero) = some (some (.nilFunc)) := by kernel_rfl
theorem zc85 : (Try.prog.info? 85).map (fun i => i.zero.map (·.cells)) = some (some #[.slice none 0 0, .int .u32 0, .bool false, .int .i64 0]) := by kernel_rfl
theorem agg85 : aggB Try.prog 85 4 = true := by kernel_rfl
theorem plc85 : places Try.prog 85 = some [(0, 1), (1, 1), (2, 1), (3, 1)] := by kernel_rfl
theorem fld85_0 : fldB Try.prog 85 0 0 = true := by kernel_rfl
theorem fld85_1 : fldB Try.prog 85 1 1 = true := by kernel_rfl
theorem fld85_2 : fldB Try.prog 85 2 2 = true := by kernel_rfl
theorem fld85_3 : fldB Try.prog 85 3 3 = true := by kernel_rfl
theorem zc86 : (Try.prog.info? 86).map (fun i => i.zero.map (·.cells)) = some (some #[.slice none 0 0, .int .u32 0, .bool false, .int .i64 0]) := by kernel_rfl
theorem agg86 : aggB Try.prog 86 4 = true := by kernel_rfl
theorem plc86 : places Try.prog 86 = some [(0, 1), (1, 1), (2, 1), (3, 1)] := by kernel_rfl
theorem fld86_0 : fldB Try.prog 86 0 0 = true := by kernel_rfl
theorem fld86_1 : fldB Try.prog 86 1 1 = true := by kernel_rfl
theorem fld86_2 : fldB Try.prog 86 2 2 = true := by kernel_rfl
theorem fld86_3 : fldB Try.prog 86 3 3 = true := by kernel_rfl
theorem sca88 : scaB Try.prog 88 = true := by kernel_rfl
theorem zc88 : (Try.prog.info? 88).map (fun i => i.zero.map (·.cells)) = some (some #[.nilFunc]) := by kernel_rfl
theorem z88 : (Try.prog.info? 88).map (·.zero) = some (some (.nilFunc)) := by kernel_rfl
theorem sca90 : scaB Try.prog 90 = true := by kernel_rfl
theorem zc90 : (Try.prog.info? 90).map (fun i => i.zero.map (·.cells)) = some (some #[.nilFunc]) := by kernel_rfl
theorem z90 : (Try.prog.info? 90).map (·.zero) = some (some (.nilFunc)) := by kernel_rfl
theorem zc91 : (Try.prog.info? 91).map (fun i => i.zero.map (·.cells)) = some (some #[.pointer none, .slice none 0 0, .slice none 0 0]) := by kernel_rfl
theorem agg91 : aggB Try.prog 91 3 = true := by kernel_rfl
theorem plc91 : places Try.prog 91 = some [(0, 1), (1, 1), (2, 1)] := by kernel_rfl
theorem fld91_0 : fldB Try.prog 91 0 0 = true := by kernel_rfl
theorem fld91_1 : fldB Try.prog 91 1 1 = true := by kernel_rfl
theorem fld91_2 : fldB Try.prog 91 2 2 = true := by kernel_rfl
theorem zc92 : (Try.prog.info? 92).map (fun i => i.zero.map (·.cells)) = some (some #[.pointer none, .slice none 0 0, .slice none 0 0]) := by kernel_rfl
theorem agg92 : aggB Try.prog 92 3 = true := by kernel_rfl
theorem plc92 : places Try.prog 92 = some [(0, 1), (1, 1), (2, 1)] := by kernel_rfl
theorem fld92_0 : fldB Try.prog 92 0 0 = true := by kernel_rfl
theorem fld92_1 : fldB Try.prog 92 1 1 = true := by kernel_rfl
theorem fld92_2 : fldB Try.prog 92 2 2 = true := by kernel_rfl
theorem sca93 : scaB Try.prog 93 = true := by kernel_rfl
theorem zc93 : (Try.prog.info? 93).map (fun i => i.zero.map (·.cells)) = some (some #[.nilFunc]) := by kernel_rfl
theorem z93 : (Try.prog.info? 93).map (·.zero) = some (some (.nilFunc)) := by kernel_rfl
theorem sca94 : scaB Try.prog 94 = true := by kernel_rfl
theorem zc94 : (Try.prog.info? 94).map (fun i => i.zero.map (·.cells)) = some (some #[.nilFunc]) := by kernel_rfl
theorem z94 : (Try.prog.info? 94).map (·.zero) = some (some (.nilFunc)) := by kernel_rfl
theorem sca95 : scaB Try.prog 95 = true := by kernel_rfl
theorem zc95 : (Try.prog.info? 95).map (fun i => i.zero.map (·.cells)) = some (some #[.map none]) := by kernel_rfl
theorem z95 : (Try.prog.info? 95).map (·.zero) = some (some (.map none)) := by kernel_rfl
theorem zc96 : (Try.prog.info? 96).map (fun i => i.zero.map (·.cells)) = some (some #[.pointer none, .slice none 0 0, .int .i64 0, .int .i64 0, .map none]) := by kernel_rfl
theorem agg96 : aggB Try.prog 96 5 = true := by kernel_rfl
theorem plc96 : places Try.prog 96 = some [(0, 1), (1, 1), (2, 1), (3, 1), (4, 1)] := by kernel_rfl
theorem fld96_0 : fldB Try.prog 96 0 0 = true := by kernel_rfl
theorem fld96_1 : fldB Try.prog 96 1 1 = true := by kernel_rfl
theorem fld96_2 : fldB Try.prog 96 2 2 = true := by kernel_rfl
theorem fld96_3 : fldB Try.prog 96 3 3 = true := by kernel_rfl
theorem fld96_4 : fldB Try.prog 96 4 4 = true := by kernel_rfl
theorem zc97 : (Try.prog.info? 97).map (fun i => i.zero.map (·.cells)) = some (some #[.pointer none, .slice none 0 0, .int .i64 0, .int .i64 0, .map none]) := by kernel_rfl
theorem agg97 : aggB Try.prog 97 5 = true := by kernel_rfl
theorem plc97 : places Try.prog 97 = some [(0, 1), (1, 1), (2, 1), (3, 1), (4, 1)] := by kernel_rfl
theorem fld97_0 : fldB Try.prog 97 0 0 = true := by kernel_rfl
theorem fld97_1 : fldB Try.prog 97 1 1 = true := by kernel_rfl
theorem fld97_2 : fldB Try.prog 97 2 2 = true := by kernel_rfl
theorem fld97_3 : fldB Try.prog 97 3 3 = true := by kernel_rfl
theorem fld97_4 : fldB Try.prog 97 4 4 = true := by kernel_rfl
theorem zc98 : (Try.prog.info? 98).map (fun i => i.zero.map (·.cells)) = some (some #[.slice none 0 0, .int .i64 0]) := by kernel_rfl
theorem agg98 : aggB Try.prog 98 2 = true := by kernel_rfl
theorem plc98 : places Try.prog 98 = some [(0, 1), (1, 1)] := by kernel_rfl
theorem fld98_0 : fldB Try.prog 98 0 0 = true := by kernel_rfl
theorem fld98_1 : fldB Try.prog 98 1 1 = true := by kernel_rfl
theorem zc99 : (Try.prog.info? 99).map (fun i => i.zero.map (·.cells)) = some (some #[.slice none 0 0, .int .i64 0]) := by kernel_rfl
theorem agg99 : aggB Try.prog 99 2 = true := by kernel_rfl
theorem plc99 : places Try.prog 99 = some [(0, 1), (1, 1)] := by kernel_rfl
theorem fld99_0 : fldB Try.prog 99 0 0 = true := by kernel_rfl
theorem fld99_1 : fldB Try.prog 99 1 1 = true := by kernel_rfl
theorem sca101 : scaB Try.prog 101 = true := by kernel_rfl
theorem zc101 : (Try.prog.info? 101).map (fun i => i.zero.map (·.cells)) = some (some #[.nilFunc]) := by kernel_rfl
theorem z101 : (Try.prog.info? 101).map (·.zero) = some (some (.nilFunc)) := by kernel_rfl
theorem sca102 : scaB Try.prog 102 = true := by kernel_rfl
theorem zc102 : (Try.prog.info? 102).map (fun i => i.zero.map (·.cells)) = some (some #[.nilFunc]) := by kernel_rfl
theorem z102 : (Try.prog.info? 102).map (·.zero) = some (some (.nilFunc)) := by kernel_rfl
theorem sca103 : scaB Try.prog 103 = true := by kernel_rfl
theorem ptr103 : ptrB Try.prog 103 = true := by kernel_rfl
theorem zc103 : (Try.prog.info? 103).map (fun i => i.zero.map (·.cells)) = some (some #[.pointer none]) := by kernel_rfl
theorem z103 : (Try.prog.info? 103).map (·.zero) = some (some (.pointer none)) := by kernel_rfl
theorem sca104 : scaB Try.prog 104 = true := by kernel_rfl
theorem zc104 : (Try.prog.info? 104).map (fun i => i.zero.map (·.cells)) = some (some #[.nilFunc]) := by kernel_rfl
theorem z104 : (Try.prog.info? 104).map (·.zero) = some (some (.nilFunc)) := by kernel_rfl
theorem sca105 : scaB Try.prog 105 = true := by kernel_rfl
theorem zc105 : (Try.prog.info? 105).map (fun i => i.zero.map (·.cells)) = some (some #[.nilFunc]) := by kernel_rfl
theorem z105 : (Try.prog.info? 105).map (·.zero) = some (some (.nilFunc)) := by kernel_rfl
theorem sca106 : scaB Try.prog 106 = true := by kernel_rfl
theorem ptr106 : ptrB Try.prog 106 = true := by kernel_rfl
theorem zc106 : (Try.prog.info? 106).map (fun i => i.zero.map (·.cells)) = some (some #[.pointer none]) := by kernel_rfl
theorem z106 : (Try.prog.info? 106).map (·.zero) = some (some (.pointer none)) := by kernel_rfl
theorem sca107 : scaB Try.prog 107 = true := by kernel_rfl
theorem zc107 : (Try.prog.info? 107).map (fun i => i.zero.map (·.cells)) = some (some #[.map none]) := by kernel_rfl
theorem z107 : (Try.prog.info? 107).map (·.zero) = some (some (.map none)) := by kernel_rfl
theorem sca108 : scaB Try.prog 108 = true := by kernel_rfl
theorem zc108 : (Try.prog.info? 108).map (fun i => i.zero.map (·.cells)) = some (some #[.map none]) := by kernel_rfl
theorem z108 : (Try.prog.info? 108).map (·.zero) = some (some (.map none)) := by kernel_rfl
theorem sca110 : scaB Try.prog 110 = true := by kernel_rfl
theorem zc110 : (Try.prog.info? 110).map (fun i => i.zero.map (·.cells)) = some (some #[.nilFunc]) := by kernel_rfl
theorem z110 : (Try.prog.info? 110).map (·.zero) = some (some (.nilFunc)) := by kernel_rfl
theorem sca111 : scaB Try.prog 111 = true := by kernel_rfl
theorem zc111 : (Try.prog.info? 111).map (fun i => i.zero.map (·.cells)) = some (some #[.nilFunc]) := by kernel_rfl
theorem z111 : (Try.prog.info? 111).map (·.zero) = some (some (.nilFunc)) := by kernel_rfl
theorem sca112 : scaB Try.prog 112 = true := by kernel_rfl
theorem zc112 : (Try.prog.info? 112).map (fun i => i.zero.map (·.cells)) = some (some #[.nilFunc]) := by kernel_rfl
theorem z112 : (Try.prog.info? 112).map (·.zero) = some (some (.nilFunc)) := by kernel_rfl
theorem sca113 : scaB Try.prog 113 = true := by kernel_rfl
theorem ptr113 : ptrB Try.prog 113 = true := by kernel_rfl
theorem zc113 : (Try.prog.info? 113).map (fun i => i.zero.map (·.cells)) = some (some #[.pointer none]) := by kernel_rfl
theorem z113 : (Try.prog.info? 113).map (·.zero) = some (some (.pointer none)) := by kernel_rfl
theorem sca114 : scaB Try.prog 114 = true := by kernel_rfl
theorem zc114 : (Try.prog.info? 114).map (fun i => i.zero.map (·.cells)) = some (some #[.nilFunc]) := by kernel_rfl
theorem z114 : (Try.prog.info? 114).map (·.zero) = some (some (.nilFunc)) := by kernel_rfl
theorem sca115 : scaB Try.prog 115 = true := by kernel_rfl
theorem ptr115 : ptrB Try.prog 115 = true := by kernel_rfl
theorem zc115 : (Try.prog.info? 115).map (fun i => i.zero.map (·.cells)) = some (some #[.pointer none]) := by kernel_rfl
theorem z115 : (Try.prog.info? 115).map (·.zero) = some (some (.pointer none)) := by kernel_rfl
theorem sca116 : scaB Try.prog 116 = true := by kernel_rfl
theorem zc116 : (Try.prog.info? 116).map (fun i => i.zero.map (·.cells)) = some (some #[.nilFunc]) := by kernel_rfl
theorem z116 : (Try.prog.info? 116).map (·.zero) = some (some (.nilFunc)) := by kernel_rfl
theorem zc117 : (Try.prog.info? 117).map (fun i => i.zero.map (·.cells)) = some (some #[.int .i64 0, .slice none 0 0]) := by kernel_rfl
theorem agg117 : aggB Try.prog 117 2 = true := by kernel_rfl
theorem plc117 : places Try.prog 117 = some [(0, 1), (1, 1)] := by kernel_rfl
theorem fld117_0 : fldB Try.prog 117 0 0 = true := by kernel_rfl
theorem fld117_1 : fldB Try.prog 117 1 1 = true := by kernel_rfl
theorem sca118 : scaB Try.prog 118 = true := by kernel_rfl
theorem zc118 : (Try.prog.info? 118).map (fun i => i.zero.map (·.cells)) = some (some #[.nilFunc]) := by kernel_rfl
theorem z118 : (Try.prog.info? 118).map (·.zero) = some (some (.nilFunc)) := by kernel_rfl
theorem zc119 : (Try.prog.info? 119).map (fun i => i.zero.map (·.cells)) = some (some #[.slice none 0 0, .int .i64 0]) := by kernel_rfl
theorem agg119 : aggB Try.prog 119 2 = true := by kernel_rfl
theorem plc119 : places Try.prog 119 = some [(0, 1), (1, 1)] := by kernel_rfl
theorem fld119_0 : fldB Try.prog 119 0 0 = true := by kernel_rfl
theorem fld119_1 : fldB Try.prog 119 1 1 = true := by kernel_rfl
theorem zc120 : (Try.prog.info? 120).map (fun i => i.zero.map (·.cells)) = some (some #[.int .u8 0, .int .u8 0, .int .u8 0]) := by kernel_rfl
theorem agg120 : aggB Try.prog 120 3 = true := by kernel_rfl
theorem sca121 : scaB Try.prog 121 = true := by kernel_rfl
theorem zc121 : (Try.prog.info? 121).map (fun i => i.zero.map (·.cells)) = some (some #[.nilFunc]) := by kernel_rfl
theorem z121 : (Try.prog.info? 121).map (·.zero) = some (some (.nilFunc)) := by kernel_rfl
theorem sca122 : scaB Try.prog 122 = true := by kernel_rfl
theorem ptr122 : ptrB Try.prog 122 = true := by kernel_rfl
theorem zc122 : (Try.prog.info? 122).map (fun i => i.zero.map (·.cells)) = some (some #[.pointer none]) := by kernel_rfl
theorem z122 : (Try.prog.info? 122).map (·.zero) = some (some (.pointer none)) := by kernel_rfl
theorem sca123 : scaB Try.prog 123 = true := by kernel_rfl
theorem zc123 : (Try.prog.info? 123).map (fun i => i.zero.map (·.cells)) = some (some #[.nilFunc]) := by kernel_rfl
theorem z123 : (Try.prog.info? 123).map (·.zero) = some (some (.nilFunc)) := by kernel_rfl
theorem zc124 : (Try.prog.info? 124).map (fun i => i.zero.map (·.cells)) = some (some #[.pointer none, .pointer none, .pointer none, .string ByteArray.empty]) := by kernel_rfl
theorem agg124 : aggB Try.prog 124 4 = true := by kernel_rfl
theorem plc124 : places Try.prog 124 = some [(0, 1), (1, 1), (2, 1), (3, 1)] := by kernel_rfl
theorem fld124_0 : fldB Try.prog 124 0 0 = true := by kernel_rfl
theorem fld124_1 : fldB Try.prog 124 1 1 = true := by kernel_rfl
theorem fld124_2 : fldB Try.prog 124 2 2 = true := by kernel_rfl
theorem fld124_3 : fldB Try.prog 124 3 3 = true := by kernel_rfl
theorem zc125 : (Try.prog.info? 125).map (fun i => i.zero.map (·.cells)) = some (some #[.pointer none, .pointer none, .pointer none, .string ByteArray.empty]) := by kernel_rfl
theorem agg125 : aggB Try.prog 125 4 = true := by kernel_rfl
theorem plc125 : places Try.prog 125 = some [(0, 1), (1, 1), (2, 1), (3, 1)] := by kernel_rfl
theorem fld125_0 : fldB Try.prog 125 0 0 = true := by kernel_rfl
theorem fld125_1 : fldB Try.prog 125 1 1 = true := by kernel_rfl
theorem fld125_2 : fldB Try.prog 125 2 2 = true := by kernel_rfl
theorem fld125_3 : fldB Try.prog 125 3 3 = true := by kernel_rfl
theorem zc126 : (Try.prog.info? 126).map (fun i => i.zero.map (·.cells)) = some (some #[]) := by kernel_rfl
theorem zc127 : (Try.prog.info? 127).map (fun i => i.zero.map (·.cells)) = some (some #[]) := by kernel_rfl
theorem zc128 : (Try.prog.info? 128).map (fun i => i.zero.map (·.cells)) = some (some #[]) := by kernel_rfl
theorem sca129 : scaB Try.prog 129 = true := by kernel_rfl
theorem zc129 : (Try.prog.info? 129).map (fun i => i.zero.map (·.cells)) = some (some #[.nilFunc]) := by kernel_rfl
theorem z129 : (Try.prog.info? 129).map (·.zero) = some (some (.nilFunc)) := by kernel_rfl
theorem ty130 : Try.prog.underlying 130 = some (.int .u8) := by kernel_rfl
theorem is130 : (Try.prog.underlying 130).isSome = true := by kernel_rfl
theorem sca130 : scaB Try.prog 130 = true := by kernel_rfl
theorem zc130 : (Try.prog.info? 130).map (fun i => i.zero.map (·.cells)) = some (some #[.int .u8 0]) := by kernel_rfl
theorem z130 : (Try.prog.info? 130).map (·.zero) = some (some (.int .u8 0)) := by kernel_rfl
theorem ty131 : Try.prog.underlying 131 = some (.int .u8) := by kernel_rfl
theorem is131 : (Try.prog.underlying 131).isSome = true := by kernel_rfl
theorem sca131 : scaB Try.prog 131 = true := by kernel_rfl
theorem zc131 : (Try.prog.info? 131).map (fun i => i.zero.map (·.cells)) = some (some #[.int .u8 0]) := by kernel_rfl
theorem z131 : (Try.prog.info? 131).map (·.zero) = some (some (.int .u8 0)) := by kernel_rfl
theorem sca132 : scaB Try.prog 132 = true := by kernel_rfl
theorem zc132 : (Try.prog.info? 132).map (fun i => i.zero.map (·.cells)) = some (some #[.nilFunc]) := by kernel_rfl
theorem z132 : (Try.prog.info? 132).map (·.zero) = some (some (.nilFunc)) := by kernel_rfl
theorem sca133 : scaB Try.prog 133 = true := by kernel_rfl
theorem ptr133 : ptrB Try.prog 133 = true := by kernel_rfl
theorem zc133 : (Try.prog.info? 133).map (fun i => i.zero.map (·.cells)) = some (some #[.pointer none]) := by kernel_rfl
theorem z133 : (Try.prog.info? 133).map (·.zero) = some (some (.pointer none)) := by kernel_rfl
theorem ty134 : Try.prog.underlying 134 = some (.int .i32) := by kernel_rfl
theorem is134 : (Try.prog.underlying 134).isSome = true := by kernel_rfl
theorem sca134 : scaB Try.prog 134 = true := by kernel_rfl
theorem zc134 : (Try.prog.info? 134).map (fun i => i.zero.map (·.cells)) = some (some #[.int .i32 0]) := by kernel_rfl
theorem z134 : (Try.prog.info? 134).map (·.zero) = some (some (.int .i32 0)) := by kernel_rfl
theorem ty135 : Try.prog.underlying 135 = some (.int .i32) := by kernel_rfl
theorem is135 : (Try.prog.underlying 135).isSome = true := by kernel_rfl
theorem sca135 : scaB Try.prog 135 = true := by kernel_rfl
theorem zc135 : (Try.prog.info? 135).map (fun i => i.zero.map (·.cells)) = some (some #[.int .i32 0]) := by kernel_rfl
theorem z135 : (Try.prog.info? 135).map (·.zero) = some (some (.int .i32 0)) := by kernel_rfl
theorem zc136 : (Try.prog.info? 136).map (fun i => i.zero.map (·.cells)) = some (some #[.int .u64 0, .int .u64 0, .int .u32 0, .int .u8 0, .int .u8 0, .int .u8 0, .int .u8 0, .nilFunc, .pointer none, .int .i32 0, .int .i32 0]) := by kernel_rfl
theorem agg136 : aggB Try.prog 136 11 = true := by kernel_rfl
theorem plc136 : places Try.prog 136 = some [(0, 1), (1, 1), (2, 1), (3, 1), (4, 1), (5, 1), (6, 1), (7, 1), (8, 1), (9, 1), (10, 1)] := by kernel_rfl
theorem fld136_0 : fldB Try.prog 136 0 0 = true := by kernel_rfl
theorem fld136_1 : fldB Try.prog 136 1 1 = true := by kernel_rfl
theorem fld136_2 : fldB Try.prog 136 2 2 = true := by kernel_rfl
theorem fld136_3 : fldB Try.prog 136 3 3 = true := by kernel_rfl
theorem fld136_4 : fldB Try.prog 136 4 4 = true := by kernel_rfl
theorem fld136_5 : fldB Try.prog 136 5 5 = true := by kernel_rfl
theorem fld136_6 : fldB Try.prog 136 6 6 = true := by kernel_rfl
theorem fld136_7 : fldB Try.prog 136 7 7 = true := by kernel_rfl
theorem fld136_8 : fldB Try.prog 136 8 8 = true := by kernel_rfl
theorem fld136_9 : fldB Try.prog 136 9 9 = true := by kernel_rfl
theorem fld136_10 : fldB Try.prog 136 10 10 = true := by kernel_rfl
theorem zc137 : (Try.prog.info? 137).map (fun i => i.zero.map (·.cells)) = some (some #[.int .u64 0, .int .u64 0, .int .u32 0, .int .u8 0, .int .u8 0, .int .u8 0, .int .u8 0, .nilFunc, .pointer none, .int .i32 0, .int .i32 0]) := by kernel_rfl
theorem agg137 : aggB Try.prog 137 11 = true := by kernel_rfl
theorem plc137 : places Try.prog 137 = some [(0, 1), (1, 1), (2, 1), (3, 1), (4, 1), (5, 1), (6, 1), (7, 1), (8, 1), (9, 1), (10, 1)] := by kernel_rfl
theorem fld137_0 : fldB Try.prog 137 0 0 = true := by kernel_rfl
theorem fld137_1 : fldB Try.prog 137 1 1 = true := by kernel_rfl
theorem fld137_2 : fldB Try.prog 137 2 2 = true := by kernel_rfl
theorem fld137_3 : fldB Try.prog 137 3 3 = true := by kernel_rfl
theorem fld137_4 : fldB Try.prog 137 4 4 = true := by kernel_rfl
theorem fld137_5 : fldB Try.prog 137 5 5 = true := by kernel_rfl
theorem fld137_6 : fldB Try.prog 137 6 6 = true := by kernel_rfl
theorem fld137_7 : fldB Try.prog 137 7 7 = true := by kernel_rfl
theorem fld137_8 : fldB Try.prog 137 8 8 = true := by kernel_rfl
theorem fld137_9 : fldB Try.prog 137 9 9 = true := by kernel_rfl
theorem fld137_10 : fldB Try.prog 137 10 10 = true := by kernel_rfl
theorem sca138 : scaB Try.prog 138 = true := by kernel_rfl
theorem zc138 : (Try.prog.info? 138).map (fun i => i.zero.map (·.cells)) = some (some #[.nilFunc]) := by kernel_rfl
theorem z138 : (Try.prog.info? 138).map (·.zero) = some (some (.nilFunc)) := by kernel_rfl
theorem sca139 : scaB Try.prog 139 = true := by kernel_rfl
theorem zc139 : (Try.prog.info? 139).map (fun i => i.zero.map (·.cells)) = some (some #[.nilFunc]) := by kernel_rfl
theorem z139 : (Try.prog.info? 139).map (·.zero) = some (some (.nilFunc)) := by kernel_rfl
theorem zc140 : (Try.prog.info? 140).map (fun i => i.zero.map (·.cells)) = some (some #[.pointer none]) := by kernel_rfl
theorem z140 : (Try.prog.info? 140).map (·.zero) = some (some (.pointer none)) := by kernel_rfl
theorem fn3 : fnB Try.prog 3 = true := by kernel_rfl
theorem fn4 : fnB Try.prog 4 = true := by kernel_rfl
theorem fn5 : fnB Try.prog 5 = true := by kernel_rfl
theorem fn6 : fnB Try.prog 6 = true := by kernel_rfl
theorem fn7 : fnB Try.prog 7 = true := by kernel_rfl
theorem fn8 : fnB Try.prog 8 = true := by kernel_rfl
theorem fn9 : fnB Try.prog 9 = true := by kernel_rfl
theorem fn10 : fnB Try.prog 10 = true := by kernel_rfl
theorem fn11 : fnB Try.prog 11 = true := by kernel_rfl
theorem fn12 : fnB Try.prog 12 = true := by kernel_rfl
theorem fn13 : fnB Try.prog 13 = true := by kernel_rfl
theorem fn14 : fnB Try.prog 14 = true := by kernel_rfl
theorem fn15 : fnB Try.prog 15 = true := by kernel_rfl
theorem fn16 : fnB Try.prog 16 = true := by kernel_rfl
theorem fn17 : fnB Try.prog 17 = true := by kernel_rfl
theorem fn18 : fnB Try.prog 18 = true := by kernel_rfl
theorem fn19 : fnB Try.prog 19 = true := by kernel_rfl
theorem fn20 : fnB Try.prog 20 = true := by kernel_rfl
theorem fn21 : fnB Try.prog 21 = true := by kernel_rfl
theorem fn22 : fnB Try.prog 22 = true := by kernel_rfl
theorem fn23 : fnB Try.prog 23 = true := by kernel_rfl
theorem fn24 : fnB Try.prog 24 = true := by kernel_rfl
theorem fn25 : fnB Try.prog 25 = true := by kernel_rfl
theorem fn26 : fnB Try.prog 26 = true := by kernel_rfl
theorem fn27 : fnB Try.prog 27 = true := by kernel_rfl
theorem fn28 : fnB Try.prog 28 = true := by kernel_rfl
theorem fn29 : fnB Try.prog 29 = true := by kernel_rfl
theorem fn30 : fnB Try.prog 30 = true := by kernel_rfl
theorem fn31 : fnB Try.prog 31 = true := by kernel_rfl
theorem fn32 : fnB Try.prog 32 = true := by kernel_rfl
theorem fn33 : fnB Try.prog 33 = true := by kernel_rfl
theorem fn34 : fnB Try.prog 34 = true := by kernel_rfl
theorem fn35 : fnB Try.prog 35 = true := by kernel_rfl
theorem fn36 : fnB Try.prog 36 = true := by kernel_rfl
theorem fn37 : fnB Try.prog 37 = true := by kernel_rfl
theorem fn38 : fnB Try.prog 38 = true := by kernel_rfl
theorem fn39 : fnB Try.prog 39 = true := by kernel_rfl
theorem fn40 : fnB Try.prog 40 = true := by kernel_rfl
theorem fn41 : fnB Try.prog 41 = true := by kernel_rfl
theorem fn42 : fnB Try.prog 42 = true := by kernel_rfl
theorem fn43 : fnB Try.prog 43 = true := by kernel_rfl
theorem fn44 : fnB Try.prog 44 = true := by kernel_rfl
theorem fn45 : fnB Try.prog 45 = true := by kernel_rfl
theorem fn46 : fnB Try.prog 46 = true := by kernel_rfl
theorem fn47 : fnB Try.prog 47 = true := by kernel_rfl
theorem fn48 : fnB Try.prog 48 = true := by kernel_rfl
theorem fn49 : fnB Try.prog 49 = true := by kernel_rfl
theorem fn50 : fnB Try.prog 50 = true := by kernel_rfl
theorem fn51 : fnB Try.prog 51 = true := by kernel_rfl
theorem fn52 : fnB Try.prog 52 = true := by kernel_rfl
theorem fn53 : fnB Try.prog 53 = true := by kernel_rfl
theorem fn54 : fnB Try.prog 54 = true := by kernel_rfl
theorem fn55 : fnB Try.prog 55 = true := by kernel_rfl
theorem fn56 : fnB Try.prog 56 = true := by kernel_rfl
theorem fn57 : fnB Try.prog 57 = true := by kernel_rfl
theorem fn58 : fnB Try.prog 58 = true := by kernel_rfl
theorem fn59 : fnB Try.prog 59 = true := by kernel_rfl
theorem fn60 : fnB Try.prog 60 = true := by kernel_rfl
theorem fn61 : fnB Try.prog 61 = true := by kernel_rfl
theorem fn62 : fnB Try.prog 62 = true := by kernel_rfl
theorem fn63 : fnB Try.prog 63 = true := by kernel_rfl
theorem fn64 : fnB Try.prog 64 = true := by kernel_rfl
theorem fn65 : fnB Try.prog 65 = true := by kernel_rfl
theorem fn66 : fnB Try.prog 66 = true := by kernel_rfl
theorem fn67 : fnB Try.prog 67 = true := by kernel_rfl
theorem fn68 : fnB Try.prog 68 = true := by kernel_rfl
theorem fn69 : fnB Try.prog 69 = true := by kernel_rfl
theorem fn70 : fnB Try.prog 70 = true := by kernel_rfl
theorem fn71 : fnB Try.prog 71 = true := by kernel_rfl
theorem fn72 : fnB Try.prog 72 = true := by kernel_rfl
theorem fn73 : fnB Try.prog 73 = true := by kernel_rfl
theorem fn74 : fnB Try.prog 74 = true := by kernel_rfl
theorem fn75 : fnB Try.prog 75 = true := by kernel_rfl
theorem mixed : Try.prog.follows .mixedOrders = true := by kernel_rfl
end Go.Proofs.Ytlpfahmkjgompaa
