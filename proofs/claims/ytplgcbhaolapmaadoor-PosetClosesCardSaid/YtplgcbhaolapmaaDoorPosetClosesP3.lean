/- Lemmas and contracts, part 3: an abstract machine over the model, and the functions that the statement reaches. -/
import Derived.Test.YtplgcbhaolapmaaDoorPosetClosesP2
import Derived.Test.YtplgcbhaolapmaaDoorProg
import Derived.KernelRfl
set_option linter.unusedVariables false
set_option linter.unusedSimpArgs false
namespace Go.Proofs.P
open Go.AM
set_option maxRecDepth 100000
@[go_sem] theorem tyd1 : tyd Tryd.prog 1 = some (1, false) := by kernel_rfl
@[go_sem] theorem zeC1 : zeC Tryd.prog 1 = some [.any] := by kernel_rfl
@[go_sem] theorem byD1 : byD Tryd.prog 1 = some 8 := by kernel_rfl
@[go_sem] theorem tyd2 : tyd Tryd.prog 2 = some (1, false) := by kernel_rfl
@[go_sem] theorem zeC2 : zeC Tryd.prog 2 = some [.int .i64 0] := by kernel_rfl
@[go_sem] theorem byD2 : byD Tryd.prog 2 = some 8 := by kernel_rfl
@[go_sem] theorem inD2 : inD Tryd.prog 2 = some .i64 := by kernel_rfl
@[go_sem] theorem und2 : Tryd.prog.underlying 2 = some (.int .i64) := by kernel_rfl
@[go_sem] theorem tyd3 : tyd Tryd.prog 3 = some (1, false) := by kernel_rfl
@[go_sem] theorem zeC3 : zeC Tryd.prog 3 = some [.int .i64 0] := by kernel_rfl
@[go_sem] theorem byD3 : byD Tryd.prog 3 = some 8 := by kernel_rfl
@[go_sem] theorem inD3 : inD Tryd.prog 3 = some .i64 := by kernel_rfl
@[go_sem] theorem und3 : Tryd.prog.underlying 3 = some (.int .i64) := by kernel_rfl
@[go_sem] theorem tyd4 : tyd Tryd.prog 4 = some (1, false) := by kernel_rfl
@[go_sem] theorem zeC4 : zeC Tryd.prog 4 = some [.bool false] := by kernel_rfl
@[go_sem] theorem byD4 : byD Tryd.prog 4 = some 1 := by kernel_rfl
@[go_sem] theorem und4 : Tryd.prog.underlying 4 = some .bool := by kernel_rfl
@[go_sem] theorem tyd5 : tyd Tryd.prog 5 = some (1, false) := by kernel_rfl
@[go_sem] theorem zeC5 : zeC Tryd.prog 5 = some [.int .u8 0] := by kernel_rfl
@[go_sem] theorem byD5 : byD Tryd.prog 5 = some 1 := by kernel_rfl
@[go_sem] theorem inD5 : inD Tryd.prog 5 = some .u8 := by kernel_rfl
@[go_sem] theorem und5 : Tryd.prog.underlying 5 = some (.int .u8) := by kernel_rfl
@[go_sem] theorem tyd6 : tyd Tryd.prog 6 = some (1, false) := by kernel_rfl
@[go_sem] theorem zeC6 : zeC Tryd.prog 6 = some [.int .u8 0] := by kernel_rfl
@[go_sem] theorem byD6 : byD Tryd.prog 6 = some 1 := by kernel_rfl
@[go_sem] theorem inD6 : inD Tryd.prog 6 = some .u8 := by kernel_rfl
@[go_sem] theorem und6 : Tryd.prog.underlying 6 = some (.int .u8) := by kernel_rfl
@[go_sem] theorem tyd7 : tyd Tryd.prog 7 = some (4, true) := by kernel_rfl
@[go_sem] theorem flD7_0 : flD Tryd.prog 7 0 = some (2, 0, 1) := by kernel_rfl
@[go_sem] theorem flD7_1 : flD Tryd.prog 7 1 = some (3, 1, 1) := by kernel_rfl
@[go_sem] theorem flD7_2 : flD Tryd.prog 7 2 = some (4, 2, 1) := by kernel_rfl
@[go_sem] theorem flD7_3 : flD Tryd.prog 7 3 = some (6, 3, 1) := by kernel_rfl
@[go_sem] theorem stD7 : stD Tryd.prog 7 = some [(0, 1), (1, 1), (2, 1), (3, 1)] := by kernel_rfl
@[go_sem] theorem zeC7 : zeC Tryd.prog 7 = some [.int .i64 0, .int .i64 0, .bool false, .int .u8 0] := by kernel_rfl
@[go_sem] theorem byD7 : byD Tryd.prog 7 = some 24 := by kernel_rfl
@[go_sem] theorem tyd8 : tyd Tryd.prog 8 = some (4, true) := by kernel_rfl
@[go_sem] theorem flD8_0 : flD Tryd.prog 8 0 = some (2, 0, 1) := by kernel_rfl
@[go_sem] theorem flD8_1 : flD Tryd.prog 8 1 = some (3, 1, 1) := by kernel_rfl
@[go_sem] theorem flD8_2 : flD Tryd.prog 8 2 = some (4, 2, 1) := by kernel_rfl
@[go_sem] theorem flD8_3 : flD Tryd.prog 8 3 = some (6, 3, 1) := by kernel_rfl
@[go_sem] theorem stD8 : stD Tryd.prog 8 = some [(0, 1), (1, 1), (2, 1), (3, 1)] := by kernel_rfl
@[go_sem] theorem zeC8 : zeC Tryd.prog 8 = some [.int .i64 0, .int .i64 0, .bool false, .int .u8 0] := by kernel_rfl
@[go_sem] theorem byD8 : byD Tryd.prog 8 = some 24 := by kernel_rfl
@[go_sem] theorem tyd9 : tyd Tryd.prog 9 = some (1, false) := by kernel_rfl
@[go_sem] theorem zeC9 : zeC Tryd.prog 9 = some [.str ByteArray.empty] := by kernel_rfl
@[go_sem] theorem byD9 : byD Tryd.prog 9 = some 16 := by kernel_rfl
@[go_sem] theorem und9 : Tryd.prog.underlying 9 = some .string := by kernel_rfl
@[go_sem] theorem tyd10 : tyd Tryd.prog 10 = some (1, false) := by kernel_rfl
@[go_sem] theorem zeC10 : zeC Tryd.prog 10 = some [.str ByteArray.empty] := by kernel_rfl
@[go_sem] theorem byD10 : byD Tryd.prog 10 = some 16 := by kernel_rfl
@[go_sem] theorem und10 : Tryd.prog.underlying 10 = some .string := by kernel_rfl
@[go_sem] theorem tyd11 : tyd Tryd.prog 11 = some (1, false) := by kernel_rfl
@[go_sem] theorem zeC11 : zeC Tryd.prog 11 = some [.str ByteArray.empty] := by kernel_rfl
@[go_sem] theorem byD11 : byD Tryd.prog 11 = some 16 := by kernel_rfl
@[go_sem] theorem und11 : Tryd.prog.underlying 11 = some .string := by kernel_rfl
@[go_sem] theorem tyd12 : tyd Tryd.prog 12 = some (1, false) := by kernel_rfl
@[go_sem] theorem zeC12 : zeC Tryd.prog 12 = some [.int .u64 0] := by kernel_rfl
@[go_sem] theorem byD12 : byD Tryd.prog 12 = some 8 := by kernel_rfl
@[go_sem] theorem inD12 : inD Tryd.prog 12 = some .u64 := by kernel_rfl
@[go_sem] theorem und12 : Tryd.prog.underlying 12 = some (.int .u64) := by kernel_rfl
@[go_sem] theorem tyd13 : tyd Tryd.prog 13 = some (2, true) := by kernel_rfl
@[go_sem] theorem flD13_0 : flD Tryd.prog 13 0 = some (9, 0, 1) := by kernel_rfl
@[go_sem] theorem flD13_1 : flD Tryd.prog 13 1 = some (12, 1, 1) := by kernel_rfl
@[go_sem] theorem stD13 : stD Tryd.prog 13 = some [(0, 1), (1, 1)] := by kernel_rfl
@[go_sem] theorem zeC13 : zeC Tryd.prog 13 = some [.str ByteArray.empty, .int .u64 0] := by kernel_rfl
@[go_sem] theorem byD13 : byD Tryd.prog 13 = some 24 := by kernel_rfl
@[go_sem] theorem tyd14 : tyd Tryd.prog 14 = some (2, true) := by kernel_rfl
@[go_sem] theorem flD14_0 : flD Tryd.prog 14 0 = some (9, 0, 1) := by kernel_rfl
@[go_sem] theorem flD14_1 : flD Tryd.prog 14 1 = some (12, 1, 1) := by kernel_rfl
@[go_sem] theorem stD14 : stD Tryd.prog 14 = some [(0, 1), (1, 1)] := by kernel_rfl
@[go_sem] theorem zeC14 : zeC Tryd.prog 14 = some [.str ByteArray.empty, .int .u64 0] := by kernel_rfl
@[go_sem] theorem byD14 : byD Tryd.prog 14 = some 24 := by kernel_rfl
@[go_sem] theorem tyd15 : tyd Tryd.prog 15 = some (1, false) := by kernel_rfl
@[go_sem] theorem zeC15 : zeC Tryd.prog 15 = some [.nilp] := by kernel_rfl
@[go_sem] theorem byD15 : byD Tryd.prog 15 = some 8 := by kernel_rfl
@[go_sem] theorem tyd16 : tyd Tryd.prog 16 = some (1, false) := by kernel_rfl
@[go_sem] theorem zeC16 : zeC Tryd.prog 16 = some [.nilp] := by kernel_rfl
@[go_sem] theorem byD16 : byD Tryd.prog 16 = some 8 := by kernel_rfl
@[go_sem] theorem tyd17 : tyd Tryd.prog 17 = some (1, false) := by kernel_rfl
@[go_sem] theorem zeC17 : zeC Tryd.prog 17 = some [.nilp] := by kernel_rfl
@[go_sem] theorem byD17 : byD Tryd.prog 17 = some 8 := by kernel_rfl
@[go_sem] theorem tyd18 : tyd Tryd.prog 18 = some (1, true) := by kernel_rfl
@[go_sem] theorem flD18_0 : flD Tryd.prog 18 0 = some (17, 0, 1) := by kernel_rfl
@[go_sem] theorem stD18 : stD Tryd.prog 18 = some [(0, 1)] := by kernel_rfl
@[go_sem] theorem zeC18 : zeC Tryd.prog 18 = some [.nilp] := by kernel_rfl
@[go_sem] theorem byD18 : byD Tryd.prog 18 = some 8 := by kernel_rfl
@[go_sem] theorem tyd19 : tyd Tryd.prog 19 = some (1, true) := by kernel_rfl
@[go_sem] theorem flD19_0 : flD Tryd.prog 19 0 = some (17, 0, 1) := by kernel_rfl
@[go_sem] theorem stD19 : stD Tryd.prog 19 = some [(0, 1)] := by kernel_rfl
@[go_sem] theorem zeC19 : zeC Tryd.prog 19 = some [.nilp] := by kernel_rfl
@[go_sem] theorem byD19 : byD Tryd.prog 19 = some 8 := by kernel_rfl
@[go_sem] theorem tyd21 : tyd Tryd.prog 21 = some (1, false) := by kernel_rfl
@[go_sem] theorem zeC21 : zeC Tryd.prog 21 = some [.int .i32 0] := by kernel_rfl
@[go_sem] theorem byD21 : byD Tryd.prog 21 = some 4 := by kernel_rfl
@[go_sem] theorem inD21 : inD Tryd.prog 21 = some .i32 := by kernel_rfl
@[go_sem] theorem und21 : Tryd.prog.underlying 21 = some (.int .i32) := by kernel_rfl
@[go_sem] theorem tyd22 : tyd Tryd.prog 22 = some (1, false) := by kernel_rfl
@[go_sem] theorem slD22 : slD Tryd.prog 22 = some (35, 2) := by kernel_rfl
@[go_sem] theorem zeC22 : zeC Tryd.prog 22 = some [.nilsl] := by kernel_rfl
@[go_sem] theorem byD22 : byD Tryd.prog 22 = some 24 := by kernel_rfl
@[go_sem] theorem tyd23 : tyd Tryd.prog 23 = some (1, true) := by kernel_rfl
@[go_sem] theorem flD23_0 : flD Tryd.prog 23 0 = some (22, 0, 1) := by kernel_rfl
@[go_sem] theorem stD23 : stD Tryd.prog 23 = some [(0, 1)] := by kernel_rfl
@[go_sem] theorem zeC23 : zeC Tryd.prog 23 = some [.nilsl] := by kernel_rfl
@[go_sem] theorem byD23 : byD Tryd.prog 23 = some 24 := by kernel_rfl
@[go_sem] theorem tyd24 : tyd Tryd.prog 24 = some (1, true) := by kernel_rfl
@[go_sem] theorem flD24_0 : flD Tryd.prog 24 0 = some (22, 0, 1) := by kernel_rfl
@[go_sem] theorem stD24 : stD Tryd.prog 24 = some [(0, 1)] := by kernel_rfl
@[go_sem] theorem zeC24 : zeC Tryd.prog 24 = some [.nilsl] := by kernel_rfl
@[go_sem] theorem byD24 : byD Tryd.prog 24 = some 24 := by kernel_rfl
@[go_sem] theorem tyd25 : tyd Tryd.prog 25 = some (1, false) := by kernel_rfl
@[go_sem] theorem zeC25 : zeC Tryd.prog 25 = some [.any] := by kernel_rfl
@[go_sem] theorem byD25 : byD Tryd.prog 25 = some 8 := by kernel_rfl
@[go_sem] theorem tyd26 : tyd Tryd.prog 26 = some (1, false) := by kernel_rfl
@[go_sem] theorem zeC26 : zeC Tryd.prog 26 = some [.any] := by kernel_rfl
@[go_sem] theorem byD26 : byD Tryd.prog 26 = some 8 := by kernel_rfl
@[go_sem] theorem tyd27 : tyd Tryd.prog 27 = some (1, false) := by kernel_rfl
@[go_sem] theorem zeC27 : zeC Tryd.prog 27 = some [.int .i64 0] := by kernel_rfl
@[go_sem] theorem byD27 : byD Tryd.prog 27 = some 8 := by kernel_rfl
@[go_sem] theorem inD27 : inD Tryd.prog 27 = some .i64 := by kernel_rfl
@[go_sem] theorem und27 : Tryd.prog.underlying 27 = some (.int .i64) := by kernel_rfl
@[go_sem] theorem tyd29 : tyd Tryd.prog 29 = some (1, false) := by kernel_rfl
@[go_sem] theorem zeC29 : zeC Tryd.prog 29 = some [.any] := by kernel_rfl
@[go_sem] theorem byD29 : byD Tryd.prog 29 = some 8 := by kernel_rfl
@[go_sem] theorem tyd30 : tyd Tryd.prog 30 = some (1, false) := by kernel_rfl
@[go_sem] theorem zeC30 : zeC Tryd.prog 30 = some [.any] := by kernel_rfl
@[go_sem] theorem byD30 : byD Tryd.prog 30 = some 8 := by kernel_rfl
@[go_sem] theorem tyd31 : tyd Tryd.prog 31 = some (1, false) := by kernel_rfl
@[go_sem] theorem zeC31 : zeC Tryd.prog 31 = some [.any] := by kernel_rfl
@[go_sem] theorem byD31 : byD Tryd.prog 31 = some 8 := by kernel_rfl
@[go_sem] theorem tyd32 : tyd Tryd.prog 32 = some (1, false) := by kernel_rfl
@[go_sem] theorem zeC32 : zeC Tryd.prog 32 = some [.any] := by kernel_rfl
@[go_sem] theorem byD32 : byD Tryd.prog 32 = some 8 := by kernel_rfl
@[go_sem] theorem tyd33 : tyd Tryd.prog 33 = some (1, false) := by kernel_rfl
@[go_sem] theorem slD33 : slD Tryd.prog 33 = some (59, 1) := by kernel_rfl
@[go_sem] theorem zeC33 : zeC Tryd.prog 33 = some [.nilsl] := by kernel_rfl
@[go_sem] theorem byD33 : byD Tryd.prog 33 = some 24 := by kernel_rfl
@[go_sem] theorem tyd34 : tyd Tryd.prog 34 = some (2, true) := by kernel_rfl
@[go_sem] theorem flD34_0 : flD Tryd.prog 34 0 = some (3, 0, 1) := by kernel_rfl
@[go_sem] theorem flD34_1 : flD Tryd.prog 34 1 = some (33, 1, 1) := by kernel_rfl
@[go_sem] theorem stD34 : stD Tryd.prog 34 = some [(0, 1), (1, 1)] := by kernel_rfl
@[go_sem] theorem zeC34 : zeC Tryd.prog 34 = some [.int .i64 0, .nilsl] := by kernel_rfl
@[go_sem] theorem byD34 : byD Tryd.prog 34 = some 32 := by kernel_rfl
@[go_sem] theorem tyd35 : tyd Tryd.prog 35 = some (2, true) := by kernel_rfl
@[go_sem] theorem flD35_0 : flD Tryd.prog 35 0 = some (3, 0, 1) := by kernel_rfl
@[go_sem] theorem flD35_1 : flD Tryd.prog 35 1 = some (33, 1, 1) := by kernel_rfl
@[go_sem] theorem stD35 : stD Tryd.prog 35 = some [(0, 1), (1, 1)] := by kernel_rfl
@[go_sem] theorem zeC35 : zeC Tryd.prog 35 = some [.int .i64 0, .nilsl] := by kernel_rfl
@[go_sem] theorem byD35 : byD Tryd.prog 35 = some 32 := by kernel_rfl
@[go_sem] theorem tyd36 : tyd Tryd.prog 36 = some (1, false) := by kernel_rfl
@[go_sem] theorem zeC36 : zeC Tryd.prog 36 = some [.any] := by kernel_rfl
@[go_sem] theorem byD36 : byD Tryd.prog 36 = some 8 := by kernel_rfl
@[go_sem] theorem tyd38 : tyd Tryd.prog 38 = some (1, false) := by kernel_rfl
@[go_sem] theorem zeC38 : zeC Tryd.prog 38 = some [.any] := by kernel_rfl
@[go_sem] theorem byD38 : byD Tryd.prog 38 = some 8 := by kernel_rfl
@[go_sem] theorem tyd39 : tyd Tryd.prog 39 = some (1, false) := by kernel_rfl
@[go_sem] theorem zeC39 : zeC Tryd.prog 39 = some [.any] := by kernel_rfl
@[go_sem] theorem byD39 : byD Tryd.prog 39 = some 8 := by kernel_rfl
@[go_sem] theorem tyd40 : tyd Tryd.prog 40 = some (1, false) := by kernel_rfl
@[go_sem] theorem zeC40 : zeC Tryd.prog 40 = some [.any] := by kernel_rfl
@[go_sem] theorem byD40 : byD Tryd.prog 40 = some 8 := by kernel_rfl
@[go_sem] theorem tyd41 : tyd Tryd.prog 41 = some (1, false) := by kernel_rfl
@[go_sem] theorem slD41 : slD Tryd.prog 41 = some (3, 1) := by kernel_rfl
@[go_sem] theorem zeC41 : zeC Tryd.prog 41 = some [.nilsl] := by kernel_rfl
@[go_sem] theorem byD41 : byD Tryd.prog 41 = some 24 := by kernel_rfl
@[go_sem] theorem tyd42 : tyd Tryd.prog 42 = some (1, false) := by kernel_rfl
@[go_sem] theorem zeC42 : zeC Tryd.prog 42 = some [.any] := by kernel_rfl
@[go_sem] theorem byD42 : byD Tryd.prog 42 = some 8 := by kernel_rfl
@[go_sem] theorem tyd44 : tyd Tryd.prog 44 = some (1, false) := by kernel_rfl
@[go_sem] theorem zeC44 : zeC Tryd.prog 44 = some [.any] := by kernel_rfl
@[go_sem] theorem byD44 : byD Tryd.prog 44 = some 8 := by kernel_rfl
@[go_sem] theorem tyd46 : tyd Tryd.prog 46 = some (1, false) := by kernel_rfl
@[go_sem] theorem zeC46 : zeC Tryd.prog 46 = some [.any] := by kernel_rfl
@[go_sem] theorem byD46 : byD Tryd.prog 46 = some 8 := by kernel_rfl
@[go_sem] theorem tyd47 : tyd Tryd.prog 47 = some (1, false) := by kernel_rfl
@[go_sem] theorem zeC47 : zeC Tryd.prog 47 = some [.any] := by kernel_rfl
@[go_sem] theorem byD47 : byD Tryd.prog 47 = some 8 := by kernel_rfl
@[go_sem] theorem tyd48 : tyd Tryd.prog 48 = some (1, false) := by kernel_rfl
@[go_sem] theorem zeC48 : zeC Tryd.prog 48 = some [.any] := by kernel_rfl
@[go_sem] theorem byD48 : byD Tryd.prog 48 = some 8 := by kernel_rfl
@[go_sem] theorem tyd49 : tyd Tryd.prog 49 = some (1, false) := by kernel_rfl
@[go_sem] theorem zeC49 : zeC Tryd.prog 49 = some [.any] := by kernel_rfl
@[go_sem] theorem byD49 : byD Tryd.prog 49 = some 8 := by kernel_rfl
@[go_sem] theorem tyd50 : tyd Tryd.prog 50 = some (1, false) := by kernel_rfl
@[go_sem] theorem zeC50 : zeC Tryd.prog 50 = some [.any] := by kernel_rfl
@[go_sem] theorem byD50 : byD Tryd.prog 50 = some 8 := by kernel_rfl
@[go_sem] theorem tyd51 : tyd Tryd.prog 51 = some (1, false) := by kernel_rfl
@[go_sem] theorem zeC51 : zeC Tryd.prog 51 = some [.any] := by kernel_rfl
@[go_sem] theorem byD51 : byD Tryd.prog 51 = some 8 := by kernel_rfl
@[go_sem] theorem tyd52 : tyd Tryd.prog 52 = some (1, false) := by kernel_rfl
@[go_sem] theorem zeC52 : zeC Tryd.prog 52 = some [.any] := by kernel_rfl
@[go_sem] theorem byD52 : byD Tryd.prog 52 = some 8 := by kernel_rfl
@[go_sem] theorem tyd53 : tyd Tryd.prog 53 = some (1, false) := by kernel_rfl
@[go_sem] theorem zeC53 : zeC Tryd.prog 53 = some [.any] := by kernel_rfl
@[go_sem] theorem byD53 : byD Tryd.prog 53 = some 8 := by kernel_rfl
@[go_sem] theorem tyd54 : tyd Tryd.prog 54 = some (1, false) := by kernel_rfl
@[go_sem] theorem zeC54 : zeC Tryd.prog 54 = some [.any] := by kernel_rfl
@[go_sem] theorem byD54 : byD Tryd.prog 54 = some 8 := by kernel_rfl
@[go_sem] theorem tyd55 : tyd Tryd.prog 55 = some (1, false) := by kernel_rfl
@[go_sem] theorem zeC55 : zeC Tryd.prog 55 = some [.any] := by kernel_rfl
@[go_sem] theorem byD55 : byD Tryd.prog 55 = some 8 := by kernel_rfl
@[go_sem] theorem tyd56 : tyd Tryd.prog 56 = some (1, false) := by kernel_rfl
@[go_sem] theorem zeC56 : zeC Tryd.prog 56 = some [.any] := by kernel_rfl
@[go_sem] theorem byD56 : byD Tryd.prog 56 = some 8 := by kernel_rfl
@[go_sem] theorem tyd57 : tyd Tryd.prog 57 = some (1, false) := by kernel_rfl
@[go_sem] theorem zeC57 : zeC Tryd.prog 57 = some [.any] := by kernel_rfl
@[go_sem] theorem byD57 : byD Tryd.prog 57 = some 8 := by kernel_rfl
@[go_sem] theorem tyd58 : tyd Tryd.prog 58 = some (1, false) := by kernel_rfl
@[go_sem] theorem zeC58 : zeC Tryd.prog 58 = some [.any] := by kernel_rfl
@[go_sem] theorem byD58 : byD Tryd.prog 58 = some 8 := by kernel_rfl
@[go_sem] theorem tyd59 : tyd Tryd.prog 59 = some (1, false) := by kernel_rfl
@[go_sem] theorem zeC59 : zeC Tryd.prog 59 = some [.int .u64 0] := by kernel_rfl
@[go_sem] theorem byD59 : byD Tryd.prog 59 = some 8 := by kernel_rfl
@[go_sem] theorem inD59 : inD Tryd.prog 59 = some .u64 := by kernel_rfl
@[go_sem] theorem und59 : Tryd.prog.underlying 59 = some (.int .u64) := by kernel_rfl
@[go_sem] theorem tyd60 : tyd Tryd.prog 60 = some (1, false) := by kernel_rfl
@[go_sem] theorem zeC60 : zeC Tryd.prog 60 = some [.int .u64 0] := by kernel_rfl
@[go_sem] theorem byD60 : byD Tryd.prog 60 = some 8 := by kernel_rfl
@[go_sem] theorem inD60 : inD Tryd.prog 60 = some .u64 := by kernel_rfl
@[go_sem] theorem und60 : Tryd.prog.underlying 60 = some (.int .u64) := by kernel_rfl
@[go_sem] theorem tyd61 : tyd Tryd.prog 61 = some (1, false) := by kernel_rfl
@[go_sem] theorem zeC61 : zeC Tryd.prog 61 = some [.any] := by kernel_rfl
@[go_sem] theorem byD61 : byD Tryd.prog 61 = some 8 := by kernel_rfl
@[go_sem] theorem tyd62 : tyd Tryd.prog 62 = some (1, false) := by kernel_rfl
@[go_sem] theorem zeC62 : zeC Tryd.prog 62 = some [.any] := by kernel_rfl
@[go_sem] theorem byD62 : byD Tryd.prog 62 = some 8 := by kernel_rfl
@[go_sem] theorem tyd63 : tyd Tryd.prog 63 = some (1, false) := by kernel_rfl
@[go_sem] theorem zeC63 : zeC Tryd.prog 63 = some [.any] := by kernel_rfl
@[go_sem] theorem byD63 : byD Tryd.prog 63 = some 8 := by kernel_rfl
@[go_sem] theorem tyd64 : tyd Tryd.prog 64 = some (1, false) := by kernel_rfl
@[go_sem] theorem zeC64 : zeC Tryd.prog 64 = some [.any] := by kernel_rfl
@[go_sem] theorem byD64 : byD Tryd.prog 64 = some 8 := by kernel_rfl
@[go_sem] theorem tyd65 : tyd Tryd.prog 65 = some (1, false) := by kernel_rfl
@[go_sem] theorem zeC65 : zeC Tryd.prog 65 = some [.any] := by kernel_rfl
@[go_sem] theorem byD65 : byD Tryd.prog 65 = some 8 := by kernel_rfl
@[go_sem] theorem tyd66 : tyd Tryd.prog 66 = some (1, false) := by kernel_rfl
@[go_sem] theorem zeC66 : zeC Tryd.prog 66 = some [.any] := by kernel_rfl
@[go_sem] theorem byD66 : byD Tryd.prog 66 = some 8 := by kernel_rfl
@[go_sem] theorem tyd67 : tyd Tryd.prog 67 = some (1, false) := by kernel_rfl
@[go_sem] theorem slD67 : slD Tryd.prog 67 = some (68, 2) := by kernel_rfl
@[go_sem] theorem zeC67 : zeC Tryd.prog 67 = some [.nilsl] := by kernel_rfl
@[go_sem] theorem byD67 : byD Tryd.prog 67 = some 24 := by kernel_rfl
@[go_sem] theorem tyd68 : tyd Tryd.prog 68 = some (2, true) := by kernel_rfl
@[go_sem] theorem gdD68 : gdD Tryd.prog 68 = false := by kernel_rfl
@[go_sem] theorem arD68 : arD Tryd.prog 68 = some (2, 3, 1) := by kernel_rfl
@[go_sem] theorem stD68 : stD Tryd.prog 68 = none := by kernel_rfl
@[go_sem] theorem zeC68 : zeC Tryd.prog 68 = some [.int .i64 0, .int .i64 0] := by kernel_rfl
@[go_sem] theorem byD68 : byD Tryd.prog 68 = some 16 := by kernel_rfl
@[go_sem] theorem tyd69 : tyd Tryd.prog 69 = some (1, false) := by kernel_rfl
@[go_sem] theorem zeC69 : zeC Tryd.prog 69 = some [.any] := by kernel_rfl
@[go_sem] theorem byD69 : byD Tryd.prog 69 = some 8 := by kernel_rfl
@[go_sem] theorem tyd70 : tyd Tryd.prog 70 = some (1, false) := by kernel_rfl
@[go_sem] theorem zeC70 : zeC Tryd.prog 70 = some [.any] := by kernel_rfl
@[go_sem] theorem byD70 : byD Tryd.prog 70 = some 8 := by kernel_rfl
@[go_sem] theorem tyd71 : tyd Tryd.prog 71 = some (1, false) := by kernel_rfl
@[go_sem] theorem zeC71 : zeC Tryd.prog 71 = some [.any] := by kernel_rfl
@[go_sem] theorem byD71 : byD Tryd.prog 71 = some 8 := by kernel_rfl
@[go_sem] theorem tyd72 : tyd Tryd.prog 72 = some (1, false) := by kernel_rfl
@[go_sem] theorem zeC72 : zeC Tryd.prog 72 = some [.any] := by kernel_rfl
@[go_sem] theorem byD72 : byD Tryd.prog 72 = some 8 := by kernel_rfl
@[go_sem] theorem tyd73 : tyd Tryd.prog 73 = some (1, false) := by kernel_rfl
@[go_sem] theorem zeC73 : zeC Tryd.prog 73 = some [.any] := by kernel_rfl
@[go_sem] theorem byD73 : byD Tryd.prog 73 = some 8 := by kernel_rfl
@[go_sem] theorem tyd74 : tyd Tryd.prog 74 = some (1, false) := by kernel_rfl
@[go_sem] theorem zeC74 : zeC Tryd.prog 74 = some [.any] := by kernel_rfl
@[go_sem] theorem byD74 : byD Tryd.prog 74 = some 8 := by kernel_rfl
@[go_sem] theorem tyd75 : tyd Tryd.prog 75 = some (1, false) := by kernel_rfl
@[go_sem] theorem zeC75 : zeC Tryd.prog 75 = some [.any] := by kernel_rfl
@[go_sem] theorem byD75 : byD Tryd.prog 75 = some 8 := by kernel_rfl
@[go_sem] theorem tyd76 : tyd Tryd.prog 76 = some (1, false) := by kernel_rfl
@[go_sem] theorem zeC76 : zeC Tryd.prog 76 = some [.any] := by kernel_rfl
@[go_sem] theorem byD76 : byD Tryd.prog 76 = some 8 := by kernel_rfl
@[go_sem] theorem tyd77 : tyd Tryd.prog 77 = some (1, false) := by kernel_rfl
@[go_sem] theorem zeC77 : zeC Tryd.prog 77 = some [.any] := by kernel_rfl
@[go_sem] theorem byD77 : byD Tryd.prog 77 = some 8 := by kernel_rfl
@[go_sem] theorem tyd78 : tyd Tryd.prog 78 = some (1, false) := by kernel_rfl
@[go_sem] theorem zeC78 : zeC Tryd.prog 78 = some [.any] := by kernel_rfl
@[go_sem] theorem byD78 : byD Tryd.prog 78 = some 8 := by kernel_rfl
@[go_sem] theorem tyd79 : tyd Tryd.prog 79 = some (1, false) := by kernel_rfl
@[go_sem] theorem zeC79 : zeC Tryd.prog 79 = some [.any] := by kernel_rfl
@[go_sem] theorem byD79 : byD Tryd.prog 79 = some 8 := by kernel_rfl
@[go_sem] theorem tyd80 : tyd Tryd.prog 80 = some (1, false) := by kernel_rfl
@[go_sem] theorem zeC80 : zeC Tryd.prog 80 = some [.any] := by kernel_rfl
@[go_sem] theorem byD80 : byD Tryd.prog 80 = some 8 := by kernel_rfl
@[go_sem] theorem tyd81 : tyd Tryd.prog 81 = some (1, false) := by kernel_rfl
@[go_sem] theorem zeC81 : zeC Tryd.prog 81 = some [.any] := by kernel_rfl
@[go_sem] theorem byD81 : byD Tryd.prog 81 = some 8 := by kernel_rfl
@[go_sem] theorem tyd82 : tyd Tryd.prog 82 = some (1, false) := by kernel_rfl
@[go_sem] theorem zeC82 : zeC Tryd.prog 82 = some [.any] := by kernel_rfl
@[go_sem] theorem byD82 : byD Tryd.prog 82 = some 8 := by kernel_rfl
@[go_sem] theorem tyd83 : tyd Tryd.prog 83 = some (1, false) := by kernel_rfl
@[go_sem] theorem zeC83 : zeC Tryd.prog 83 = some [.any] := by kernel_rfl
@[go_sem] theorem byD83 : byD Tryd.prog 83 = some 8 := by kernel_rfl
@[go_sem] theorem tyd84 : tyd Tryd.prog 84 = some (1, false) := by kernel_rfl
@[go_sem] theorem zeC84 : zeC Tryd.prog 84 = some [.any] := by kernel_rfl
@[go_sem] theorem byD84 : byD Tryd.prog 84 = some 8 := by kernel_rfl
@[go_sem] theorem tyd85 : tyd Tryd.prog 85 = some (1, false) := by kernel_rfl
@[go_sem] theorem zeC85 : zeC Tryd.prog 85 = some [.any] := by kernel_rfl
@[go_sem] theorem byD85 : byD Tryd.prog 85 = some 8 := by kernel_rfl
@[go_sem] theorem tyd86 : tyd Tryd.prog 86 = some (64, true) := by kernel_rfl
@[go_sem] theorem gdD86 : gdD Tryd.prog 86 = false := by kernel_rfl
@[go_sem] theorem arD86 : arD Tryd.prog 86 = some (64, 5, 1) := by kernel_rfl
@[go_sem] theorem stD86 : stD Tryd.prog 86 = none := by kernel_rfl
@[go_sem] theorem byD86 : byD Tryd.prog 86 = some 64 := by kernel_rfl
@[go_sem] theorem tyd87 : tyd Tryd.prog 87 = some (1, false) := by kernel_rfl
@[go_sem] theorem zeC87 : zeC Tryd.prog 87 = some [.any] := by kernel_rfl
@[go_sem] theorem byD87 : byD Tryd.prog 87 = some 8 := by kernel_rfl
@[go_sem] theorem tyd88 : tyd Tryd.prog 88 = some (1, false) := by kernel_rfl
@[go_sem] theorem zeC88 : zeC Tryd.prog 88 = some [.any] := by kernel_rfl
@[go_sem] theorem byD88 : byD Tryd.prog 88 = some 8 := by kernel_rfl
@[go_sem] theorem tyd89 : tyd Tryd.prog 89 = some (4, true) := by kernel_rfl
@[go_sem] theorem flD89_0 : flD Tryd.prog 89 0 = some (17, 0, 1) := by kernel_rfl
@[go_sem] theorem flD89_1 : flD Tryd.prog 89 1 = some (17, 1, 1) := by kernel_rfl
@[go_sem] theorem flD89_2 : flD Tryd.prog 89 2 = some (17, 2, 1) := by kernel_rfl
@[go_sem] theorem flD89_3 : flD Tryd.prog 89 3 = some (9, 3, 1) := by kernel_rfl
@[go_sem] theorem stD89 : stD Tryd.prog 89 = some [(0, 1), (1, 1), (2, 1), (3, 1)] := by kernel_rfl
@[go_sem] theorem zeC89 : zeC Tryd.prog 89 = some [.nilp, .nilp, .nilp, .str ByteArray.empty] := by kernel_rfl
@[go_sem] theorem byD89 : byD Tryd.prog 89 = some 40 := by kernel_rfl
@[go_sem] theorem tyd90 : tyd Tryd.prog 90 = some (4, true) := by kernel_rfl
@[go_sem] theorem flD90_0 : flD Tryd.prog 90 0 = some (17, 0, 1) := by kernel_rfl
@[go_sem] theorem flD90_1 : flD Tryd.prog 90 1 = some (17, 1, 1) := by kernel_rfl
@[go_sem] theorem flD90_2 : flD Tryd.prog 90 2 = some (17, 2, 1) := by kernel_rfl
@[go_sem] theorem flD90_3 : flD Tryd.prog 90 3 = some (9, 3, 1) := by kernel_rfl
@[go_sem] theorem stD90 : stD Tryd.prog 90 = some [(0, 1), (1, 1), (2, 1), (3, 1)] := by kernel_rfl
@[go_sem] theorem zeC90 : zeC Tryd.prog 90 = some [.nilp, .nilp, .nilp, .str ByteArray.empty] := by kernel_rfl
@[go_sem] theorem byD90 : byD Tryd.prog 90 = some 40 := by kernel_rfl
@[go_sem] theorem tyd91 : tyd Tryd.prog 91 = some (0, true) := by kernel_rfl
@[go_sem] theorem arD91 : arD Tryd.prog 91 = some (0, 16, 1) := by kernel_rfl
@[go_sem] theorem stD91 : stD Tryd.prog 91 = none := by kernel_rfl
@[go_sem] theorem byD91 : byD Tryd.prog 91 = some 0 := by kernel_rfl
@[go_sem] theorem tyd92 : tyd Tryd.prog 92 = some (0, true) := by kernel_rfl
@[go_sem] theorem flD92_0 : flD Tryd.prog 92 0 = some (91, 0, 0) := by kernel_rfl
@[go_sem] theorem stD92 : stD Tryd.prog 92 = some [(0, 0)] := by kernel_rfl
@[go_sem] theorem byD92 : byD Tryd.prog 92 = some 0 := by kernel_rfl
@[go_sem] theorem tyd93 : tyd Tryd.prog 93 = some (0, true) := by kernel_rfl
@[go_sem] theorem flD93_0 : flD Tryd.prog 93 0 = some (91, 0, 0) := by kernel_rfl
@[go_sem] theorem stD93 : stD Tryd.prog 93 = some [(0, 0)] := by kernel_rfl
@[go_sem] theorem byD93 : byD Tryd.prog 93 = some 0 := by kernel_rfl
@[go_sem] theorem tyd94 : tyd Tryd.prog 94 = some (1, false) := by kernel_rfl
@[go_sem] theorem zeC94 : zeC Tryd.prog 94 = some [.any] := by kernel_rfl
@[go_sem] theorem byD94 : byD Tryd.prog 94 = some 8 := by kernel_rfl
@[go_sem] theorem tyd95 : tyd Tryd.prog 95 = some (1, false) := by kernel_rfl
@[go_sem] theorem zeC95 : zeC Tryd.prog 95 = some [.int .u32 0] := by kernel_rfl
@[go_sem] theorem byD95 : byD Tryd.prog 95 = some 4 := by kernel_rfl
@[go_sem] theorem inD95 : inD Tryd.prog 95 = some .u32 := by kernel_rfl
@[go_sem] theorem und95 : Tryd.prog.underlying 95 = some (.int .u32) := by kernel_rfl
@[go_sem] theorem tyd96 : tyd Tryd.prog 96 = some (1, false) := by kernel_rfl
@[go_sem] theorem zeC96 : zeC Tryd.prog 96 = some [.int .u8 0] := by kernel_rfl
@[go_sem] theorem byD96 : byD Tryd.prog 96 = some 1 := by kernel_rfl
@[go_sem] theorem inD96 : inD Tryd.prog 96 = some .u8 := by kernel_rfl
@[go_sem] theorem und96 : Tryd.prog.underlying 96 = some (.int .u8) := by kernel_rfl
@[go_sem] theorem tyd97 : tyd Tryd.prog 97 = some (1, false) := by kernel_rfl
@[go_sem] theorem zeC97 : zeC Tryd.prog 97 = some [.int .u8 0] := by kernel_rfl
@[go_sem] theorem byD97 : byD Tryd.prog 97 = some 1 := by kernel_rfl
@[go_sem] theorem inD97 : inD Tryd.prog 97 = some .u8 := by kernel_rfl
@[go_sem] theorem und97 : Tryd.prog.underlying 97 = some (.int .u8) := by kernel_rfl
@[go_sem] theorem tyd98 : tyd Tryd.prog 98 = some (1, false) := by kernel_rfl
@[go_sem] theorem zeC98 : zeC Tryd.prog 98 = some [.any] := by kernel_rfl
@[go_sem] theorem byD98 : byD Tryd.prog 98 = some 8 := by kernel_rfl
@[go_sem] theorem tyd99 : tyd Tryd.prog 99 = some (1, false) := by kernel_rfl
@[go_sem] theorem zeC99 : zeC Tryd.prog 99 = some [.nilp] := by kernel_rfl
@[go_sem] theorem byD99 : byD Tryd.prog 99 = some 8 := by kernel_rfl
@[go_sem] theorem tyd100 : tyd Tryd.prog 100 = some (1, false) := by kernel_rfl
@[go_sem] theorem zeC100 : zeC Tryd.prog 100 = some [.int .i32 0] := by kernel_rfl
@[go_sem] theorem byD100 : byD Tryd.prog 100 = some 4 := by kernel_rfl
@[go_sem] theorem inD100 : inD Tryd.prog 100 = some .i32 := by kernel_rfl
@[go_sem] theorem und100 : Tryd.prog.underlying 100 = some (.int .i32) := by kernel_rfl
@[go_sem] theorem tyd101 : tyd Tryd.prog 101 = some (1, false) := by kernel_rfl
@[go_sem] theorem zeC101 : zeC Tryd.prog 101 = some [.int .i32 0] := by kernel_rfl
@[go_sem] theorem byD101 : byD Tryd.prog 101 = some 4 := by kernel_rfl
@[go_sem] theorem inD101 : inD Tryd.prog 101 = some .i32 := by kernel_rfl
@[go_sem] theorem und101 : Tryd.prog.underlying 101 = some (.int .i32) := by kernel_rfl
@[go_sem] theorem tyd102 : tyd Tryd.prog 102 = some (11, true) := by kernel_rfl
@[go_sem] theorem flD102_0 : flD Tryd.prog 102 0 = some (12, 0, 1) := by kernel_rfl
@[go_sem] theorem flD102_1 : flD Tryd.prog 102 1 = some (12, 1, 1) := by kernel_rfl
@[go_sem] theorem flD102_2 : flD Tryd.prog 102 2 = some (95, 2, 1) := by kernel_rfl
@[go_sem] theorem flD102_3 : flD Tryd.prog 102 3 = some (96, 3, 1) := by kernel_rfl
@[go_sem] theorem flD102_4 : flD Tryd.prog 102 4 = some (5, 4, 1) := by kernel_rfl
@[go_sem] theorem flD102_5 : flD Tryd.prog 102 5 = some (5, 5, 1) := by kernel_rfl
@[go_sem] theorem flD102_6 : flD Tryd.prog 102 6 = some (97, 6, 1) := by kernel_rfl
@[go_sem] theorem flD102_7 : flD Tryd.prog 102 7 = some (98, 7, 1) := by kernel_rfl
@[go_sem] theorem flD102_8 : flD Tryd.prog 102 8 = some (99, 8, 1) := by kernel_rfl
@[go_sem] theorem flD102_9 : flD Tryd.prog 102 9 = some (100, 9, 1) := by kernel_rfl
@[go_sem] theorem flD102_10 : flD Tryd.prog 102 10 = some (101, 10, 1) := by kernel_rfl
@[go_sem] theorem stD102 : stD Tryd.prog 102 = some [(0, 1), (1, 1), (2, 1), (3, 1), (4, 1), (5, 1), (6, 1), (7, 1), (8, 1), (9, 1), (10, 1)] := by kernel_rfl
@[go_sem] theorem zeC102 : zeC Tryd.prog 102 = some [.int .u64 0, .int .u64 0, .int .u32 0, .int .u8 0, .int .u8 0, .int .u8 0, .int .u8 0, .any, .nilp, .int .i32 0, .int .i32 0] := by kernel_rfl
@[go_sem] theorem byD102 : byD Tryd.prog 102 = some 48 := by kernel_rfl
@[go_sem] theorem tyd103 : tyd Tryd.prog 103 = some (11, true) := by kernel_rfl
@[go_sem] theorem flD103_0 : flD Tryd.prog 103 0 = some (12, 0, 1) := by kernel_rfl
@[go_sem] theorem flD103_1 : flD Tryd.prog 103 1 = some (12, 1, 1) := by kernel_rfl
@[go_sem] theorem flD103_2 : flD Tryd.prog 103 2 = some (95, 2, 1) := by kernel_rfl
@[go_sem] theorem flD103_3 : flD Tryd.prog 103 3 = some (96, 3, 1) := by kernel_rfl
@[go_sem] theorem flD103_4 : flD Tryd.prog 103 4 = some (5, 4, 1) := by kernel_rfl
@[go_sem] theorem flD103_5 : flD Tryd.prog 103 5 = some (5, 5, 1) := by kernel_rfl
@[go_sem] theorem flD103_6 : flD Tryd.prog 103 6 = some (97, 6, 1) := by kernel_rfl
@[go_sem] theorem flD103_7 : flD Tryd.prog 103 7 = some (98, 7, 1) := by kernel_rfl
@[go_sem] theorem flD103_8 : flD Tryd.prog 103 8 = some (99, 8, 1) := by kernel_rfl
@[go_sem] theorem flD103_9 : flD Tryd.prog 103 9 = some (100, 9, 1) := by kernel_rfl
@[go_sem] theorem flD103_10 : flD Tryd.prog 103 10 = some (101, 10, 1) := by kernel_rfl
@[go_sem] theorem stD103 : stD Tryd.prog 103 = some [(0, 1), (1, 1), (2, 1), (3, 1), (4, 1), (5, 1), (6, 1), (7, 1), (8, 1), (9, 1), (10, 1)] := by kernel_rfl
@[go_sem] theorem zeC103 : zeC Tryd.prog 103 = some [.int .u64 0, .int .u64 0, .int .u32 0, .int .u8 0, .int .u8 0, .int .u8 0, .int .u8 0, .any, .nilp, .int .i32 0, .int .i32 0] := by kernel_rfl
@[go_sem] theorem byD103 : byD Tryd.prog 103 = some 48 := by kernel_rfl
@[go_sem] theorem ent2 : enters Tryd.prog 2 = true := by kernel_rfl
@[go_sem] theorem ent3 : enters Tryd.prog 3 = true := by kernel_rfl
@[go_sem] theorem ent4 : enters Tryd.prog 4 = true := by kernel_rfl
@[go_sem] theorem ent5 : enters Tryd.prog 5 = true := by kernel_rfl
@[go_sem] theorem ent6 : enters Tryd.prog 6 = true := by kernel_rfl
@[go_sem] theorem ent7 : enters Tryd.prog 7 = true := by kernel_rfl
@[go_sem] theorem ent8 : enters Tryd.prog 8 = true := by kernel_rfl
@[go_sem] theorem ent9 : enters Tryd.prog 9 = true := by kernel_rfl
@[go_sem] theorem ent10 : enters Tryd.prog 10 = true := by kernel_rfl
@[go_sem] theorem ent11 : enters Tryd.prog 11 = true := by kernel_rfl
@[go_sem] theorem ent12 : enters Tryd.prog 12 = true := by kernel_rfl
@[go_sem] theorem ent13 : enters Tryd.prog 13 = true := by kernel_rfl
@[go_sem] theorem ent14 : enters Tryd.prog 14 = true := by kernel_rfl
@[go_sem] theorem ent15 : enters Tryd.prog 15 = true := by kernel_rfl
@[go_sem] theorem ent16 : enters Tryd.prog 16 = true := by kernel_rfl
@[go_sem] theorem ent17 : enters Tryd.prog 17 = true := by kernel_rfl
@[go_sem] theorem ent18 : enters Tryd.prog 18 = true := by kernel_rfl
@[go_sem] theorem ent19 : enters Tryd.prog 19 = true := by kernel_rfl
@[go_sem] theorem ent20 : enters Tryd.prog 20 = true := by kernel_rfl
@[go_sem] theorem ent21 : enters Tryd.prog 21 = true := by kernel_rfl
@[go_sem] theorem ent22 : enters Tryd.prog 22 = true := by kernel_rfl
@[go_sem] theorem ent23 : enters Tryd.prog 23 = true := by kernel_rfl
@[go_sem] theorem ent24 : enters Tryd.prog 24 = true := by kernel_rfl
@[go_sem] theorem ent25 : enters Tryd.prog 25 = true := by kernel_rfl
@[go_sem] theorem ent26 : enters Tryd.prog 26 = true := by kernel_rfl
@[go_sem] theorem ent27 : enters Tryd.prog 27 = true := by kernel_rfl
@[go_sem] theorem ent28 : enters Tryd.prog 28 = true := by kernel_rfl
@[go_sem] theorem ent29 : enters Tryd.prog 29 = true := by kernel_rfl
@[go_sem] theorem ent30 : enters Tryd.prog 30 = true := by kernel_rfl
@[go_sem] theorem ent31 : enters Tryd.prog 31 = true := by kernel_rfl
@[go_sem] theorem ent32 : enters Tryd.prog 32 = true := by kernel_rfl
@[go_sem] theorem ent33 : enters Tryd.prog 33 = true := by kernel_rfl
@[go_sem] theorem ent34 : enters Tryd.prog 34 = true := by kernel_rfl
@[go_sem] theorem ent35 : enters Tryd.prog 35 = true := by kernel_rfl
@[go_sem] theorem ent36 : enters Tryd.prog 36 = true := by kernel_rfl
@[go_sem] theorem ent37 : enters Tryd.prog 37 = true := by kernel_rfl
@[go_sem] theorem ent38 : enters Tryd.prog 38 = true := by kernel_rfl
@[go_sem] theorem ent39 : enters Tryd.prog 39 = true := by kernel_rfl
@[go_sem] theorem ent40 : enters Tryd.prog 40 = true := by kernel_rfl
@[go_sem] theorem ent41 : enters Tryd.prog 41 = true := by kernel_rfl
@[go_sem] theorem ent42 : enters Tryd.prog 42 = true := by kernel_rfl
@[go_sem] theorem ent43 : enters Tryd.prog 43 = true := by kernel_rfl
@[go_sem] theorem ent44 : enters Tryd.prog 44 = true := by kernel_rfl
@[go_sem] theorem ent45 : enters Tryd.prog 45 = true := by kernel_rfl
@[go_sem] theorem ent46 : enters Tryd.prog 46 = true := by kernel_rfl
@[go_sem] theorem ent47 : enters Tryd.prog 47 = true := by kernel_rfl
@[go_sem] theorem ent48 : enters Tryd.prog 48 = true := by kernel_rfl
@[go_sem] theorem ent49 : enters Tryd.prog 49 = true := by kernel_rfl
@[go_sem] theorem ent50 : enters Tryd.prog 50 = true := by kernel_rfl
@[go_sem] theorem ent51 : enters Tryd.prog 51 = true := by kernel_rfl
@[go_sem] theorem ent52 : enters Tryd.prog 52 = true := by kernel_rfl
@[go_sem] theorem ent53 : enters Tryd.prog 53 = true := by kernel_rfl
@[go_sem] theorem ent54 : enters Tryd.prog 54 = true := by kernel_rfl
@[go_sem] theorem ent55 : enters Tryd.prog 55 = true := by kernel_rfl
@[go_sem] theorem ent56 : enters Tryd.prog 56 = true := by kernel_rfl
@[go_sem] theorem ent57 : enters Tryd.prog 57 = true := by kernel_rfl
@[go_sem] theorem ent58 : enters Tryd.prog 58 = true := by kernel_rfl
@[go_sem] theorem ent59 : enters Tryd.prog 59 = true := by kernel_rfl
@[go_sem] theorem ent60 : enters Tryd.prog 60 = true := by kernel_rfl
@[go_sem] theorem ent61 : enters Tryd.prog 61 = true := by kernel_rfl
@[go_sem] theorem ent62 : enters Tryd.prog 62 = true := by kernel_rfl
@[go_sem] theorem ent63 : enters Tryd.prog 63 = true := by kernel_rfl
@[go_sem] theorem ent64 : enters Tryd.prog 64 = true := by kernel_rfl
@[go_sem] theorem ent65 : enters Tryd.prog 65 = true := by kernel_rfl
@[go_sem] theorem ent66 : enters Tryd.prog 66 = true := by kernel_rfl
@[go_sem] theorem ent67 : enters Tryd.prog 67 = true := by kernel_rfl
@[go_sem] theorem ent68 : enters Tryd.prog 68 = true := by kernel_rfl
@[go_sem] theorem ent69 : enters Tryd.prog 69 = true := by kernel_rfl
@[go_sem] theorem ent70 : enters Tryd.prog 70 = true := by kernel_rfl
@[go_sem] theorem ent71 : enters Tryd.prog 71 = true := by kernel_rfl
@[go_sem] theorem ent72 : enters Tryd.prog 72 = true := by kernel_rfl
@[go_sem] theorem ent73 : enters Tryd.prog 73 = true := by kernel_rfl
@[go_sem] theorem ent74 : enters Tryd.prog 74 = true := by kernel_rfl
@[go_sem] theorem ent75 : enters Tryd.prog 75 = true := by kernel_rfl
@[go_sem] theorem ent76 : enters Tryd.prog 76 = true := by kernel_rfl
@[go_sem] theorem ent77 : enters Tryd.prog 77 = true := by kernel_rfl
@[go_sem] theorem ent78 : enters Tryd.prog 78 = true := by kernel_rfl
@[go_sem] theorem ent79 : enters Tryd.prog 79 = true := by kernel_rfl
@[go_sem] theorem ent80 : enters Tryd.prog 80 = true := by kernel_rfl
@[go_sem] theorem ent81 : enters Tryd.prog 81 = true := by kernel_rfl
@[go_sem] theorem ent82 : enters Tryd.prog 82 = true := by kernel_rfl
@[go_sem] theorem ent83 : enters Tryd.prog 83 = true := by kernel_rfl
@[go_sem] theorem ent84 : enters Tryd.prog 84 = true := by kernel_rfl
@[go_sem] theorem ent85 : enters Tryd.prog 85 = true := by kernel_rfl
@[go_sem] theorem ent86 : enters Tryd.prog 86 = true := by kernel_rfl
@[go_sem] theorem ent87 : enters Tryd.prog 87 = true := by kernel_rfl
@[go_sem] theorem ent88 : enters Tryd.prog 88 = true := by kernel_rfl
@[go_sem] theorem ent89 : enters Tryd.prog 89 = true := by kernel_rfl
@[go_sem] theorem ent90 : enters Tryd.prog 90 = true := by kernel_rfl
@[go_sem] theorem ent91 : enters Tryd.prog 91 = true := by kernel_rfl
@[go_sem] theorem ent92 : enters Tryd.prog 92 = true := by kernel_rfl
@[go_sem] theorem ent93 : enters Tryd.prog 93 = true := by kernel_rfl
@[go_sem] theorem ent94 : enters Tryd.prog 94 = true := by kernel_rfl
@[go_sem] theorem ent95 : enters Tryd.prog 95 = true := by kernel_rfl
@[go_sem] theorem ent96 : enters Tryd.prog 96 = true := by kernel_rfl
@[go_sem] theorem ent97 : enters Tryd.prog 97 = true := by kernel_rfl
@[go_sem] theorem ent98 : enters Tryd.prog 98 = true := by kernel_rfl
@[go_sem] theorem ent99 : enters Tryd.prog 99 = true := by kernel_rfl
@[go_sem] theorem ent100 : enters Tryd.prog 100 = true := by kernel_rfl
@[go_sem] theorem ent101 : enters Tryd.prog 101 = true := by kernel_rfl
@[go_sem] theorem ent102 : enters Tryd.prog 102 = true := by kernel_rfl
@[go_sem] theorem ent103 : enters Tryd.prog 103 = true := by kernel_rfl
@[go_sem] theorem ent104 : enters Tryd.prog 104 = true := by kernel_rfl
@[go_sem] theorem ent124 : enters Tryd.prog 124 = true := by kernel_rfl
end Go.Proofs.P

/- The poset seat. -/
namespace Go.AM
def tzA : List AV := tzTab.map (AV.int .u8)
theorem globA_aux : globA 0 = some tzA := rfl
@[go_sem] theorem globA_0 : globA 0 = some tzA := Eq.trans globA_aux (Eq.refl _)
theorem tzA_len (q : Nat) : (List.drop q tzA).length = 64 - q := by rw [List.length_drop]; rfl
theorem tzA_get {q k : Nat} (hq : q < 64) (h : tzTab.getD q 0 = (k : Int)) : (List.drop q tzA).getD 0 .any = .int .u8 (k : Int) := by
  have hl : tzTab.length = 64 := rfl
  rw [← h]
  unfold tzA
  simp only [List.getD_eq_getElem?_getD, List.getElem?_drop, List.getElem?_map, Nat.add_zero]
  rw [List.getElem?_eq_getElem (by omega)]
  simp only [Option.map_some, Option.getD_some]
end Go.AM
namespace Go.Proofs.P
open Go.AM Go
theorem mixed : Tryd.prog.follows .mixedOrders = true := by kernel_rfl
end Go.Proofs.P

namespace Go.Proofs.P
open Go.AM Go
set_option maxRecDepth 100000
set_option maxHeartbeats 1000000
theorem bwords_r (n : Int) (h0 : 0 ≤ n) (h1 : n ≤ 1000000) : Reads Tryd.prog 100 false [.int .i64 n] (.int .i64 (wordsN n)) := by
  have hd : 0 ≤ (n + 64 - 1).tdiv 64 ∧ (n + 64 - 1).tdiv 64 ≤ 1000064 := by rw [Int.tdiv_eq_ediv_of_nonneg (by omega)]; omega
  refine Reads.body (rs := [.tmp 2]) Tryd.func100 rfl Tryd.ntmps100 rfl (by simp) ?_
  generalize hQr : retQ _ _ _ = Qr
  refine AW.seq fun K1 hK1 => ?_
  -- region 0
  refine AW.regionK 0 (fun _ => none) [0] [] ?_
  simp only [go_sem, reduceIte, reduceCtorEq, Nat.reduceAdd, Nat.reduceMul, Nat.reduceEqDiff, Nat.reduceLT, Nat.reduceLeDiff, Nat.reduceSub, Nat.reducePow, Nat.reduceBEq, Int.reduceToNat, List.reduceReplicate]
  repeat with_reducible refine cj ?_ ?_
  all_goals try first | omega
  refine hK1 _ _ _ ?_; clear hK1
  refine AW.seq fun K2 hK2 => ?_
  -- region 1
  refine AW.regionK 0 (fun _ => none) [2] [] ?_
  simp only [go_sem, reduceIte, reduceCtorEq, Nat.reduceAdd, Nat.reduceMul, Nat.reduceEqDiff, Nat.reduceLT, Nat.reduceLeDiff, Nat.reduceSub, Nat.reducePow, Nat.reduceBEq, Int.reduceToNat, List.reduceReplicate]
  repeat with_reducible refine cj ?_ ?_
  all_goals try first | omega
  refine hK2 _ _ _ ?_; clear hK2
  refine AW.ret ?_
  rw [← hQr]
  simp only [go_sem, reduceIte, reduceCtorEq, Nat.reduceAdd, Nat.reduceMul, Nat.reduceEqDiff, Nat.reduceLT, Nat.reduceLeDiff, Nat.reduceSub, Nat.reducePow, Nat.reduceBEq, Int.reduceToNat, List.reduceReplicate]
  exact Wk.of_eq (by simp [wordsN])
theorem rwords_r (n : Int) (h0 : 0 ≤ n) (h1 : n ≤ 1000000) : Reads Tryd.prog 99 false [.int .i64 n] (.int .i64 (wordsN n)) := by
  have hw := wordsN_ref n
  have hd : 0 ≤ (n + 63).tdiv 64 ∧ (n + 63).tdiv 64 ≤ 1000064 := by rw [Int.tdiv_eq_ediv_of_nonneg (by omega)]; omega
  refine Reads.body (rs := [.tmp 2]) Tryd.func99 rfl Tryd.ntmps99 rfl (by simp) ?_
  generalize hQr : retQ _ _ _ = Qr
  refine AW.seq fun K1 hK1 => ?_
  -- region 0
  refine AW.regionK 0 (fun _ => none) [0] [] ?_
  simp only [go_sem, reduceIte, reduceCtorEq, Nat.reduceAdd, Nat.reduceMul, Nat.reduceEqDiff, Nat.reduceLT, Nat.reduceLeDiff, Nat.reduceSub, Nat.reducePow, Nat.reduceBEq, Int.reduceToNat, List.reduceReplicate]
  repeat with_reducible refine cj ?_ ?_
  all_goals try first | omega
  refine hK1 _ _ _ ?_; clear hK1
  refine AW.seq fun K2 hK2 => ?_
  -- region 1
  refine AW.regionK 0 (fun _ => none) [2] [] ?_
  simp only [go_sem, reduceIte, reduceCtorEq, Nat.reduceAdd, Nat.reduceMul, Nat.reduceEqDiff, Nat.reduceLT, Nat.reduceLeDiff, Nat.reduceSub, Nat.reducePow, Nat.reduceBEq, Int.reduceToNat, List.reduceReplicate]
  repeat with_reducible refine cj ?_ ?_
  all_goals try first | omega
  refine hK2 _ _ _ ?_; clear hK2
  refine AW.ret ?_
  rw [← hQr]
  simp only [go_sem, reduceIte, reduceCtorEq, Nat.reduceAdd, Nat.reduceMul, Nat.reduceEqDiff, Nat.reduceLT, Nat.reduceLeDiff, Nat.reduceSub, Nat.reducePow, Nat.reduceBEq, Int.reduceToNat, List.reduceReplicate]
  exact Wk.of_eq (by rw [hw])
theorem bvalid_b (N : Int) (W : List Int) (hl : W.length ≤ 9223372036854775807) (hz : 0 < W.length) : Reads Tryd.prog 79 false [.agg [.int .i64 N, .rsl 1 (words W)]] (.bool (validS N W)) := by
  have hwr := bwords_r N
  refine Reads.body (rs := [.tmp 2]) Tryd.func79 rfl Tryd.ntmps79 rfl (by simp) ?_
  generalize hQr : retQ _ _ _ = Qr
  refine AW.seq fun K1 hK1 => ?_
  -- region 0
  refine AW.regionK 0 (fun _ => none) [1] [1] ?_
  simp only [go_sem, reduceIte, reduceCtorEq, Nat.reduceAdd, Nat.reduceMul, Nat.reduceEqDiff, Nat.reduceLT, Nat.reduceLeDiff, Nat.reduceSub, Nat.reducePow, Nat.reduceBEq, Int.reduceToNat, List.reduceReplicate]
  repeat with_reducible refine cj ?_ ?_
  all_goals try first | omega
  refine hK1 _ _ _ ?_; clear hK1
  refine AW.seq fun K2 hK2 => ?_
  refine AW.seq fun K3 hK3 => ?_
  -- region 1
  refine AW.regionD mixed 0 (fun ii => if ii = 14 then some (.reads false (.int .i64 (wordsN N))) else none) [1, 20] [1] ?_
  simp only [go_sem, reduceIte, reduceCtorEq, Nat.reduceAdd, Nat.reduceMul, Nat.reduceEqDiff, Nat.reduceLT, Nat.reduceLeDiff, Nat.reduceSub, Nat.reducePow, Nat.reduceBEq, Int.reduceToNat, List.reduceReplicate]
  repeat with_reducible refine cj ?_ ?_
  all_goals try first | ((intro hh; refine ⟨hh, ?_⟩; simp at hh; exact hwr (by omega) (by omega))) | (intros; (repeat' apply And.intro) <;> first | assumption | ((intro hh; refine ⟨hh, ?_⟩; simp at hh; exact hwr (by omega) (by omega)))) | omega | exact chk (by kernel_rfl) | exact ent (by kernel_rfl) | (intro hgd; exact absurd hgd (by decide)) | rfl | (simp only [go_sem, reduceIte, reduceCtorEq, Nat.reduceAdd, Nat.reduceMul, Nat.reduceEqDiff, Nat.reduceLT, Nat.reduceLeDiff, Nat.reduceSub, Nat.reducePow, Nat.reduceBEq, Int.reduceToNat, List.reduceReplicate]; done) | (intro _hgd; simp_all [go_sem]; done)
  refine hK3 _ _ _ ?_; clear hK3
  -- cond 1
  refine AW.cond rfl (by simp only [go_sem, reduceIte, reduceCtorEq, Nat.reduceAdd, Nat.reduceMul, Nat.reduceEqDiff, Nat.reduceLT, Nat.reduceLeDiff, Nat.reduceSub, Nat.reducePow, Nat.reduceBEq, Int.reduceToNat, List.reduceReplicate]) ?_ ?_
  · intro hb
    try simp only [hB, decide_eq_true_eq, decide_eq_false_iff_not] at hb
    refine AW.seq fun K4 hK4 => ?_
    -- region 2
    refine AW.regionK 0 (fun _ => none) [2] [] ?_
    simp only [go_sem, reduceIte, reduceCtorEq, Nat.reduceAdd, Nat.reduceMul, Nat.reduceEqDiff, Nat.reduceLT, Nat.reduceLeDiff, Nat.reduceSub, Nat.reducePow, Nat.reduceBEq, Int.reduceToNat, List.reduceReplicate]
    repeat with_reducible refine cj ?_ ?_
    all_goals try first | omega
    refine hK4 _ _ _ ?_; clear hK4
    refine AW.ret ?_
    rw [← hQr]
    simp only [go_sem, reduceIte, reduceCtorEq, Nat.reduceAdd, Nat.reduceMul, Nat.reduceEqDiff, Nat.reduceLT, Nat.reduceLeDiff, Nat.reduceSub, Nat.reducePow, Nat.reduceBEq, Int.reduceToNat, List.reduceReplicate]
    exact Wk.of_eq (by congr 1; symm; simp [validS]; intros; omega)
  · intro hb
    try simp only [hB, decide_eq_true_eq, decide_eq_false_iff_not] at hb
    have hwn := wordsN_rng (n := N) (by omega)
    have hmod : 0 ≤ N.tmod 64 ∧ N.tmod 64 < 64 := by rw [Int.tmod_eq_emod_of_nonneg (by omega)]; omega
    have hpre : 0 ≤ N ∧ N ≤ 512 ∧ (W.length : Int) = wordsN N := by omega
    have hgw : (words W).getD ((W.length : Int) - 1).toNat [] = [.int .u64 (W.getD (W.length - 1) 0)] := by rw [show ((W.length : Int) - 1).toNat = W.length - 1 by omega]; exact words_getD (by omega)
    refine AW.skip ?_
    refine hK2 _ _ _ ?_; clear hK2
    refine AW.seq fun K5 hK5 => ?_
    -- region 3
    refine AW.regionK 0 (fun _ => none) [1, 3] [1] ?_
    simp only [go_sem, reduceIte, reduceCtorEq, Nat.reduceAdd, Nat.reduceMul, Nat.reduceEqDiff, Nat.reduceLT, Nat.reduceLeDiff, Nat.reduceSub, Nat.reducePow, Nat.reduceBEq, Int.reduceToNat, List.reduceReplicate]
    repeat with_reducible refine cj ?_ ?_
    all_goals try first | omega
    refine hK5 _ _ _ ?_; clear hK5
    refine AW.seq fun K6 hK6 => ?_
    -- region 4
    refine AW.regionK 0 (fun _ => none) [2] [] ?_
    simp only [go_sem, reduceIte, reduceCtorEq, Nat.reduceAdd, Nat.reduceMul, Nat.reduceEqDiff, Nat.reduceLT, Nat.reduceLeDiff, Nat.reduceSub, Nat.reducePow, Nat.reduceBEq, Int.reduceToNat, List.reduceReplicate, hgw]
    repeat with_reducible refine cj ?_ ?_
    all_goals try first | ((intro hh; (repeat' apply And.intro) <;> first | exact hh | omega)) | (intros; (repeat' apply And.intro) <;> first | assumption | ((intro hh; (repeat' apply And.intro) <;> first | exact hh | omega))) | omega | (intro hgd; exact absurd hgd (by decide)) | rfl | (simp only [go_sem, reduceIte, reduceCtorEq, Nat.reduceAdd, Nat.reduceMul, Nat.reduceEqDiff, Nat.reduceLT, Nat.reduceLeDiff, Nat.reduceSub, Nat.reducePow, Nat.reduceBEq, Int.reduceToNat, List.reduceReplicate, hgw]; done) | (intro _hgd; simp_all [go_sem]; done)
    refine hK6 _ _ _ ?_; clear hK6
    refine AW.ret ?_
    rw [← hQr]
    simp only [go_sem, reduceIte, reduceCtorEq, Nat.reduceAdd, Nat.reduceMul, Nat.reduceEqDiff, Nat.reduceLT, Nat.reduceLeDiff, Nat.reduceSub, Nat.reducePow, Nat.reduceBEq, Int.reduceToNat, List.reduceReplicate]
    exact Wk.of_eq (by simp [validS, topB, hpre.1, hpre.2.1, hpre.2.2])
theorem words_nil_get (i : Nat) : (words []).getD i [] = [] := rfl
theorem words_nil_len : (words []).length = 0 := rfl
theorem bvalid_a (N : Int) : Reads Tryd.prog 79 false [.agg [.int .i64 N, .rsl 1 (words [])]] (.bool (validS N [])) := by
  have hwr := bwords_r N
  refine Reads.body (rs := [.tmp 2]) Tryd.func79 rfl Tryd.ntmps79 rfl (by simp) ?_
  generalize hQr : retQ _ _ _ = Qr
  refine AW.seq fun K1 hK1 => ?_
  -- region 0
  refine AW.regionK 0 (fun _ => none) [1] [1] ?_
  simp only [go_sem, reduceIte, reduceCtorEq, Nat.reduceAdd, Nat.reduceMul, Nat.reduceEqDiff, Nat.reduceLT, Nat.reduceLeDiff, Nat.reduceSub, Nat.reducePow, Nat.reduceBEq, Int.reduceToNat, List.reduceReplicate]
  repeat with_reducible refine cj ?_ ?_
  all_goals try first | omega
  refine hK1 _ _ _ ?_; clear hK1
  refine AW.seq fun K2 hK2 => ?_
  refine AW.seq fun K3 hK3 => ?_
  -- region 1
  refine AW.regionD mixed 0 (fun ii => if ii = 14 then some (.reads false (.int .i64 (wordsN N))) else none) [1, 20] [1] ?_
  simp only [go_sem, reduceIte, reduceCtorEq, Nat.reduceAdd, Nat.reduceMul, Nat.reduceEqDiff, Nat.reduceLT, Nat.reduceLeDiff, Nat.reduceSub, Nat.reducePow, Nat.reduceBEq, Int.reduceToNat, List.reduceReplicate, words_nil_len]
  repeat with_reducible refine cj ?_ ?_
  all_goals try first | ((intro hh; refine ⟨hh, ?_⟩; simp at hh; exact hwr (by omega) (by omega))) | (intros; (repeat' apply And.intro) <;> first | assumption | ((intro hh; refine ⟨hh, ?_⟩; simp at hh; exact hwr (by omega) (by omega)))) | omega | exact chk (by kernel_rfl) | exact ent (by kernel_rfl) | (intro hgd; exact absurd hgd (by decide)) | rfl | (simp only [go_sem, reduceIte, reduceCtorEq, Nat.reduceAdd, Nat.reduceMul, Nat.reduceEqDiff, Nat.reduceLT, Nat.reduceLeDiff, Nat.reduceSub, Nat.reducePow, Nat.reduceBEq, Int.reduceToNat, List.reduceReplicate, words_nil_len]; done) | (intro _hgd; simp_all [go_sem]; done)
  refine hK3 _ _ _ ?_; clear hK3
  -- cond 1
  refine AW.cond rfl (by simp only [go_sem, reduceIte, reduceCtorEq, Nat.reduceAdd, Nat.reduceMul, Nat.reduceEqDiff, Nat.reduceLT, Nat.reduceLeDiff, Nat.reduceSub, Nat.reducePow, Nat.reduceBEq, Int.reduceToNat, List.reduceReplicate]) ?_ ?_
  · intro hb
    try simp only [hB, decide_eq_true_eq, decide_eq_false_iff_not] at hb
    refine AW.seq fun K4 hK4 => ?_
    -- region 2
    refine AW.regionK 0 (fun _ => none) [2] [] ?_
    simp only [go_sem, reduceIte, reduceCtorEq, Nat.reduceAdd, Nat.reduceMul, Nat.reduceEqDiff, Nat.reduceLT, Nat.reduceLeDiff, Nat.reduceSub, Nat.reducePow, Nat.reduceBEq, Int.reduceToNat, List.reduceReplicate]
    repeat with_reducible refine cj ?_ ?_
    all_goals try first | omega
    refine hK4 _ _ _ ?_; clear hK4
    refine AW.ret ?_
    rw [← hQr]
    simp only [go_sem, reduceIte, reduceCtorEq, Nat.reduceAdd, Nat.reduceMul, Nat.reduceEqDiff, Nat.reduceLT, Nat.reduceLeDiff, Nat.reduceSub, Nat.reducePow, Nat.reduceBEq, Int.reduceToNat, List.reduceReplicate]
    exact Wk.of_eq (by congr 1; symm; simp [validS]; intros; omega)
  · intro hb
    try simp only [hB, decide_eq_true_eq, decide_eq_false_iff_not] at hb
    have hwn := wordsN_rng (n := N) (by omega)
    obtain rfl : N = 0 := by omega
    refine AW.skip ?_
    refine hK2 _ _ _ ?_; clear hK2
    refine AW.seq fun K5 hK5 => ?_
    -- region 3
    refine AW.regionK 0 (fun _ => none) [1, 3] [1] ?_
    simp only [go_sem, reduceIte, reduceCtorEq, Nat.reduceAdd, Nat.reduceMul, Nat.reduceEqDiff, Nat.reduceLT, Nat.reduceLeDiff, Nat.reduceSub, Nat.reducePow, Nat.reduceBEq, Int.reduceToNat, List.reduceReplicate, Int.zero_tmod]
    repeat with_reducible refine cj ?_ ?_
    all_goals try first | omega
    refine hK5 _ _ _ ?_; clear hK5
    refine AW.seq fun K6 hK6 => ?_
    -- region 4
    refine AW.regionK 0 (fun _ => none) [2] [] ?_
    simp only [go_sem, reduceIte, reduceCtorEq, Nat.reduceAdd, Nat.reduceMul, Nat.reduceEqDiff, Nat.reduceLT, Nat.reduceLeDiff, Nat.reduceSub, Nat.reducePow, Nat.reduceBEq, Int.reduceToNat, List.reduceReplicate, words_nil_get, words_nil_len, List.getD_nil]
    repeat with_reducible refine cj ?_ ?_
    all_goals try first | omega | (intros; (repeat' apply And.intro) <;> first | assumption | omega | decide) | (intro hgd; exact absurd hgd (by decide)) | rfl | (simp only [go_sem, reduceIte, reduceCtorEq, Nat.reduceAdd, Nat.reduceMul, Nat.reduceEqDiff, Nat.reduceLT, Nat.reduceLeDiff, Nat.reduceSub, Nat.reducePow, Nat.reduceBEq, Int.reduceToNat, List.reduceReplicate, words_nil_get, words_nil_len, List.getD_nil]; done) | (intro _hgd; simp_all [go_sem]; done)
    refine hK6 _ _ _ ?_; clear hK6
    refine AW.ret ?_
    rw [← hQr]
    simp only [go_sem, reduceIte, reduceCtorEq, Nat.reduceAdd, Nat.reduceMul, Nat.reduceEqDiff, Nat.reduceLT, Nat.reduceLeDiff, Nat.reduceSub, Nat.reducePow, Nat.reduceBEq, Int.reduceToNat, List.reduceReplicate]
    exact Wk.of_eq (by rfl)
theorem bvalid_r (N : Int) (W : List Int) (hl : W.length ≤ 9223372036854775807) : Reads Tryd.prog 79 false [.agg [.int .i64 N, .rsl 1 (words W)]] (.bool (validS N W)) := by
  cases W with
  | nil => exact bvalid_a N
  | cons w l => exact bvalid_b N (w :: l) hl (by simp)
def badRow (n : Nat) (x : USet) : Bool := !(decide (x.N = n) && validS x.N x.W)
theorem vrow_r (rs : List USet) (x : USet) (hl : rs.length ≤ 9223372036854775807) (hx : x.W.length ≤ 9223372036854775807) : Reads Tryd.prog 87 false [.agg (rowV x), .rptr [.rsl 2 (rs.map rowV)]] (.bool (badRow rs.length x)) := by
  have hv := bvalid_r x.N x.W hx
  unfold rowV
  refine Reads.body (rs := [.tmp 3]) Tryd.func87 rfl Tryd.ntmps87 rfl (by simp) ?_
  generalize hQr : retQ _ _ _ = Qr
  refine AW.seq fun K1 hK1 => ?_
  -- region 0
  refine AW.regionK 0 (fun _ => none) [1, 2] [2] ?_
  simp only [go_sem, reduceIte, reduceCtorEq, Nat.reduceAdd, Nat.reduceMul, Nat.reduceEqDiff, Nat.reduceLT, Nat.reduceLeDiff, Nat.reduceSub, Nat.reducePow, Nat.reduceBEq, Int.reduceToNat, List.reduceReplicate]
  repeat with_reducible refine cj ?_ ?_
  all_goals try first | omega
  refine hK1 _ _ _ ?_; clear hK1
  refine AW.seq fun K2 hK2 => ?_
  -- region 1
  refine AW.regionK 0 (fun ii => if ii = 8 then some (.reads false (.bool (validS x.N x.W))) else none) [3] [] ?_
  simp only [go_sem, reduceIte, reduceCtorEq, Nat.reduceAdd, Nat.reduceMul, Nat.reduceEqDiff, Nat.reduceLT, Nat.reduceLeDiff, Nat.reduceSub, Nat.reducePow, Nat.reduceBEq, Int.reduceToNat, List.reduceReplicate]
  repeat with_reducible refine cj ?_ ?_
  all_goals try first | ((intro hh; exact ⟨hh, hv⟩)) | (intros; (repeat' apply And.intro) <;> first | assumption | ((intro hh; exact ⟨hh, hv⟩))) | omega | exact ent (by kernel_rfl) | (intro hgd; exact absurd hgd (by decide)) | rfl | (simp only [go_sem, reduceIte, reduceCtorEq, Nat.reduceAdd, Nat.reduceMul, Nat.reduceEqDiff, Nat.reduceLT, Nat.reduceLeDiff, Nat.reduceSub, Nat.reducePow, Nat.reduceBEq, Int.reduceToNat, List.reduceReplicate]; done) | (intro _hgd; simp_all [go_sem]; done)
  refine hK2 _ _ _ ?_; clear hK2
  refine AW.ret ?_
  rw [← hQr]
  simp only [go_sem, reduceIte, reduceCtorEq, Nat.reduceAdd, Nat.reduceMul, Nat.reduceEqDiff, Nat.reduceLT, Nat.reduceLeDiff, Nat.reduceSub, Nat.reducePow, Nat.reduceBEq, Int.reduceToNat, List.reduceReplicate]
  exact Wk.of_eq (by simp [badRow])
theorem ixrow_r (rs : List USet) (hl : rs.length ≤ 9223372036854775807) (hx : ∀ x ∈ rs, x.W.length ≤ 9223372036854775807) : Reads Tryd.prog 74 false [.rsl 2 (rs.map rowV), .fn 87 [.rptr [.rsl 2 (rs.map rowV)]]] (.int .i64 (ixf (badRow rs.length) rs)) := by
  have hbp := fun x hxm => vrow_r rs x hl (hx x hxm)
  refine Reads.body (rs := [.tmp 4]) Tryd.func74 rfl Tryd.ntmps74 rfl (by simp) ?_
  generalize hQr : retQ _ _ _ = Qr
  refine AW.seq fun K1 hK1 => ?_
  -- region 0
  refine AW.regionK 0 (fun _ => none) [0, 1] [] ?_
  simp only [go_sem, reduceIte, reduceCtorEq, Nat.reduceAdd, Nat.reduceMul, Nat.reduceEqDiff, Nat.reduceLT, Nat.reduceLeDiff, Nat.reduceSub, Nat.reducePow, Nat.reduceBEq, Int.reduceToNat, List.reduceReplicate]
  repeat with_reducible refine cj ?_ ?_
  all_goals try first | omega
  refine hK1 _ _ _ ?_; clear hK1
  refine AW.seq fun K2 hK2 => ?_
  refine AW.seq fun K3 hK3 => ?_
  -- region 1
  refine AW.regionK 0 (fun _ => none) [0, 1, 7, 8] [] ?_
  simp only [go_sem, reduceIte, reduceCtorEq, Nat.reduceAdd, Nat.reduceMul, Nat.reduceEqDiff, Nat.reduceLT, Nat.reduceLeDiff, Nat.reduceSub, Nat.reducePow, Nat.reduceBEq, Int.reduceToNat, List.reduceReplicate]
  repeat with_reducible refine cj ?_ ?_
  all_goals try first | omega
  refine hK3 _ _ _ ?_; clear hK3
  refine AW.block ?_
  -- loop 1
  refine AW.loopE (fun mm ee ss kk => ∃ (j : Nat), rs.length - j = mm ∧ ee = [(0, .rsl 2 (rs.map rowV)), (1, .fn 87 [.rptr [.rsl 2 (rs.map rowV)]]), (7, .int .i64 rs.length), (8, .int .i64 (j : Nat))] ∧ ss = [] ∧ (j ≤ rs.length ∧ (rs.take j).any (badRow rs.length) = false)) ?_ ?_
  · refine ⟨_, 0, rfl, ?henv, ?hstore, ?hst⟩
    case henv =>
      repeat' (first | rfl | refine env_cons ?_ ?_ | refine st_cons ?_ ?_ ?_ ?_ | refine int_eq ?_ | refine bool_eq ?_ | refine rsl_eq ?_ | refine osl_eq ?_ | refine sl_eq ?_ ?_ ?_ | refine ptr_eq ?_ ?_ ?_ | refine agg_eq ?_ | refine es_cons ?_ ?_ | refine row_cons ?_ ?_)
      all_goals (first | (simp; done) | omega | (simp; omega))
    case hstore =>
      repeat' (first | rfl | refine env_cons ?_ ?_ | refine st_cons ?_ ?_ ?_ ?_ | refine int_eq ?_ | refine bool_eq ?_ | refine rsl_eq ?_ | refine osl_eq ?_ | refine sl_eq ?_ ?_ ?_ | refine ptr_eq ?_ ?_ ?_ | refine agg_eq ?_ | refine es_cons ?_ ?_ | refine row_cons ?_ ?_)
      all_goals (first | (simp; done) | omega | (simp; omega))
    case hst =>
      first | trivial | omega | (simp; done) | (simp; omega)
  rintro mm ee ss kk ⟨j, rfl, rfl, rfl, hI⟩
  generalize hQl1 : thenQ _ _ = Ql1
  obtain ⟨hj, hall⟩ := hI
  refine AW.seq fun K4 hK4 => ?_
  -- region 2
  refine AW.regionK 0 (fun _ => none) [0, 1, 7, 8, 9] [] ?_
  simp only [go_sem, reduceIte, reduceCtorEq, Nat.reduceAdd, Nat.reduceMul, Nat.reduceEqDiff, Nat.reduceLT, Nat.reduceLeDiff, Nat.reduceSub, Nat.reducePow, Nat.reduceBEq, Int.reduceToNat, List.reduceReplicate]
  repeat with_reducible refine cj ?_ ?_
  all_goals try first | omega
  refine hK4 _ _ _ ?_; clear hK4
  refine AW.seq fun K5 hK5 => ?_
  -- cond 1
  refine AW.cond rfl (by simp only [go_sem, reduceIte, reduceCtorEq, Nat.reduceAdd, Nat.reduceMul, Nat.reduceEqDiff, Nat.reduceLT, Nat.reduceLeDiff, Nat.reduceSub, Nat.reducePow, Nat.reduceBEq, Int.reduceToNat, List.reduceReplicate]) ?_ ?_
  · intro hb
    try simp only [hB, decide_eq_true_eq, decide_eq_false_iff_not] at hb
    obtain ⟨x, hx⟩ := getI (l := rs) (j := j) (by omega)
    have hgx := getV (f := rowV) hx
    have hats := any_take_succ (p := badRow rs.length) hx
    have hbx := hbp x (List.mem_of_getElem? hx)
    refine AW.skip ?_
    refine hK5 _ _ _ ?_; clear hK5
    refine AW.seq fun K6 hK6 => ?_
    refine AW.block ?_
    refine AW.seq fun K7 hK7 => ?_
    -- region 3
    refine AW.regionK 0 (fun _ => none) [0, 1, 5, 7, 8] [] ?_
    simp only [go_sem, reduceIte, reduceCtorEq, Nat.reduceAdd, Nat.reduceMul, Nat.reduceEqDiff, Nat.reduceLT, Nat.reduceLeDiff, Nat.reduceSub, Nat.reducePow, Nat.reduceBEq, Int.reduceToNat, List.reduceReplicate]
    repeat with_reducible refine cj ?_ ?_
    all_goals try first | omega
    refine hK7 _ _ _ ?_; clear hK7
    refine AW.seq fun K8 hK8 => ?_
    -- region 4
    refine AW.regionK 0 (fun ii => if ii = 5 then some (.reads false (.bool (badRow rs.length x))) else none) [0, 1, 5, 7, 8, 16] [] ?_
    simp only [go_sem, reduceIte, reduceCtorEq, Nat.reduceAdd, Nat.reduceMul, Nat.reduceEqDiff, Nat.reduceLT, Nat.reduceLeDiff, Nat.reduceSub, Nat.reducePow, Nat.reduceBEq, Int.reduceToNat, List.reduceReplicate, hgx, rowV]
    repeat with_reducible refine cj ?_ ?_
    all_goals try first | (exact hbx) | omega | exact ent (by kernel_rfl)
    refine hK8 _ _ _ ?_; clear hK8
    -- cond 2
    refine AW.cond rfl (by simp only [go_sem, reduceIte, reduceCtorEq, Nat.reduceAdd, Nat.reduceMul, Nat.reduceEqDiff, Nat.reduceLT, Nat.reduceLeDiff, Nat.reduceSub, Nat.reducePow, Nat.reduceBEq, Int.reduceToNat, List.reduceReplicate]) ?_ ?_
    · intro hb
      try simp only [hB, decide_eq_true_eq, decide_eq_false_iff_not] at hb
      refine AW.seq fun K9 hK9 => ?_
      -- region 5
      refine AW.regionK 0 (fun _ => none) [4] [] ?_
      simp only [go_sem, reduceIte, reduceCtorEq, Nat.reduceAdd, Nat.reduceMul, Nat.reduceEqDiff, Nat.reduceLT, Nat.reduceLeDiff, Nat.reduceSub, Nat.reducePow, Nat.reduceBEq, Int.reduceToNat, List.reduceReplicate]
      repeat with_reducible refine cj ?_ ?_
      all_goals try first | omega
      refine hK9 _ _ _ ?_; clear hK9
      refine AW.ret ?_
      rw [← hQl1]
      rw [← hQr]
      simp only [go_sem, reduceIte, reduceCtorEq, Nat.reduceAdd, Nat.reduceMul, Nat.reduceEqDiff, Nat.reduceLT, Nat.reduceLeDiff, Nat.reduceSub, Nat.reducePow, Nat.reduceBEq, Int.reduceToNat, List.reduceReplicate]
      exact Wk.of_eq (by rw [ixf_at hx hb hall])
    · intro hb
      try simp only [hB, decide_eq_true_eq, decide_eq_false_iff_not] at hb
      refine AW.skip ?_
      refine hK6 _ _ _ ?_; clear hK6
      -- region 6
      refine AW.regionK 0 (fun _ => none) [0, 1, 7, 8] [] ?_
      simp only [go_sem, reduceIte, reduceCtorEq, Nat.reduceAdd, Nat.reduceMul, Nat.reduceEqDiff, Nat.reduceLT, Nat.reduceLeDiff, Nat.reduceSub, Nat.reducePow, Nat.reduceBEq, Int.reduceToNat, List.reduceReplicate]
      repeat with_reducible refine cj ?_ ?_
      all_goals try first | omega
      rw [← hQl1]
      change Exists _
      refine ⟨_, ?hm, j + 1, rfl, ?henv, ?hstore, ?hst⟩
      case henv =>
        repeat' (first | rfl | refine env_cons ?_ ?_ | refine st_cons ?_ ?_ ?_ ?_ | refine int_eq ?_ | refine bool_eq ?_ | refine rsl_eq ?_ | refine osl_eq ?_ | refine sl_eq ?_ ?_ ?_ | refine ptr_eq ?_ ?_ ?_ | refine agg_eq ?_ | refine es_cons ?_ ?_ | refine row_cons ?_ ?_)
        all_goals (first | (simp; done) | omega | (simp; omega))
      case hstore =>
        repeat' (first | rfl | refine env_cons ?_ ?_ | refine st_cons ?_ ?_ ?_ ?_ | refine int_eq ?_ | refine bool_eq ?_ | refine rsl_eq ?_ | refine osl_eq ?_ | refine sl_eq ?_ ?_ ?_ | refine ptr_eq ?_ ?_ ?_ | refine agg_eq ?_ | refine es_cons ?_ ?_ | refine row_cons ?_ ?_)
        all_goals (first | (simp; done) | omega | (simp; omega))
      case hst =>
        exact ⟨by omega, by rw [hats, hall, hb]; rfl⟩
      case hm => omega
  · intro hb
    try simp only [hB, decide_eq_true_eq, decide_eq_false_iff_not] at hb
    refine AW.keep [] [] ?_
    try simp only [go_sem, reduceIte, reduceCtorEq, Nat.reduceAdd, Nat.reduceMul, Nat.reduceEqDiff, Nat.reduceLT, Nat.reduceLeDiff, Nat.reduceSub, Nat.reducePow, Nat.reduceBEq, Int.reduceToNat, List.reduceReplicate]
    refine AW.exit ?_
    rw [← hQl1]
    refine hK2 _ _ _ ?_; clear hK2
    refine AW.seq fun K10 hK10 => ?_
    -- region 7
    refine AW.regionK 0 (fun _ => none) [4] [] ?_
    simp only [go_sem, reduceIte, reduceCtorEq, Nat.reduceAdd, Nat.reduceMul, Nat.reduceEqDiff, Nat.reduceLT, Nat.reduceLeDiff, Nat.reduceSub, Nat.reducePow, Nat.reduceBEq, Int.reduceToNat, List.reduceReplicate]
    repeat with_reducible refine cj ?_ ?_
    all_goals try first | omega
    refine hK10 _ _ _ ?_; clear hK10
    refine AW.ret ?_
    rw [← hQr]
    simp only [go_sem, reduceIte, reduceCtorEq, Nat.reduceAdd, Nat.reduceMul, Nat.reduceEqDiff, Nat.reduceLT, Nat.reduceLeDiff, Nat.reduceSub, Nat.reducePow, Nat.reduceBEq, Int.reduceToNat, List.reduceReplicate]
    exact Wk.of_eq (by rw [List.take_of_length_le (by omega)] at hall; rw [ixf_none hall])
theorem ctrow_r (rs : List USet) (hl : rs.length ≤ 9223372036854775807) (hx : ∀ x ∈ rs, x.W.length ≤ 9223372036854775807) : Reads Tryd.prog 45 false [.rsl 2 (rs.map rowV), .fn 87 [.rptr [.rsl 2 (rs.map rowV)]]] (.bool (rs.any (badRow rs.length))) := by
  have h := ixrow_r rs hl hx
  have hge := ixf_ge (badRow rs.length) rs
  refine Reads.body (rs := [.tmp 4]) Tryd.func45 rfl Tryd.ntmps45 rfl (by simp) ?_
  generalize hQr : retQ _ _ _ = Qr
  refine AW.seq fun K1 hK1 => ?_
  -- region 0
  refine AW.regionK 0 (fun _ => none) [0, 1] [] ?_
  simp only [go_sem, reduceIte, reduceCtorEq, Nat.reduceAdd, Nat.reduceMul, Nat.reduceEqDiff, Nat.reduceLT, Nat.reduceLeDiff, Nat.reduceSub, Nat.reducePow, Nat.reduceBEq, Int.reduceToNat, List.reduceReplicate]
  repeat with_reducible refine cj ?_ ?_
  all_goals try first | omega
  refine hK1 _ _ _ ?_; clear hK1
  refine AW.seq fun K2 hK2 => ?_
  -- region 1
  refine AW.regionK 0 (fun ii => if ii = 2 then some (.reads false (.int .i64 (ixf (badRow rs.length) rs))) else none) [4] [] ?_
  simp only [go_sem, reduceIte, reduceCtorEq, Nat.reduceAdd, Nat.reduceMul, Nat.reduceEqDiff, Nat.reduceLT, Nat.reduceLeDiff, Nat.reduceSub, Nat.reducePow, Nat.reduceBEq, Int.reduceToNat, List.reduceReplicate]
  repeat with_reducible refine cj ?_ ?_
  all_goals try first | (exact h) | omega | exact ent (by kernel_rfl)
  refine hK2 _ _ _ ?_; clear hK2
  refine AW.ret ?_
  rw [← hQr]
  simp only [go_sem, reduceIte, reduceCtorEq, Nat.reduceAdd, Nat.reduceMul, Nat.reduceEqDiff, Nat.reduceLT, Nat.reduceLeDiff, Nat.reduceSub, Nat.reducePow, Nat.reduceBEq, Int.reduceToNat, List.reduceReplicate]
  exact Wk.of_eq (by rw [hge])
theorem not_any_all {α : Type} (p : α → Bool) (l : List α) : (!l.any fun x => !p x) = l.all p := by
  induction l with
  | nil => rfl
  | cons a l ih => simp only [List.any_cons, List.all_cons, Bool.not_or, ih, Bool.not_not]
theorem validR_any (rs : List USet) : validR rs = (decide (rs.length ≤ 512) && !rs.any (badRow rs.length)) := by
  unfold validR badRow; rw [not_any_all]
theorem rvalid_r (rs : List USet) (hl : rs.length ≤ 9223372036854775807) (hx : ∀ x ∈ rs, x.W.length ≤ 9223372036854775807) : Reads Tryd.prog 63 false [relV rs] (.bool (validR rs)) := by
  have h := Reads.flat (ctrow_r rs hl hx) rfl
  have hv := validR_any rs
  have e : ((rs.length : Int) ≤ 512) = (rs.length ≤ 512) := by apply propext; omega
  unfold relV
  refine Reads.body (rs := [.tmp 2]) Tryd.func63 rfl Tryd.ntmps63 rfl (by simp) ?_
  generalize hQr : retQ _ _ _ = Qr
  refine AW.seq fun K1 hK1 => ?_
  -- region 0
  refine AW.regionK 0 (fun _ => none) [1] [1] ?_
  simp only [go_sem, reduceIte, reduceCtorEq, Nat.reduceAdd, Nat.reduceMul, Nat.reduceEqDiff, Nat.reduceLT, Nat.reduceLeDiff, Nat.reduceSub, Nat.reducePow, Nat.reduceBEq, Int.reduceToNat, List.reduceReplicate]
  repeat with_reducible refine cj ?_ ?_
  all_goals try first | omega
  refine hK1 _ _ _ ?_; clear hK1
  refine AW.seq fun K2 hK2 => ?_
  -- region 1
  refine AW.regionK 0 (fun ii => if ii = 8 then some (.reads true (.bool (rs.any (badRow rs.length)))) else none) [2] [] ?_
  simp only [go_sem, reduceIte, reduceCtorEq, Nat.reduceAdd, Nat.reduceMul, Nat.reduceEqDiff, Nat.reduceLT, Nat.reduceLeDiff, Nat.reduceSub, Nat.reducePow, Nat.reduceBEq, Int.reduceToNat, List.reduceReplicate]
  repeat with_reducible refine cj ?_ ?_
  all_goals try first | ((intro hh; exact ⟨hh, h⟩)) | (intros; (repeat' apply And.intro) <;> first | assumption | ((intro hh; exact ⟨hh, h⟩))) | omega | exact ent (by kernel_rfl) | (intro hgd; exact absurd hgd (by decide)) | rfl | (simp only [go_sem, reduceIte, reduceCtorEq, Nat.reduceAdd, Nat.reduceMul, Nat.reduceEqDiff, Nat.reduceLT, Nat.reduceLeDiff, Nat.reduceSub, Nat.reducePow, Nat.reduceBEq, Int.reduceToNat, List.reduceReplicate]; done) | (intro _hgd; simp_all [go_sem]; done)
  refine hK2 _ _ _ ?_; clear hK2
  refine AW.ret ?_
  rw [← hQr]
  simp only [go_sem, reduceIte, reduceCtorEq, Nat.reduceAdd, Nat.reduceMul, Nat.reduceEqDiff, Nat.reduceLT, Nat.reduceLeDiff, Nat.reduceSub, Nat.reducePow, Nat.reduceBEq, Int.reduceToNat, List.reduceReplicate]
  exact Wk.of_eq (by rw [hv]; simp [e])
end Go.Proofs.P

namespace Go.Proofs.P
open Go.AM Go
set_option maxRecDepth 100000
set_option maxHeartbeats 1000000
end Go.Proofs.P

namespace Go.Proofs.P
open Go.AM Go
set_option maxRecDepth 100000
set_option maxHeartbeats 1000000
theorem rhas_r (n : Nat) (t : List (List Bool)) (hs : Sq n t) (hn : n ≤ 512) (i j : Nat) (hi : i < n) (hj : j < n) : Reads Tryd.prog 91 false [relB t, .int .i64 i, .int .i64 j] (.bool (atT t i j)) := by
  have hrl := hs.rowLen hi
  have hgt := tabR_get (t := t) (i := i) (by rw [hs.len]; exact hi)
  have htl := tabR_len t
  have hlen := hs.len
  have hat : atT t i j = (rowT t i).getD j false := rfl
  generalize hb : rowT t i = b at *
  have hwl := setW_len' b
  have hd := div64_rng (i := (j : Int)) (n := b.length) (by omega) (by omega)
  have hwn := wordsN_rng (n := (b.length : Int)) (by omega)
  have hgw := words_getD (l := setW b b.length) (i := ((j : Int).tdiv 64).toNat) (by omega)
  have hbt := bit_hasW (setW_ok b) (i := (j : Int)) (by omega)
  rw [hasW_row (by omega), ← hat] at hbt
  unfold relB
  refine Reads.body (rs := [.tmp 6]) Tryd.func91 rfl Tryd.ntmps91 rfl (by simp) ?_
  generalize hQr : retQ _ _ _ = Qr
  refine AW.seq fun K1 hK1 => ?_
  -- region 0
  refine AW.regionK 0 (fun _ => none) [1, 2, 3] [3] ?_
  simp only [go_sem, reduceIte, reduceCtorEq, Nat.reduceAdd, Nat.reduceMul, Nat.reduceEqDiff, Nat.reduceLT, Nat.reduceLeDiff, Nat.reduceSub, Nat.reducePow, Nat.reduceBEq, Int.reduceToNat, List.reduceReplicate]
  repeat with_reducible refine cj ?_ ?_
  all_goals try first | omega
  refine hK1 _ _ _ ?_; clear hK1
  refine AW.seq fun K2 hK2 => ?_
  -- region 1
  refine AW.regionK 0 (fun _ => none) [6] [] ?_
  simp only [go_sem, reduceIte, reduceCtorEq, Nat.reduceAdd, Nat.reduceMul, Nat.reduceEqDiff, Nat.reduceLT, Nat.reduceLeDiff, Nat.reduceSub, Nat.reducePow, Nat.reduceBEq, Int.reduceToNat, List.reduceReplicate, hgt, rowB, hgw]
  repeat with_reducible refine cj ?_ ?_
  all_goals try first | omega
  refine hK2 _ _ _ ?_; clear hK2
  refine AW.ret ?_
  rw [← hQr]
  simp only [go_sem, reduceIte, reduceCtorEq, Nat.reduceAdd, Nat.reduceMul, Nat.reduceEqDiff, Nat.reduceLT, Nat.reduceLeDiff, Nat.reduceSub, Nat.reducePow, Nat.reduceBEq, Int.reduceToNat, List.reduceReplicate]
  exact Wk.of_eq (by rw [hbt])
theorem put_u (n : Nat) (t : List (List Bool)) (hs : Sq n t) (hn : n ≤ 512) (i j : Nat) (hi : i < n) (hj : j < n) (g v : Nat) (kc : Option Nat) :
    Upd Tryd.prog 83 [(0, some ⟨g, v, 2, tabO t⟩)] [.agg [.sl ⟨0, g, none⟩ 0 n kc], .int .i64 i, .int .i64 j] (fun _ => .tup []) (fun k => [(0, some ⟨g, k, 2, tabO (t.set i ((rowT t i).set j true))⟩)]) := by
  have hrl := hs.rowLen hi
  have hlen := hs.len
  have hgt := tabO_get (t := t) (i := i) (by omega)
  have htl := tabO_len t
  have hts := tabO_set t i
  generalize hb : rowT t i = b at *
  have hwl := setW_len' b
  have hd := div64_rng (i := (j : Int)) (n := b.length) (by omega) (by omega)
  have hwn := wordsN_rng (n := (b.length : Int)) (by omega)
  have hgw := words_getD (l := setW b b.length) (i := ((j : Int).tdiv 64).toNat) (by omega)
  have hsb := setBit_setW b (i := j) (by omega)
  unfold setBit at hsb
  have hro : rowO (b.set j true) = [.int .i64 b.length, .osl 1 (words (setW (b.set j true) b.length))] := by simp [rowO]
  have hts2 : (tabO t).set i [.int .i64 b.length, .osl 1 (words (setW (b.set j true) b.length))] = tabO (t.set i (b.set j true)) := by rw [← hro]; exact hts _
  refine Upd.of_body (rs := []) Tryd.func83 rfl Tryd.ntmps83 rfl (by simp) ?_
  intro k0 k hk0 hk1
  generalize hQr : retQ _ _ _ = Qr
  refine AW.seq fun K1 hK1 => ?_
  -- region 0
  refine AW.regionK 100 (fun _ => none) [1, 2, 3] [0, 103] ?_
  simp only [go_sem, reduceIte, reduceCtorEq, Nat.reduceAdd, Nat.reduceMul, Nat.reduceEqDiff, Nat.reduceLT, Nat.reduceLeDiff, Nat.reduceSub, Nat.reducePow, Nat.reduceBEq, Int.reduceToNat, List.reduceReplicate]
  repeat with_reducible refine cj ?_ ?_
  all_goals try first | omega
  refine hK1 _ _ _ ?_; clear hK1
  -- region 1
  refine AW.regionD mixed 100 (fun _ => none) [] [0] ?_
  simp only [go_sem, reduceIte, reduceCtorEq, Nat.reduceAdd, Nat.reduceMul, Nat.reduceEqDiff, Nat.reduceLT, Nat.reduceLeDiff, Nat.reduceSub, Nat.reducePow, Nat.reduceBEq, Int.reduceToNat, List.reduceReplicate, hgt, rowO, hgw, hsb, hts2]
  repeat with_reducible refine cj ?_ ?_
  all_goals try first | omega | exact chk (by kernel_rfl)
  rw [← hQr]
  simp only [go_sem, reduceIte, reduceCtorEq, Nat.reduceAdd, Nat.reduceMul, Nat.reduceEqDiff, Nat.reduceLT, Nat.reduceLeDiff, Nat.reduceSub, Nat.reducePow, Nat.reduceBEq, Int.reduceToNat, List.reduceReplicate]
  refine ⟨[(0, 0, false)], ?_⟩
  simp only [go_sem, reduceIte, renC_tabO]
theorem set_getD_self {α : Type} (l : List α) (i : Nat) (d : α) : l.set i (l.getD i d) = l := by
  refine List.ext_getElem? fun k => ?_
  rw [List.getElem?_set]
  split
  · rename_i h; subst h
    split
    · rename_i h2; simp [List.getD_eq_getElem?_getD, h2]
    · rename_i h2; rw [List.getElem?_eq_none (by omega)]
  · rfl
/-- A row takes the members of another one up to a word. -/
def orUpto (A B : List Int) (j : Nat) : List Int := List.zipWith (bOr .u64) (A.take j) (B.take j) ++ A.drop j
theorem orUpto_zero (A B : List Int) : orUpto A B 0 = A := by simp [orUpto]
theorem orUpto_len {A B : List Int} (h : A.length = B.length) (j : Nat) : (orUpto A B j).length = A.length := by simp [orUpto]; omega
theorem orUpto_all {A B : List Int} (h : A.length = B.length) {j : Nat} (hj : A.length ≤ j) : orUpto A B j = List.zipWith (bOr .u64) A B := by
  unfold orUpto; rw [List.take_of_length_le hj, List.take_of_length_le (by omega), List.drop_of_length_le hj]; simp
theorem orUpto_get {A B : List Int} (h : A.length = B.length) {j k : Nat} (hk : j ≤ k) : (orUpto A B j).getD k 0 = A.getD k 0 := by
  unfold orUpto
  by_cases hj : j ≤ A.length
  · have hl : (List.zipWith (bOr .u64) (A.take j) (B.take j)).length = j := by simp; omega
    rw [List.getD_eq_getElem?_getD, List.getElem?_append_right (by omega), hl, List.getElem?_drop, List.getD_eq_getElem?_getD]
    congr 2; omega
  · have hl : (List.zipWith (bOr .u64) (A.take j) (B.take j)).length = A.length := by simp; omega
    rw [List.drop_of_length_le (by omega), List.append_nil, Go.AM.getD_out (by omega), Go.AM.getD_out (by omega)]
theorem orUpto_succ {A B : List Int} (h : A.length = B.length) {j : Nat} (hj : j < A.length) : orUpto A B (j + 1) = (orUpto A B j).set j (bOr .u64 (A.getD j 0) (B.getD j 0)) := by
  unfold orUpto
  have hl : (List.zipWith (bOr .u64) (A.take j) (B.take j)).length = j := by simp; omega
  rw [List.set_append_right _ _ (by omega), hl, Nat.sub_self, List.drop_eq_getElem_cons hj, List.set_cons_zero, List.take_succ_eq_append_getElem hj, List.take_succ_eq_append_getElem (by omega), List.zipWith_append (by simp; omega)]
  simp [List.getD_eq_getElem?_getD, hj, show j < B.length by omega]
theorem merge_p (n : Nat) (t : List (List Bool)) (hs : Sq n t) (hn : n ≤ 512) (i : Nat) (hi : i < n) (b : List Bool) (hb : b.length = n) (g v : Nat) (kc : Option Nat) :
    Upd Tryd.prog 98 [(0, some ⟨g, v, 2, tabO t⟩)] [.agg [.int .i64 n, .sl ⟨0, g, some (i, 1, v)⟩ 0 (wordsN n).toNat kc], .agg (rowB b)] (fun _ => .tup []) (fun k => [(0, some ⟨g, k, 2, tabO (t.set i (List.zipWith (· || ·) (rowT t i) b))⟩)]) := by
  have hrl := hs.rowLen hi
  have hlen := hs.len
  have hts := tabO_set t i
  have htl := tabO_len t
  have hz := zipW_setW bitOp_or (a := rowT t i) (b := b) (by omega)
  generalize ha : rowT t i = a at *
  have hla := setW_len' a
  have hlb := setW_len' b
  have hwn := wordsN_rng (n := (n : Int)) (by omega)
  have hro : ∀ W, rowO (List.zipWith (· || ·) a b) = [.int .i64 n, .osl 1 (words W)] ↔ words (setW (List.zipWith (· || ·) a b) a.length) = words W := fun W => by
    have e : (List.zipWith (· || ·) a b).length = a.length := by simp; omega
    unfold rowO; rw [e, hrl]; simp
  rw [show (a.length : Int) = n by omega] at hla
  rw [show (b.length : Int) = n by omega] at hlb
  generalize hA : setW a a.length = A at *
  generalize hB : setW b b.length = B at *
  have hAB : A.length = B.length := by omega
  have hg0 : (tabO t).getD i [] = [.int .i64 n, .osl 1 (words A)] := by rw [tabO_get (by omega), ha, rowO, hA, hrl]
  have hset : ∀ W, ((tabO t).set i [.int .i64 n, .osl 1 (words W)]).getD i [] = [.int .i64 n, .osl 1 (words W)] := fun W => Go.AM.getD_set_eq (by omega) _ _
  have hfix : (tabO t).set i [.int .i64 n, .osl 1 (words A)] = tabO t := by
    rw [← hg0]; exact set_getD_self _ _ _
  unfold rowB
  rw [hB]
  refine Upd.of_body (rs := []) Tryd.func98 rfl Tryd.ntmps98 rfl (by simp) ?_
  intro k0 k hk0 hk1
  generalize hQr : retQ _ _ _ = Qr
  refine AW.seq fun K1 hK1 => ?_
  -- region 0
  refine AW.regionK 100 (fun _ => none) [2, 3] [0, 102, 103] ?_
  simp only [go_sem, reduceIte, reduceCtorEq, Nat.reduceAdd, Nat.reduceMul, Nat.reduceEqDiff, Nat.reduceLT, Nat.reduceLeDiff, Nat.reduceSub, Nat.reducePow, Nat.reduceBEq, Int.reduceToNat, List.reduceReplicate]
  repeat with_reducible refine cj ?_ ?_
  all_goals try first | omega
  refine hK1 _ _ _ ?_; clear hK1
  refine AW.seq fun K2 hK2 => ?_
  -- region 1
  refine AW.regionK 100 (fun _ => none) [2, 7, 8, 9] [0, 102] ?_
  simp only [go_sem, reduceIte, reduceCtorEq, Nat.reduceAdd, Nat.reduceMul, Nat.reduceEqDiff, Nat.reduceLT, Nat.reduceLeDiff, Nat.reduceSub, Nat.reducePow, Nat.reduceBEq, Int.reduceToNat, List.reduceReplicate]
  repeat with_reducible refine cj ?_ ?_
  all_goals try first | omega
  refine hK2 _ _ _ ?_; clear hK2
  refine AW.block ?_
  -- loop 1
  refine AW.loopE (fun mm ee ss kk => ∃ (j g2 v2 : Nat), B.length - j = mm ∧ ee = [(2, .ptr ⟨102, g2, none⟩ 0 0), (7, .rsl 1 (words B)), (8, .int .i64 B.length), (9, .int .i64 (j : Nat))] ∧ ss = [(0, some ⟨g, v, 2, (tabO t).set i [.int .i64 n, .osl 1 (words (orUpto A B j))]⟩), (102, some ⟨g2, v2, 2, [[.int .i64 n, .sl ⟨0, g, some (i, 1, v)⟩ 0 (wordsN n).toNat kc]]⟩)] ∧ (j ≤ B.length)) ?_ ?_
  · refine ⟨_, 0, ?_, ?_, rfl, ?henv, ?hstore, ?hst⟩
    case henv =>
      repeat' (first | rfl | refine env_cons ?_ ?_ | refine st_cons ?_ ?_ ?_ ?_ | refine int_eq ?_ | refine bool_eq ?_ | refine rsl_eq ?_ | refine osl_eq ?_ | refine sl_eq ?_ ?_ ?_ | refine ptr_eq ?_ ?_ ?_ | refine agg_eq ?_ | refine es_cons ?_ ?_ | refine row_cons ?_ ?_)
      all_goals (first | (simp; done) | omega | (simp; omega))
    case hstore =>
      repeat' (first | rfl | refine env_cons ?_ ?_ | refine st_cons ?_ ?_ ?_ ?_ | refine int_eq ?_ | refine bool_eq ?_ | refine rsl_eq ?_ | refine osl_eq ?_ | refine sl_eq ?_ ?_ ?_ | refine ptr_eq ?_ ?_ ?_ | refine agg_eq ?_ | refine es_cons ?_ ?_ | refine row_cons ?_ ?_)
      all_goals (first | (rw [orUpto_zero, hfix]; done) | (simp; done))
    case hst =>
      first | trivial | omega | (simp; done) | (simp; omega)
  rintro mm ee ss kk ⟨j, g2, v2, rfl, rfl, rfl, hI⟩
  generalize hQl1 : thenQ _ _ = Ql1
  refine AW.seq fun K3 hK3 => ?_
  -- region 2
  refine AW.regionK 100 (fun _ => none) [2, 7, 8, 9, 10] [0, 102] ?_
  simp only [go_sem, reduceIte, reduceCtorEq, Nat.reduceAdd, Nat.reduceMul, Nat.reduceEqDiff, Nat.reduceLT, Nat.reduceLeDiff, Nat.reduceSub, Nat.reducePow, Nat.reduceBEq, Int.reduceToNat, List.reduceReplicate]
  repeat with_reducible refine cj ?_ ?_
  all_goals try first | omega
  refine hK3 _ _ _ ?_; clear hK3
  refine AW.seq fun K4 hK4 => ?_
  -- cond 1
  refine AW.cond rfl (by simp only [go_sem, reduceIte, reduceCtorEq, Nat.reduceAdd, Nat.reduceMul, Nat.reduceEqDiff, Nat.reduceLT, Nat.reduceLeDiff, Nat.reduceSub, Nat.reducePow, Nat.reduceBEq, Int.reduceToNat, List.reduceReplicate]) ?_ ?_
  · intro hb
    try simp only [hB, decide_eq_true_eq, decide_eq_false_iff_not] at hb
    have hgb := words_getD (l := B) (i := j) (by omega)
    have hol := orUpto_len hAB j
    have hgo := words_getD (l := orUpto A B j) (i := j) (by omega)
    rw [orUpto_get hAB (Nat.le_refl _)] at hgo
    have hos := orUpto_succ hAB (j := j) (by omega)
    refine AW.skip ?_
    refine hK4 _ _ _ ?_; clear hK4
    refine AW.seq fun K5 hK5 => ?_
    refine AW.block ?_
    refine AW.seq fun K6 hK6 => ?_
    -- region 3
    refine AW.regionK 100 (fun _ => none) [2, 4, 5, 7, 8, 9] [0, 102] ?_
    simp only [go_sem, reduceIte, reduceCtorEq, Nat.reduceAdd, Nat.reduceMul, Nat.reduceEqDiff, Nat.reduceLT, Nat.reduceLeDiff, Nat.reduceSub, Nat.reducePow, Nat.reduceBEq, Int.reduceToNat, List.reduceReplicate, hgb]
    repeat with_reducible refine cj ?_ ?_
    all_goals try first | omega
    refine hK6 _ _ _ ?_; clear hK6
    -- region 4
    refine AW.regionK 100 (fun _ => none) [2, 7, 8, 9] [0, 102] ?_
    simp only [go_sem, reduceIte, reduceCtorEq, Nat.reduceAdd, Nat.reduceMul, Nat.reduceEqDiff, Nat.reduceLT, Nat.reduceLeDiff, Nat.reduceSub, Nat.reducePow, Nat.reduceBEq, Int.reduceToNat, List.reduceReplicate, hset, hgo, List.set_set]
    repeat with_reducible refine cj ?_ ?_
    all_goals try first | omega
    refine hK5 _ _ _ ?_; clear hK5
    -- region 5
    refine AW.regionK 100 (fun _ => none) [2, 7, 8, 9] [0, 102] ?_
    simp only [go_sem, reduceIte, reduceCtorEq, Nat.reduceAdd, Nat.reduceMul, Nat.reduceEqDiff, Nat.reduceLT, Nat.reduceLeDiff, Nat.reduceSub, Nat.reducePow, Nat.reduceBEq, Int.reduceToNat, List.reduceReplicate]
    repeat with_reducible refine cj ?_ ?_
    all_goals try first | omega
    rw [← hQl1]
    change Exists _
    refine ⟨_, ?hm, j + 1, ?_, ?_, rfl, ?henv, ?hstore, ?hst⟩
    case henv =>
      repeat' (first | rfl | refine env_cons ?_ ?_ | refine st_cons ?_ ?_ ?_ ?_ | refine int_eq ?_ | refine bool_eq ?_ | refine rsl_eq ?_ | refine osl_eq ?_ | refine sl_eq ?_ ?_ ?_ | refine ptr_eq ?_ ?_ ?_ | refine agg_eq ?_ | refine es_cons ?_ ?_ | refine row_cons ?_ ?_)
      all_goals (first | (simp; done) | omega | (simp; omega))
    case hstore =>
      repeat' (first | rfl | refine env_cons ?_ ?_ | refine st_cons ?_ ?_ ?_ ?_ | refine int_eq ?_ | refine bool_eq ?_ | refine rsl_eq ?_ | refine osl_eq ?_ | refine sl_eq ?_ ?_ ?_ | refine ptr_eq ?_ ?_ ?_ | refine agg_eq ?_ | refine es_cons ?_ ?_ | refine row_cons ?_ ?_)
      all_goals (rw [hos])
    case hst =>
      first | trivial | omega | (simp; done) | (simp; omega)
    case hm => omega
  · intro hb
    try simp only [hB, decide_eq_true_eq, decide_eq_false_iff_not] at hb
    have hj : j = B.length := by omega
    subst hj
    have hoa := orUpto_all hAB (j := B.length) (by omega)
    rw [hoa]
    have hfin : (tabO t).set i [.int .i64 n, .osl 1 (words (List.zipWith (bOr .u64) A B))] = tabO (t.set i (List.zipWith (· || ·) a b)) := by
      rw [← hts, (hro (List.zipWith (bOr .u64) A B)).2 (by rw [hz])]
    rw [hfin]
    refine AW.keep [] [0] ?_
    try simp only [go_sem, reduceIte, reduceCtorEq, Nat.reduceAdd, Nat.reduceMul, Nat.reduceEqDiff, Nat.reduceLT, Nat.reduceLeDiff, Nat.reduceSub, Nat.reducePow, Nat.reduceBEq, Int.reduceToNat, List.reduceReplicate]
    refine AW.exit ?_
    rw [← hQl1]
    rw [← hQr]
    simp only [go_sem, reduceIte, reduceCtorEq, Nat.reduceAdd, Nat.reduceMul, Nat.reduceEqDiff, Nat.reduceLT, Nat.reduceLeDiff, Nat.reduceSub, Nat.reducePow, Nat.reduceBEq, Int.reduceToNat, List.reduceReplicate]
    refine ⟨[(0, 0, false)], ?_⟩
    simp only [go_sem, reduceIte, renC_tabO]
theorem merge_s (n : Nat) (t : List (List Bool)) (hs : Sq n t) (hn : n ≤ 512) (i q : Nat) (hi : i < n) (hq : q < n) (g v : Nat) (kc kd : Option Nat) :
    Upd Tryd.prog 98 [(0, some ⟨g, v, 2, tabO t⟩)] [.agg [.int .i64 n, .sl ⟨0, g, some (i, 1, v)⟩ 0 (wordsN n).toNat kc], .agg [.int .i64 n, .sl ⟨0, g, some (q, 1, v)⟩ 0 (wordsN n).toNat kd]] (fun _ => .tup []) (fun k => [(0, some ⟨g, k, 2, tabO (t.set i (List.zipWith (· || ·) (rowT t i) (rowT t q)))⟩)]) := by
  have hrl := hs.rowLen hi
  have hrq := hs.rowLen hq
  have hlen := hs.len
  have hts := tabO_set t i
  have htl := tabO_len t
  have hz := zipW_setW bitOp_or (a := rowT t i) (b := rowT t q) (by omega)
  generalize ha : rowT t i = a at *
  generalize hb' : rowT t q = b at *
  have hla := setW_len' a
  have hlb := setW_len' b
  have hwn := wordsN_rng (n := (n : Int)) (by omega)
  have hro : ∀ W, rowO (List.zipWith (· || ·) a b) = [.int .i64 n, .osl 1 (words W)] ↔ words (setW (List.zipWith (· || ·) a b) a.length) = words W := fun W => by
    have e : (List.zipWith (· || ·) a b).length = a.length := by simp; omega
    unfold rowO; rw [e, hrl]; simp
  have hiq : i = q → a = b := fun e => by rw [← ha, ← hb', e]
  rw [show (a.length : Int) = n by omega] at hla
  rw [show (b.length : Int) = n by omega] at hlb
  have hAB' : a = b → setW a a.length = setW b b.length := fun e => by rw [e]
  have hgq0 : (tabO t).getD q [] = [.int .i64 n, .osl 1 (words (setW b b.length))] := by rw [tabO_get (by omega), hb', rowO, hrq]
  have hg0 : (tabO t).getD i [] = [.int .i64 n, .osl 1 (words (setW a a.length))] := by rw [tabO_get (by omega), ha, rowO, hrl]
  generalize hA : setW a a.length = A at *
  generalize hB : setW b b.length = B at *
  have hAB : A.length = B.length := by omega
  have hset : ∀ W, ((tabO t).set i [.int .i64 n, .osl 1 (words W)]).getD i [] = [.int .i64 n, .osl 1 (words W)] := fun W => Go.AM.getD_set_eq (by omega) _ _
  have hfix : (tabO t).set i [.int .i64 n, .osl 1 (words A)] = tabO t := by
    rw [← hg0]; exact set_getD_self _ _ _
  have hC : ∀ j, j < B.length → ∃ C : List Int, ((tabO t).set i [.int .i64 n, .osl 1 (words (orUpto A B j))]).getD q [] = [.int .i64 n, .osl 1 (words C)] ∧ C.length = B.length ∧ C.getD j 0 = B.getD j 0 := fun j hj => by
    by_cases e : i = q
    · refine ⟨orUpto A B j, by rw [← e]; exact hset _, by rw [orUpto_len hAB]; exact hAB, ?_⟩
      rw [orUpto_get hAB (Nat.le_refl _), hAB' (hiq e)]
    · exact ⟨B, by rw [Go.AM.getD_set_ne e, hgq0], rfl, rfl⟩
  have hgq1 : ((tabO t).set i [.int .i64 n, .osl 1 (words (orUpto A B 0))]).getD q [] = [.int .i64 n, .osl 1 (words B)] := by rw [orUpto_zero, hfix, hgq0]
  refine Upd.of_body (rs := []) Tryd.func98 rfl Tryd.ntmps98 rfl (by simp) ?_
  intro k0 k hk0 hk1
  generalize hQr : retQ _ _ _ = Qr
  refine AW.seq fun K1 hK1 => ?_
  -- region 0
  refine AW.regionK 100 (fun _ => none) [2, 3] [0, 102, 103] ?_
  simp only [go_sem, reduceIte, reduceCtorEq, Nat.reduceAdd, Nat.reduceMul, Nat.reduceEqDiff, Nat.reduceLT, Nat.reduceLeDiff, Nat.reduceSub, Nat.reducePow, Nat.reduceBEq, Int.reduceToNat, List.reduceReplicate]
  repeat with_reducible refine cj ?_ ?_
  all_goals try first | omega
  refine hK1 _ _ _ ?_; clear hK1
  refine AW.seq fun K2 hK2 => ?_
  -- region 1
  refine AW.regionK 100 (fun _ => none) [2, 7, 8, 9] [0, 102] ?_
  simp only [go_sem, reduceIte, reduceCtorEq, Nat.reduceAdd, Nat.reduceMul, Nat.reduceEqDiff, Nat.reduceLT, Nat.reduceLeDiff, Nat.reduceSub, Nat.reducePow, Nat.reduceBEq, Int.reduceToNat, List.reduceReplicate, hgq0]
  repeat with_reducible refine cj ?_ ?_
  all_goals try first | omega
  refine hK2 _ _ _ ?_; clear hK2
  refine AW.block ?_
  -- loop 1
  refine AW.loopE (fun mm ee ss kk => ∃ (j g2 v2 : Nat), B.length - j = mm ∧ ee = [(2, .ptr ⟨102, g2, none⟩ 0 0), (7, .sl ⟨0, g, some (q, 1, v)⟩ 0 (wordsN n).toNat kd), (8, .int .i64 (wordsN n).toNat), (9, .int .i64 (j : Nat))] ∧ ss = [(0, some ⟨g, v, 2, (tabO t).set i [.int .i64 n, .osl 1 (words (orUpto A B j))]⟩), (102, some ⟨g2, v2, 2, [[.int .i64 n, .sl ⟨0, g, some (i, 1, v)⟩ 0 (wordsN n).toNat kc]]⟩)] ∧ (j ≤ B.length)) ?_ ?_
  · refine ⟨_, 0, ?_, ?_, rfl, ?henv, ?hstore, ?hst⟩
    case henv =>
      repeat' (first | rfl | refine env_cons ?_ ?_ | refine st_cons ?_ ?_ ?_ ?_ | refine int_eq ?_ | refine bool_eq ?_ | refine rsl_eq ?_ | refine osl_eq ?_ | refine sl_eq ?_ ?_ ?_ | refine ptr_eq ?_ ?_ ?_ | refine agg_eq ?_ | refine es_cons ?_ ?_ | refine row_cons ?_ ?_)
      all_goals (first | (simp; done) | omega | (simp; omega))
    case hstore =>
      repeat' (first | rfl | refine env_cons ?_ ?_ | refine st_cons ?_ ?_ ?_ ?_ | refine int_eq ?_ | refine bool_eq ?_ | refine rsl_eq ?_ | refine osl_eq ?_ | refine sl_eq ?_ ?_ ?_ | refine ptr_eq ?_ ?_ ?_ | refine agg_eq ?_ | refine es_cons ?_ ?_ | refine row_cons ?_ ?_)
      all_goals (first | (rw [orUpto_zero, hfix]; done) | (simp; done))
    case hst =>
      first | trivial | omega | (simp; done) | (simp; omega)
  rintro mm ee ss kk ⟨j, g2, v2, rfl, rfl, rfl, hI⟩
  generalize hQl1 : thenQ _ _ = Ql1
  refine AW.seq fun K3 hK3 => ?_
  -- region 2
  refine AW.regionK 100 (fun _ => none) [2, 7, 8, 9, 10] [0, 102] ?_
  simp only [go_sem, reduceIte, reduceCtorEq, Nat.reduceAdd, Nat.reduceMul, Nat.reduceEqDiff, Nat.reduceLT, Nat.reduceLeDiff, Nat.reduceSub, Nat.reducePow, Nat.reduceBEq, Int.reduceToNat, List.reduceReplicate]
  repeat with_reducible refine cj ?_ ?_
  all_goals try first | omega
  refine hK3 _ _ _ ?_; clear hK3
  refine AW.seq fun K4 hK4 => ?_
  -- cond 1
  refine AW.cond rfl (by simp only [go_sem, reduceIte, reduceCtorEq, Nat.reduceAdd, Nat.reduceMul, Nat.reduceEqDiff, Nat.reduceLT, Nat.reduceLeDiff, Nat.reduceSub, Nat.reducePow, Nat.reduceBEq, Int.reduceToNat, List.reduceReplicate]) ?_ ?_
  · intro hb
    try simp only [hB, decide_eq_true_eq, decide_eq_false_iff_not] at hb
    obtain ⟨C, hC1, hC2, hC3⟩ := hC j (by omega)
    have hgb := words_getD (l := C) (i := j) (by omega)
    rw [hC3] at hgb
    have hol := orUpto_len hAB j
    have hgo := words_getD (l := orUpto A B j) (i := j) (by omega)
    rw [orUpto_get hAB (Nat.le_refl _)] at hgo
    have hos := orUpto_succ hAB (j := j) (by omega)
    refine AW.skip ?_
    refine hK4 _ _ _ ?_; clear hK4
    refine AW.seq fun K5 hK5 => ?_
    refine AW.block ?_
    refine AW.seq fun K6 hK6 => ?_
    -- region 3
    refine AW.regionK 100 (fun _ => none) [2, 4, 5, 7, 8, 9] [0, 102] ?_
    simp only [go_sem, reduceIte, reduceCtorEq, Nat.reduceAdd, Nat.reduceMul, Nat.reduceEqDiff, Nat.reduceLT, Nat.reduceLeDiff, Nat.reduceSub, Nat.reducePow, Nat.reduceBEq, Int.reduceToNat, List.reduceReplicate, hC1, hgb]
    repeat with_reducible refine cj ?_ ?_
    all_goals try first | omega
    refine hK6 _ _ _ ?_; clear hK6
    -- region 4
    refine AW.regionK 100 (fun _ => none) [2, 7, 8, 9] [0, 102] ?_
    simp only [go_sem, reduceIte, reduceCtorEq, Nat.reduceAdd, Nat.reduceMul, Nat.reduceEqDiff, Nat.reduceLT, Nat.reduceLeDiff, Nat.reduceSub, Nat.reducePow, Nat.reduceBEq, Int.reduceToNat, List.reduceReplicate, hset, hgo, List.set_set]
    repeat with_reducible refine cj ?_ ?_
    all_goals try first | omega
    refine hK5 _ _ _ ?_; clear hK5
    -- region 5
    refine AW.regionK 100 (fun _ => none) [2, 7, 8, 9] [0, 102] ?_
    simp only [go_sem, reduceIte, reduceCtorEq, Nat.reduceAdd, Nat.reduceMul, Nat.reduceEqDiff, Nat.reduceLT, Nat.reduceLeDiff, Nat.reduceSub, Nat.reducePow, Nat.reduceBEq, Int.reduceToNat, List.reduceReplicate]
    repeat with_reducible refine cj ?_ ?_
    all_goals try first | omega
    rw [← hQl1]
    change Exists _
    refine ⟨_, ?hm, j + 1, ?_, ?_, rfl, ?henv, ?hstore, ?hst⟩
    case henv =>
      repeat' (first | rfl | refine env_cons ?_ ?_ | refine st_cons ?_ ?_ ?_ ?_ | refine int_eq ?_ | refine bool_eq ?_ | refine rsl_eq ?_ | refine osl_eq ?_ | refine sl_eq ?_ ?_ ?_ | refine ptr_eq ?_ ?_ ?_ | refine agg_eq ?_ | refine es_cons ?_ ?_ | refine row_cons ?_ ?_)
      all_goals (first | (simp; done) | omega | (simp; omega))
    case hstore =>
      repeat' (first | rfl | refine env_cons ?_ ?_ | refine st_cons ?_ ?_ ?_ ?_ | refine int_eq ?_ | refine bool_eq ?_ | refine rsl_eq ?_ | refine osl_eq ?_ | refine sl_eq ?_ ?_ ?_ | refine ptr_eq ?_ ?_ ?_ | refine agg_eq ?_ | refine es_cons ?_ ?_ | refine row_cons ?_ ?_)
      all_goals (rw [hos])
    case hst =>
      first | trivial | omega | (simp; done) | (simp; omega)
    case hm => omega
  · intro hb
    try simp only [hB, decide_eq_true_eq, decide_eq_false_iff_not] at hb
    have hj : j = B.length := by omega
    subst hj
    have hoa := orUpto_all hAB (j := B.length) (by omega)
    rw [hoa]
    have hfin : (tabO t).set i [.int .i64 n, .osl 1 (words (List.zipWith (bOr .u64) A B))] = tabO (t.set i (List.zipWith (· || ·) a b)) := by
      rw [← hts, (hro (List.zipWith (bOr .u64) A B)).2 (by rw [hz])]
    rw [hfin]
    refine AW.keep [] [0] ?_
    try simp only [go_sem, reduceIte, reduceCtorEq, Nat.reduceAdd, Nat.reduceMul, Nat.reduceEqDiff, Nat.reduceLT, Nat.reduceLeDiff, Nat.reduceSub, Nat.reducePow, Nat.reduceBEq, Int.reduceToNat, List.reduceReplicate]
    refine AW.exit ?_
    rw [← hQl1]
    rw [← hQr]
    simp only [go_sem, reduceIte, reduceCtorEq, Nat.reduceAdd, Nat.reduceMul, Nat.reduceEqDiff, Nat.reduceLT, Nat.reduceLeDiff, Nat.reduceSub, Nat.reducePow, Nat.reduceBEq, Int.reduceToNat, List.reduceReplicate]
    refine ⟨[(0, 0, false)], ?_⟩
    simp only [go_sem, reduceIte, renC_tabO]
theorem rep_succ (n j : Nat) (b : List Bool) : List.replicate (j + 1) b = List.replicate j b ++ [b] := List.replicate_succ'
theorem empty_u (n : Nat) (hn : n ≤ 512) : Upd Tryd.prog 78 [] [.int .i64 n] (fun k => .agg [.sl ⟨0, k, none⟩ 0 n none]) (fun k => [(0, some ⟨k, k, 2, tabO (List.replicate n (List.replicate n false))⟩)]) := by
  have hwn := wordsN_rng (n := (n : Int)) (by omega)
  have hrw := rwords_r n (by omega) (by omega)
  have hro : rowO (List.replicate n false) = [.int .i64 n, .osl 1 (words (List.replicate (wordsN n).toNat 0))] := by unfold rowO; simp only [List.length_replicate]; rw [setW_zero]
  have hwz : words (List.replicate (wordsN n).toNat 0) = List.replicate (wordsN n).toNat [.int .u64 0] := by simp [words]
  refine Upd.of_body (rs := [.cell 2 24]) Tryd.func78 rfl Tryd.ntmps78 rfl (by simp) ?_
  intro k0 k hk0 hk1
  generalize hQr : retQ _ _ _ = Qr
  refine AW.seq fun K1 hK1 => ?_
  -- region 0
  refine AW.regionK 100 (fun _ => none) [0, 2] [102] ?_
  simp only [go_sem, reduceIte, reduceCtorEq, Nat.reduceAdd, Nat.reduceMul, Nat.reduceEqDiff, Nat.reduceLT, Nat.reduceLeDiff, Nat.reduceSub, Nat.reducePow, Nat.reduceBEq, Int.reduceToNat, List.reduceReplicate]
  repeat with_reducible refine cj ?_ ?_
  all_goals try first | omega
  refine hK1 _ _ _ ?_; clear hK1
  refine AW.seq fun K2 hK2 => ?_
  -- region 1
  refine AW.regionK 100 (fun _ => none) [0, 2, 3] [102, 103] ?_
  simp only [go_sem, reduceIte, reduceCtorEq, Nat.reduceAdd, Nat.reduceMul, Nat.reduceEqDiff, Nat.reduceLT, Nat.reduceLeDiff, Nat.reduceSub, Nat.reducePow, Nat.reduceBEq, Int.reduceToNat, List.reduceReplicate]
  repeat with_reducible refine cj ?_ ?_
  all_goals try first | omega
  refine hK2 _ _ _ ?_; clear hK2
  refine AW.seq fun K3 hK3 => ?_
  refine AW.seq fun K4 hK4 => ?_
  -- region 2
  refine AW.regionK 100 (fun _ => none) [0, 2, 3, 4, 5] [102, 103] ?_
  simp only [go_sem, reduceIte, reduceCtorEq, Nat.reduceAdd, Nat.reduceMul, Nat.reduceEqDiff, Nat.reduceLT, Nat.reduceLeDiff, Nat.reduceSub, Nat.reducePow, Nat.reduceBEq, Int.reduceToNat, List.reduceReplicate]
  repeat with_reducible refine cj ?_ ?_
  all_goals try first | omega
  refine hK4 _ _ _ ?_; clear hK4
  refine AW.block ?_
  refine AW.nilCellK 103 0 0 200 2 ?_
  simp only [go_sem, reduceIte, Nat.reduceEqDiff]
  repeat refine cj ?_ ?_
  rotate_left
  · decide
  · decide
  · decide
  refine AW.keep [0, 2, 3, 4, 5] [102, 103, 200] ?_
  simp only [go_sem, reduceIte, Nat.reduceEqDiff]
  -- loop 1
  refine AW.loopE (fun mm ee ss kk => ∃ (j g2 v2 g3 v3 g v : Nat), n - j = mm ∧ ee = [(0, .int .i64 n), (2, .ptr ⟨102, g2, none⟩ 0 0), (3, .ptr ⟨103, g3, none⟩ 0 0), (4, .int .i64 n), (5, .int .i64 (j : Nat))] ∧ ss = [(102, some ⟨g2, v2, 1, [[.nilsl]]⟩), (103, some ⟨g3, v3, 1, [[.sl ⟨200, g, none⟩ 0 j none]]⟩), (200, some ⟨g, v, 2, tabO (List.replicate j (List.replicate n false))⟩)] ∧ (j ≤ n)) ?_ ?_
  · refine ⟨_, 0, ?_, ?_, ?_, ?_, ?_, ?_, rfl, ?henv, ?hstore, ?hst⟩
    case henv =>
      repeat' (first | rfl | refine env_cons ?_ ?_ | refine st_cons ?_ ?_ ?_ ?_ | refine int_eq ?_ | refine bool_eq ?_ | refine rsl_eq ?_ | refine osl_eq ?_ | refine sl_eq ?_ ?_ ?_ | refine ptr_eq ?_ ?_ ?_ | refine agg_eq ?_ | refine es_cons ?_ ?_ | refine row_cons ?_ ?_)
      all_goals (first | (simp; done) | omega | (simp; omega))
    case hstore =>
      repeat' (first | rfl | refine env_cons ?_ ?_ | refine st_cons ?_ ?_ ?_ ?_ | refine int_eq ?_ | refine bool_eq ?_ | refine rsl_eq ?_ | refine osl_eq ?_ | refine sl_eq ?_ ?_ ?_ | refine ptr_eq ?_ ?_ ?_ | refine agg_eq ?_ | refine es_cons ?_ ?_ | refine row_cons ?_ ?_)
      all_goals (first | (simp; done) | omega | (simp; omega))
    case hst =>
      first | trivial | omega | (simp; done) | (simp; omega)
  rintro mm ee ss kk ⟨j, g2, v2, g3, v3, g, v, rfl, rfl, rfl, hI⟩
  generalize hQl1 : thenQ _ _ = Ql1
  refine AW.seq fun K5 hK5 => ?_
  -- region 3
  refine AW.regionK 100 (fun _ => none) [0, 2, 3, 4, 5, 6] [102, 103, 200] ?_
  simp only [go_sem, reduceIte, reduceCtorEq, Nat.reduceAdd, Nat.reduceMul, Nat.reduceEqDiff, Nat.reduceLT, Nat.reduceLeDiff, Nat.reduceSub, Nat.reducePow, Nat.reduceBEq, Int.reduceToNat, List.reduceReplicate]
  repeat with_reducible refine cj ?_ ?_
  all_goals try first | omega
  refine hK5 _ _ _ ?_; clear hK5
  refine AW.seq fun K6 hK6 => ?_
  -- cond 1
  refine AW.cond rfl (by simp only [go_sem, reduceIte, reduceCtorEq, Nat.reduceAdd, Nat.reduceMul, Nat.reduceEqDiff, Nat.reduceLT, Nat.reduceLeDiff, Nat.reduceSub, Nat.reducePow, Nat.reduceBEq, Int.reduceToNat, List.reduceReplicate]) ?_ ?_
  · intro hb
    try simp only [hB, decide_eq_true_eq, decide_eq_false_iff_not] at hb
    have htl : (List.replicate j (List.replicate n false)).length = j := by simp
    have htk : (tabO (List.replicate j (List.replicate n false))).take j = tabO (List.replicate j (List.replicate n false)) := List.take_of_length_le (by rw [tabO_len, htl]; exact Nat.le_refl _)
    have hgl : ∀ x : List AV, (tabO (List.replicate j (List.replicate n false)) ++ [x]).getD j [] = x := fun x => by rw [List.getD_eq_getElem?_getD, List.getElem?_append_right (by rw [tabO_len, htl]; exact Nat.le_refl _), tabO_len, htl]; simp
    have hsl : ∀ x y : List AV, (tabO (List.replicate j (List.replicate n false)) ++ [x]).set j y = tabO (List.replicate j (List.replicate n false)) ++ [y] := fun x y => by rw [List.set_append_right _ _ (by rw [tabO_len, htl]; exact Nat.le_refl _), tabO_len, htl]; simp
    have hll : ∀ x : List AV, (tabO (List.replicate j (List.replicate n false)) ++ [x]).length = j + 1 := fun x => by simp [tabO_len]
    have hrs := rep_succ n j (List.replicate n false)
    have hta := tabO_app (List.replicate j (List.replicate n false)) (List.replicate n false)
    rw [hro, ← hrs] at hta
    refine AW.skip ?_
    refine hK6 _ _ _ ?_; clear hK6
    refine AW.seq fun K7 hK7 => ?_
    refine AW.block ?_
    -- region 4
    refine AW.regionD mixed 100 (fun ii => if ii = 4 then some (.reads false (.int .i64 (wordsN n))) else none) [0, 2, 3, 4, 5] [102, 103, 112, 200] ?_
    simp only [go_sem, reduceIte, reduceCtorEq, Nat.reduceAdd, Nat.reduceMul, Nat.reduceEqDiff, Nat.reduceLT, Nat.reduceLeDiff, Nat.reduceSub, Nat.reducePow, Nat.reduceBEq, Int.reduceToNat, List.reduceReplicate, htk, tabO_len, htl]
    repeat with_reducible refine cj ?_ ?_
    all_goals try first | (exact hrw) | omega | exact chk (by kernel_rfl) | exact ent (by kernel_rfl) | (simp [scP, scalar]; done) | exact scP_words _ | exact scP_ints _ | exact scP_bools _
    refine hK7 _ _ _ ?_; clear hK7
    refine AW.adoptK 200 j 1 112 ?_
    simp only [go_sem, reduceIte, Nat.reduceEqDiff, hgl, hsl, hll]
    refine ⟨by decide, ?_, ?_⟩
    · rw [← hwz]; exact noOsl_words _
    refine AW.keep [0, 2, 3, 4, 5] [102, 103, 200] ?_
    simp only [go_sem, reduceIte, Nat.reduceEqDiff]
    rw [← hwz, hta]
    -- region 5
    refine AW.regionK 100 (fun _ => none) [0, 2, 3, 4, 5] [102, 103, 200] ?_
    simp only [go_sem, reduceIte, reduceCtorEq, Nat.reduceAdd, Nat.reduceMul, Nat.reduceEqDiff, Nat.reduceLT, Nat.reduceLeDiff, Nat.reduceSub, Nat.reducePow, Nat.reduceBEq, Int.reduceToNat, List.reduceReplicate]
    repeat with_reducible refine cj ?_ ?_
    all_goals try first | omega
    rw [← hQl1]
    change Exists _
    refine ⟨_, ?hm, j + 1, ?_, ?_, ?_, ?_, ?_, ?_, rfl, ?henv, ?hstore, ?hst⟩
    case henv =>
      repeat' (first | rfl | refine env_cons ?_ ?_ | refine st_cons ?_ ?_ ?_ ?_ | refine int_eq ?_ | refine bool_eq ?_ | refine rsl_eq ?_ | refine osl_eq ?_ | refine sl_eq ?_ ?_ ?_ | refine ptr_eq ?_ ?_ ?_ | refine agg_eq ?_ | refine es_cons ?_ ?_ | refine row_cons ?_ ?_)
      all_goals (first | (simp; done) | omega | (simp; omega))
    case hstore =>
      repeat' (first | rfl | refine env_cons ?_ ?_ | refine st_cons ?_ ?_ ?_ ?_ | refine int_eq ?_ | refine bool_eq ?_ | refine rsl_eq ?_ | refine osl_eq ?_ | refine sl_eq ?_ ?_ ?_ | refine ptr_eq ?_ ?_ ?_ | refine agg_eq ?_ | refine es_cons ?_ ?_ | refine row_cons ?_ ?_)
      all_goals (first | (simp; done) | omega | (simp; omega))
    case hst =>
      first | trivial | omega | (simp; done) | (simp; omega)
    case hm => omega
  · intro hb
    try simp only [hB, decide_eq_true_eq, decide_eq_false_iff_not] at hb
    refine AW.keep [2, 3] [102, 103, 112, 115, 200] ?_
    try simp only [go_sem, reduceIte, reduceCtorEq, Nat.reduceAdd, Nat.reduceMul, Nat.reduceEqDiff, Nat.reduceLT, Nat.reduceLeDiff, Nat.reduceSub, Nat.reducePow, Nat.reduceBEq, Int.reduceToNat, List.reduceReplicate]
    refine AW.exit ?_
    rw [← hQl1]
    refine hK3 _ _ _ ?_; clear hK3
    refine AW.seq fun K8 hK8 => ?_
    -- region 6
    refine AW.regionK 100 (fun _ => none) [2] [102, 200] ?_
    simp only [go_sem, reduceIte, reduceCtorEq, Nat.reduceAdd, Nat.reduceMul, Nat.reduceEqDiff, Nat.reduceLT, Nat.reduceLeDiff, Nat.reduceSub, Nat.reducePow, Nat.reduceBEq, Int.reduceToNat, List.reduceReplicate]
    repeat with_reducible refine cj ?_ ?_
    all_goals try first | omega
    refine hK8 _ _ _ ?_; clear hK8
    refine AW.ret ?_
    rw [← hQr]
    simp only [go_sem, reduceIte, reduceCtorEq, Nat.reduceAdd, Nat.reduceMul, Nat.reduceEqDiff, Nat.reduceLT, Nat.reduceLeDiff, Nat.reduceSub, Nat.reducePow, Nat.reduceBEq, Int.reduceToNat, List.reduceReplicate]
    have hj : j = n := by omega
    subst hj
    refine ⟨[(200, 0, true)], ?_⟩
    simp only [go_sem, reduceIte, Nat.reduceEqDiff, renC_tabO]
end Go.Proofs.P

/- What the relation program computes, over tables. -/
namespace Go.AM
def iter {α : Type} (f : Nat → α → α) : Nat → α → α
  | 0, x => x
  | m + 1, x => f m (iter f m x)
theorem iter_succ {α : Type} (f : Nat → α → α) (m : Nat) (x : α) : iter f (m + 1) x = f m (iter f m x) := rfl
theorem iter_inv {α : Type} {f : Nat → α → α} {p : α → Prop} {n : Nat} (hf : ∀ i x, i < n → p x → p (f i x)) : ∀ m x, m ≤ n → p x → p (iter f m x)
  | 0, _, _, h => h
  | m + 1, x, hm, h => hf m _ (by omega) (iter_inv hf m x (by omega) h)
def orRow (t : List (List Bool)) (i : Nat) (b : List Bool) : List (List Bool) := t.set i (List.zipWith (· || ·) (rowT t i) b)
theorem Sq.orRow {n : Nat} {t : List (List Bool)} (h : Sq n t) {i : Nat} (hi : i < n) {b : List Bool} (hb : b.length = n) : Sq n (orRow t i b) :=
  h.set i (by have := h.rowLen hi; simp; omega)
def warshI (k i : Nat) (t : List (List Bool)) : List (List Bool) := if atT t i k then orRow t i (rowT t k) else t
theorem warshI_eq (k i : Nat) (t : List (List Bool)) : warshI k i t = if atT t i k then orRow t i (rowT t k) else t := rfl
theorem Sq.warshI {n : Nat} {t : List (List Bool)} (h : Sq n t) {k i : Nat} (hk : k < n) (hi : i < n) : Sq n (warshI k i t) := by
  unfold AM.warshI; split
  · exact h.orRow hi (h.rowLen hk)
  · exact h
def warshK (n k : Nat) (t : List (List Bool)) : List (List Bool) := iter (warshI k) n t
theorem Sq.warshK' {n : Nat} {t : List (List Bool)} (h : Sq n t) {k : Nat} (hk : k < n) {m : Nat} (hm : m ≤ n) : Sq n (iter (AM.warshI k) m t) := iter_inv (n := n) (fun i x hi hx => hx.warshI hk hi) m t hm h
theorem Sq.warshK {n : Nat} {t : List (List Bool)} (h : Sq n t) {k : Nat} (hk : k < n) : Sq n (warshK n k t) := h.warshK' hk (Nat.le_refl _)
def warsh (n : Nat) (t : List (List Bool)) : List (List Bool) := iter (warshK n) n t
theorem Sq.warsh' {n : Nat} {t : List (List Bool)} (h : Sq n t) {m : Nat} (hm : m ≤ n) : Sq n (iter (AM.warshK n) m t) := iter_inv (n := n) (fun i x hi hx => hx.warshK hi) m t hm h
theorem Sq.warsh {n : Nat} {t : List (List Bool)} (h : Sq n t) : Sq n (warsh n t) := h.warsh' (Nat.le_refl _)
def zeroT (n : Nat) : List (List Bool) := List.replicate n (List.replicate n false)
def compI (a b : List (List Bool)) (i k : Nat) (t : List (List Bool)) : List (List Bool) := if atT a i k then orRow t i (rowT b k) else t
def compT (n : Nat) (a b : List (List Bool)) : List (List Bool) := iter (fun i t => iter (compI a b i) n t) n (zeroT n)
theorem compI_eq (a b : List (List Bool)) (i k : Nat) (t : List (List Bool)) : compI a b i k t = if atT a i k then orRow t i (rowT b k) else t := rfl
theorem Sq.compI {n : Nat} {a b t : List (List Bool)} (hb : Sq n b) (h : Sq n t) {i k : Nat} (hi : i < n) (hk : k < n) : Sq n (compI a b i k t) := by
  unfold AM.compI; split
  · exact h.orRow hi (hb.rowLen hk)
  · exact h
theorem Sq.compK {n : Nat} {a b t : List (List Bool)} (hb : Sq n b) (h : Sq n t) {i : Nat} (hi : i < n) {m : Nat} (hm : m ≤ n) : Sq n (iter (AM.compI a b i) m t) := iter_inv (p := Sq n) (n := n) (fun k x hk hx => Sq.compI hb hx hi hk) m t hm h
theorem Sq.comp' {n : Nat} {a b : List (List Bool)} (hb : Sq n b) {m : Nat} (hm : m ≤ n) : Sq n (iter (fun i t => iter (AM.compI a b i) n t) m (zeroT n)) := iter_inv (p := Sq n) (n := n) (fun i x hi hx => Sq.compK hb hx hi (Nat.le_refl _)) m _ hm (Sq.rep n)
theorem Sq.comp {n : Nat} {a b : List (List Bool)} (hb : Sq n b) : Sq n (compT n a b) := Sq.comp' hb (Nat.le_refl _)
def rowPairs (t : List (List Bool)) (i m : Nat) : List (Int × Int) := ((List.range m).filter fun j => atT t i j).map fun (j : Nat) => ((i : Int), (j : Int))
theorem rowPairs_succ (t : List (List Bool)) (i m : Nat) : rowPairs t i (m + 1) = if atT t i m then rowPairs t i m ++ [((i : Int), (m : Int))] else rowPairs t i m := by
  unfold rowPairs
  rw [List.range_succ, List.filter_append, List.map_append]
  by_cases h : atT t i m = true
  · rw [if_pos h]; simp [List.filter_cons, h]
  · rw [if_neg h]; simp [List.filter_cons, h]
theorem rowPairs_le (t : List (List Bool)) (i m : Nat) : (rowPairs t i m).length ≤ m := by
  unfold rowPairs
  have := List.length_filter_le (fun j => atT t i j) (List.range m)
  simp at this ⊢; exact this
def pairsAt (t : List (List Bool)) (n i : Nat) : List (Int × Int) := (List.range i).flatMap fun i => rowPairs t i n
def pairsT (t : List (List Bool)) (n : Nat) : List (Int × Int) := pairsAt t n n
theorem pairsAt_succ (t : List (List Bool)) (n i : Nat) : pairsAt t n (i + 1) = pairsAt t n i ++ rowPairs t i n := by
  unfold pairsAt; rw [List.range_succ, List.flatMap_append]; simp
theorem pairsAt_le (t : List (List Bool)) (n : Nat) : ∀ i, (pairsAt t n i).length ≤ n * i
  | 0 => by simp [pairsAt]
  | i + 1 => by
    have ih := pairsAt_le t n i
    have := rowPairs_le t i n
    rw [pairsAt_succ, List.length_append, Nat.mul_add]; omega
theorem pairsT_mem {t : List (List Bool)} {n : Nat} {p : Int × Int} : p ∈ pairsT t n ↔ ∃ i j : Nat, p = ((i : Int), (j : Int)) ∧ i < n ∧ j < n ∧ atT t i j = true := by
  simp only [pairsT, pairsAt, rowPairs, List.mem_flatMap, List.mem_map, List.mem_filter, List.mem_range]
  constructor
  · rintro ⟨i, hi, j, ⟨hj, h⟩, rfl⟩; exact ⟨i, j, rfl, hi, hj, h⟩
  · rintro ⟨i, j, rfl, hi, hj, h⟩; exact ⟨i, hi, j, ⟨hj, h⟩, rfl⟩
theorem pairs_app (l : List (Int × Int)) (a b : Int) : l.map pairV ++ [[.int .i64 a, .int .i64 b]] = (l ++ [(a, b)]).map pairV := by simp [pairV]
/-- A table half copied. -/
def fillT (t : List (List Bool)) (n i : Nat) : List (List Bool) := t.take i ++ List.replicate (n - i) (List.replicate n false)
theorem fillT_zero (t : List (List Bool)) (n : Nat) : fillT t n 0 = zeroT n := by simp [fillT, zeroT]
theorem fillT_all {n : Nat} {t : List (List Bool)} (h : Sq n t) : fillT t n n = t := by
  unfold fillT; rw [List.take_of_length_le (by rw [h.len]; exact Nat.le_refl _)]; simp
theorem fillT_succ {n : Nat} {t : List (List Bool)} (h : Sq n t) {i : Nat} (hi : i < n) : (fillT t n i).set i (rowT t i) = fillT t n (i + 1) := by
  unfold fillT
  have hl : (t.take i).length = i := by have := h.len; simp; omega
  rw [List.set_append_right _ _ (by omega), hl, Nat.sub_self, show n - i = (n - (i + 1)) + 1 by omega, List.replicate_succ, List.set_cons_zero, List.take_succ_eq_append_getElem (i := i) (by rw [h.len]; exact hi)]
  have : rowT t i = t[i]'(by rw [h.len]; exact hi) := rowT_of (List.getElem?_eq_getElem _)
  rw [this, List.append_assoc]; rfl
theorem fillT_sq {n : Nat} {t : List (List Bool)} (h : Sq n t) {i : Nat} (hi : i ≤ n) : Sq n (fillT t n i) := by
  refine ⟨by have := h.len; simp [fillT]; omega, fun b hb => ?_⟩
  unfold fillT at hb
  rcases List.mem_append.1 hb with hb | hb
  · exact h.row b (List.mem_of_mem_take hb)
  · rw [List.eq_of_mem_replicate hb]; simp
theorem fillT_row {n : Nat} {t : List (List Bool)} (h : Sq n t) {i : Nat} (hi : i < n) : rowT (fillT t n i) i = List.replicate n false := by
  unfold rowT fillT
  have hl : (t.take i).length = i := by have := h.len; simp; omega
  rw [List.getD_eq_getElem?_getD, List.getElem?_append_right (by omega), hl, Nat.sub_self, List.getElem?_replicate, if_pos (by omega)]; rfl
theorem range_all_succ {p : Nat → Bool} (j : Nat) : (List.range (j + 1)).all p = ((List.range j).all p && p j) := by
  rw [List.range_succ, List.all_append]; simp
theorem range_all_false {p : Nat → Bool} {j m : Nat} (h : j < m) (hp : p j = false) : (List.range m).all p = false := by
  rw [List.all_eq_false]; exact ⟨j, List.mem_range.2 h, by simp [hp]⟩
def acyc (n : Nat) (t : List (List Bool)) : Bool := (List.range n).all fun i => !atT (warsh n t) i i
def putT (u : List (List Bool)) (i j : Nat) : List (List Bool) := u.set i ((rowT u i).set j true)
theorem Sq.putT {n : Nat} {u : List (List Bool)} (h : Sq n u) {i : Nat} (hi : i < n) (j : Nat) : Sq n (putT u i j) := h.set i (by have := h.rowLen hi; simp; exact this)
theorem atT_putT {n : Nat} {u : List (List Bool)} (h : Sq n u) {i j : Nat} (hi : i < n) (hj : j < n) (a b : Nat) : atT (putT u i j) a b = (decide (i = a ∧ j = b) || atT u a b) := by
  unfold atT AM.putT
  rw [rowT_set]
  have hl := h.len
  by_cases e : i = a
  · subst e
    rw [if_pos ⟨rfl, by omega⟩, getD_setB]
    have hr := h.rowLen hi
    by_cases e2 : j = b
    · subst e2; rw [if_pos ⟨rfl, by omega⟩]; simp
    · rw [if_neg (by rintro ⟨x, _⟩; exact e2 x)]; simp [e2]
  · rw [if_neg (by rintro ⟨x, _⟩; exact e x)]; simp [e]
def putL (u : List (List Bool)) (L : List (Int × Int)) : List (List Bool) := L.foldl (fun u p => putT u p.1.toNat p.2.toNat) u
def inP (n : Nat) (p : Int × Int) : Prop := 0 ≤ p.1 ∧ p.1 < n ∧ 0 ≤ p.2 ∧ p.2 < n
theorem Sq.putL {n : Nat} : ∀ (L : List (Int × Int)) {u : List (List Bool)}, Sq n u → (∀ p ∈ L, inP n p) → Sq n (putL u L)
  | [], _, h, _ => h
  | p :: L, u, h, hp => by
    have h1 := hp p (by simp)
    exact Sq.putL L (h.putT (i := p.1.toNat) (by unfold inP at h1; omega) _) fun q hq => hp q (by simp [hq])
theorem putL_snoc (u : List (List Bool)) (L : List (Int × Int)) (p : Int × Int) : putL u (L ++ [p]) = putT (putL u L) p.1.toNat p.2.toNat := by simp [putL]
theorem putL_take {u : List (List Bool)} {L : List (Int × Int)} {j : Nat} {p : Int × Int} (h : L[j]? = some p) : putL u (L.take (j + 1)) = putT (putL u (L.take j)) p.1.toNat p.2.toNat := by
  obtain ⟨hj, rfl⟩ := List.getElem?_eq_some_iff.1 h
  rw [List.take_succ_eq_append_getElem hj, putL_snoc]
theorem atT_putL {n : Nat} (a b : Nat) : ∀ (L : List (Int × Int)) {u : List (List Bool)}, Sq n u → (∀ p ∈ L, inP n p) → atT (putL u L) a b = (atT u a b || decide (((a : Int), (b : Int)) ∈ L))
  | [], _, _, _ => by simp [putL]
  | p :: L, u, h, hp => by
    have h1 := hp p (by simp)
    unfold inP at h1
    have := atT_putL a b L (h.putT (i := p.1.toNat) (by omega) p.2.toNat) fun q hq => hp q (by simp [hq])
    show atT (putL (putT u p.1.toNat p.2.toNat) L) a b = _
    rw [this, atT_putT h (by omega) (by omega)]
    obtain ⟨x, y⟩ := p
    simp only at h1 ⊢
    by_cases e : x.toNat = a ∧ y.toNat = b
    · have e2 : ((a : Int), (b : Int)) = (x, y) := by simp; omega
      simp [e, e2]
    · have e2 : ¬ ((a : Int), (b : Int)) = (x, y) := by simp; omega
      simp [e, e2]
def swapP (p : Int × Int) : Int × Int := (p.2, p.1)
theorem pairsT_in {t : List (List Bool)} {n : Nat} : ∀ p ∈ pairsT t n, inP n p := fun p hp => by
  obtain ⟨i, j, rfl, h1, h2, _⟩ := pairsT_mem.1 hp
  unfold inP; simp only; omega
def invT (n : Nat) (t : List (List Bool)) : List (List Bool) := putL (zeroT n) ((pairsT t n).map swapP)
theorem swap_in {n : Nat} {L : List (Int × Int)} (h : ∀ p ∈ L, inP n p) : ∀ p ∈ L.map swapP, inP n p := fun p hp => by
  obtain ⟨q, hq, rfl⟩ := List.mem_map.1 hp
  have := h q hq
  unfold inP swapP at *; simp only; omega
theorem Sq.inv {n : Nat} {t : List (List Bool)} : Sq n (invT n t) := Sq.putL _ (Sq.rep n) (swap_in pairsT_in)
theorem atT_inv {n : Nat} {t : List (List Bool)} {i j : Nat} (hi : i < n) (hj : j < n) : atT (invT n t) i j = atT t j i := by
  unfold invT
  rw [atT_putL (n := n) (u := zeroT n) i j _ (Sq.rep n) (swap_in pairsT_in)]
  have e : atT (zeroT n) i j = false := atT_rep n i j
  rw [e, Bool.false_or]
  cases h : atT t j i with
  | true =>
    rw [decide_eq_true_eq]
    exact List.mem_map.2 ⟨((j : Int), (i : Int)), pairsT_mem.2 ⟨j, i, rfl, hj, hi, h⟩, rfl⟩
  | false =>
    rw [decide_eq_false_iff_not]
    intro hm
    obtain ⟨q, hq, he⟩ := List.mem_map.1 hm
    obtain ⟨a, b, rfl, _, _, h2⟩ := pairsT_mem.1 hq
    simp only [swapP, Prod.mk.injEq] at he
    have : a = j ∧ b = i := by omega
    rw [this.1, this.2, h] at h2; cases h2
/-- Words that are made one after the other. -/
def mixW (f : Int → Int → Int) (A B Z : List Int) (k : Nat) : List Int := List.zipWith f (A.take k) (B.take k) ++ Z.drop k
theorem mixW_zero (f : Int → Int → Int) (A B Z : List Int) : mixW f A B Z 0 = Z := by simp [mixW]
theorem mixW_len {f : Int → Int → Int} {A B Z : List Int} (h : A.length = B.length) (h2 : Z.length = A.length) (k : Nat) : (mixW f A B Z k).length = A.length := by simp [mixW]; omega
theorem mixW_all {f : Int → Int → Int} {A B Z : List Int} (h : A.length = B.length) (h2 : Z.length = A.length) {k : Nat} (hk : A.length ≤ k) : mixW f A B Z k = List.zipWith f A B := by
  unfold mixW; rw [List.take_of_length_le hk, List.take_of_length_le (by omega), List.drop_of_length_le (by omega)]; simp
theorem mixW_succ {f : Int → Int → Int} {A B Z : List Int} (h : A.length = B.length) (h2 : Z.length = A.length) {j : Nat} (hj : j < A.length) : mixW f A B Z (j + 1) = (mixW f A B Z j).set j (f (A.getD j 0) (B.getD j 0)) := by
  unfold mixW
  have hl : (List.zipWith f (A.take j) (B.take j)).length = j := by simp; omega
  rw [List.set_append_right _ _ (Nat.le_of_eq hl), hl, Nat.sub_self, List.drop_eq_getElem_cons (show j < Z.length by omega), List.set_cons_zero, List.take_succ_eq_append_getElem hj, List.take_succ_eq_append_getElem (show j < B.length by omega), List.zipWith_append (by simp; omega)]
  simp [List.getD_eq_getElem?_getD, hj, show j < B.length by omega]
def andNotB (a b : List Bool) : List Bool := List.zipWith (fun x y => x && !y) a b
def redT (n : Nat) (t l : List (List Bool)) : List (List Bool) := (List.range n).map fun i => andNotB (rowT t i) (rowT l i)
theorem Sq.red {n : Nat} {t l : List (List Bool)} (ht : Sq n t) (hl : Sq n l) : Sq n (redT n t l) := by
  refine ⟨by simp [redT], fun b hb => ?_⟩
  simp only [redT, List.mem_map, List.mem_range] at hb
  obtain ⟨i, hi, rfl⟩ := hb
  have h1 := ht.rowLen hi
  have h2 := hl.rowLen hi
  simp [andNotB]; omega
theorem redT_row {n : Nat} {t l : List (List Bool)} {i : Nat} (hi : i < n) : rowT (redT n t l) i = andNotB (rowT t i) (rowT l i) := rowT_of (by simp [redT, hi])
end Go.AM

namespace Go.Proofs.P
open Go.AM Go
set_option maxRecDepth 100000
set_option maxHeartbeats 1000000
theorem all_r (n : Nat) (t : List (List Bool)) (hs : Sq n t) (hn : n ≤ 512) : Reads Tryd.prog 82 true [relB t] (.rsl 2 ((pairsT t n).map pairV)) := by
  have hlen := hs.len
  have htl := tabR_len t
  have hh := fun i j hi hj => rhas_r n t hs hn i j hi hj
  unfold relB at *
  refine Reads.bodyF (rs := [.tmp 2]) Tryd.func82 rfl Tryd.ntmps82 rfl (by simp) ?_
  generalize hQr : retQ _ _ _ = Qr
  refine AW.seq fun K1 hK1 => ?_
  -- region 0
  refine AW.regionK 0 (fun _ => none) [1] [1] ?_
  simp only [go_sem, reduceIte, reduceCtorEq, Nat.reduceAdd, Nat.reduceMul, Nat.reduceEqDiff, Nat.reduceLT, Nat.reduceLeDiff, Nat.reduceSub, Nat.reducePow, Nat.reduceBEq, Int.reduceToNat, List.reduceReplicate, htl, hlen]
  repeat with_reducible refine cj ?_ ?_
  all_goals try first | omega
  refine hK1 _ _ _ ?_; clear hK1
  refine AW.seq fun K2 hK2 => ?_
  -- region 1
  refine AW.regionK 0 (fun _ => none) [1, 3] [1] ?_
  simp only [go_sem, reduceIte, reduceCtorEq, Nat.reduceAdd, Nat.reduceMul, Nat.reduceEqDiff, Nat.reduceLT, Nat.reduceLeDiff, Nat.reduceSub, Nat.reducePow, Nat.reduceBEq, Int.reduceToNat, List.reduceReplicate, htl, hlen]
  repeat with_reducible refine cj ?_ ?_
  all_goals try first | omega
  refine hK2 _ _ _ ?_; clear hK2
  refine AW.seq fun K3 hK3 => ?_
  refine AW.seq fun K4 hK4 => ?_
  -- region 2
  refine AW.regionK 0 (fun _ => none) [1, 3, 8, 9] [1] ?_
  simp only [go_sem, reduceIte, reduceCtorEq, Nat.reduceAdd, Nat.reduceMul, Nat.reduceEqDiff, Nat.reduceLT, Nat.reduceLeDiff, Nat.reduceSub, Nat.reducePow, Nat.reduceBEq, Int.reduceToNat, List.reduceReplicate, htl, hlen]
  repeat with_reducible refine cj ?_ ?_
  all_goals try first | omega
  refine hK4 _ _ _ ?_; clear hK4
  refine AW.block ?_
  refine AW.nilOwn 3 200 2 (by simp only [go_sem, reduceIte, Nat.reduceEqDiff]) ?_
  refine AW.keep [1, 3, 8, 9] [1, 200] ?_
  simp only [go_sem, reduceIte, Nat.reduceEqDiff]
  -- loop 1
  refine AW.loopE (fun mm ee ss kk => ∃ (i g1 v1 g v : Nat), n - i = mm ∧ ee = [(1, .ptr ⟨1, g1, none⟩ 0 0), (3, .sl ⟨200, g, none⟩ 0 (pairsAt t n i).length none), (8, .int .i64 n), (9, .int .i64 (i : Nat))] ∧ ss = [(1, some ⟨g1, v1, 1, [[.rsl 2 (tabR t)]]⟩), (200, some ⟨g, v, 2, (pairsAt t n i).map pairV⟩)] ∧ (i ≤ n)) ?_ ?_
  · refine ⟨_, 0, ?_, ?_, ?_, ?_, rfl, ?henv, ?hstore, ?hst⟩
    case henv =>
      repeat' (first | rfl | refine env_cons ?_ ?_ | refine st_cons ?_ ?_ ?_ ?_ | refine int_eq ?_ | refine bool_eq ?_ | refine rsl_eq ?_ | refine osl_eq ?_ | refine sl_eq ?_ ?_ ?_ | refine ptr_eq ?_ ?_ ?_ | refine agg_eq ?_ | refine es_cons ?_ ?_ | refine row_cons ?_ ?_)
      all_goals (first | (simp; done) | omega | (simp; omega))
    case hstore =>
      repeat' (first | rfl | refine env_cons ?_ ?_ | refine st_cons ?_ ?_ ?_ ?_ | refine int_eq ?_ | refine bool_eq ?_ | refine rsl_eq ?_ | refine osl_eq ?_ | refine sl_eq ?_ ?_ ?_ | refine ptr_eq ?_ ?_ ?_ | refine agg_eq ?_ | refine es_cons ?_ ?_ | refine row_cons ?_ ?_)
      all_goals (first | (simp; done) | omega | (simp; omega))
    case hst =>
      first | trivial | omega | (simp; done) | (simp; omega)
  rintro mm ee ss kk ⟨i, g1, v1, g, v, rfl, rfl, rfl, hI⟩
  generalize hQl1 : thenQ _ _ = Ql1
  refine AW.seq fun K5 hK5 => ?_
  -- region 3
  refine AW.regionK 0 (fun _ => none) [1, 3, 8, 9, 10] [1, 200] ?_
  simp only [go_sem, reduceIte, reduceCtorEq, Nat.reduceAdd, Nat.reduceMul, Nat.reduceEqDiff, Nat.reduceLT, Nat.reduceLeDiff, Nat.reduceSub, Nat.reducePow, Nat.reduceBEq, Int.reduceToNat, List.reduceReplicate, htl, hlen]
  repeat with_reducible refine cj ?_ ?_
  all_goals try first | omega
  refine hK5 _ _ _ ?_; clear hK5
  refine AW.seq fun K6 hK6 => ?_
  -- cond 1
  refine AW.cond rfl (by simp only [go_sem, reduceIte, reduceCtorEq, Nat.reduceAdd, Nat.reduceMul, Nat.reduceEqDiff, Nat.reduceLT, Nat.reduceLeDiff, Nat.reduceSub, Nat.reducePow, Nat.reduceBEq, Int.reduceToNat, List.reduceReplicate]) ?_ ?_
  · intro hb
    try simp only [hB, decide_eq_true_eq, decide_eq_false_iff_not] at hb
    refine AW.skip ?_
    refine hK6 _ _ _ ?_; clear hK6
    refine AW.seq fun K7 hK7 => ?_
    refine AW.block ?_
    refine AW.seq fun K8 hK8 => ?_
    -- region 4
    refine AW.regionK 0 (fun _ => none) [1, 3, 4, 8, 9] [1, 200] ?_
    simp only [go_sem, reduceIte, reduceCtorEq, Nat.reduceAdd, Nat.reduceMul, Nat.reduceEqDiff, Nat.reduceLT, Nat.reduceLeDiff, Nat.reduceSub, Nat.reducePow, Nat.reduceBEq, Int.reduceToNat, List.reduceReplicate, htl, hlen]
    repeat with_reducible refine cj ?_ ?_
    all_goals try first | omega
    refine hK8 _ _ _ ?_; clear hK8
    refine AW.seq fun K9 hK9 => ?_
    -- region 5
    refine AW.regionK 0 (fun _ => none) [1, 3, 4, 8, 9, 14, 15] [1, 200] ?_
    simp only [go_sem, reduceIte, reduceCtorEq, Nat.reduceAdd, Nat.reduceMul, Nat.reduceEqDiff, Nat.reduceLT, Nat.reduceLeDiff, Nat.reduceSub, Nat.reducePow, Nat.reduceBEq, Int.reduceToNat, List.reduceReplicate, htl, hlen]
    repeat with_reducible refine cj ?_ ?_
    all_goals try first | omega
    refine hK9 _ _ _ ?_; clear hK9
    refine AW.block ?_
    -- loop 2
    refine AW.loopE (fun mm ee ss kk => ∃ (j g1 v1 g v : Nat), n - j = mm ∧ ee = [(1, .ptr ⟨1, g1, none⟩ 0 0), (3, .sl ⟨200, g, none⟩ 0 (pairsAt t n i ++ rowPairs t i j).length none), (4, .int .i64 (i : Nat)), (8, .int .i64 n), (9, .int .i64 (i : Nat)), (14, .int .i64 n), (15, .int .i64 (j : Nat))] ∧ ss = [(1, some ⟨g1, v1, 1, [[.rsl 2 (tabR t)]]⟩), (200, some ⟨g, v, 2, (pairsAt t n i ++ rowPairs t i j).map pairV⟩)] ∧ (j ≤ n)) ?_ ?_
    · refine ⟨_, 0, ?_, ?_, ?_, ?_, rfl, ?henv, ?hstore, ?hst⟩
      case henv =>
        repeat' (first | rfl | refine env_cons ?_ ?_ | refine st_cons ?_ ?_ ?_ ?_ | refine int_eq ?_ | refine bool_eq ?_ | refine rsl_eq ?_ | refine osl_eq ?_ | refine sl_eq ?_ ?_ ?_ | refine ptr_eq ?_ ?_ ?_ | refine agg_eq ?_ | refine es_cons ?_ ?_ | refine row_cons ?_ ?_)
        all_goals (simp [rowPairs])
      case hstore =>
        repeat' (first | rfl | refine env_cons ?_ ?_ | refine st_cons ?_ ?_ ?_ ?_ | refine int_eq ?_ | refine bool_eq ?_ | refine rsl_eq ?_ | refine osl_eq ?_ | refine sl_eq ?_ ?_ ?_ | refine ptr_eq ?_ ?_ ?_ | refine agg_eq ?_ | refine es_cons ?_ ?_ | refine row_cons ?_ ?_)
        all_goals (simp [rowPairs])
      case hst =>
        first | trivial | omega | (simp; done) | (simp; omega)
    rintro mm ee ss kk ⟨j, g1, v1, g, v, rfl, rfl, rfl, hI⟩
    generalize hQl2 : thenQ _ _ = Ql2
    refine AW.seq fun K10 hK10 => ?_
    -- region 6
    refine AW.regionK 0 (fun _ => none) [1, 3, 4, 8, 9, 14, 15, 16] [1, 200] ?_
    simp only [go_sem, reduceIte, reduceCtorEq, Nat.reduceAdd, Nat.reduceMul, Nat.reduceEqDiff, Nat.reduceLT, Nat.reduceLeDiff, Nat.reduceSub, Nat.reducePow, Nat.reduceBEq, Int.reduceToNat, List.reduceReplicate, htl, hlen]
    repeat with_reducible refine cj ?_ ?_
    all_goals try first | omega
    refine hK10 _ _ _ ?_; clear hK10
    refine AW.seq fun K11 hK11 => ?_
    -- cond 2
    refine AW.cond rfl (by simp only [go_sem, reduceIte, reduceCtorEq, Nat.reduceAdd, Nat.reduceMul, Nat.reduceEqDiff, Nat.reduceLT, Nat.reduceLeDiff, Nat.reduceSub, Nat.reducePow, Nat.reduceBEq, Int.reduceToNat, List.reduceReplicate]) ?_ ?_
    · intro hb
      try simp only [hB, decide_eq_true_eq, decide_eq_false_iff_not] at hb
      have hhr := Reads.flat (hh i j (by omega) (by omega)) rfl
      have hps := rowPairs_succ t i j
      have hpl := pairsAt_le t n i
      have hrl := rowPairs_le t i j
      have hmul : n * i ≤ 262144 := Nat.le_trans (Nat.mul_le_mul hn (by omega : i ≤ 512)) (by decide)
      have hll : (pairsAt t n i ++ rowPairs t i j).length ≤ 300000 := by rw [List.length_append]; omega
      have hml : ((pairsAt t n i ++ rowPairs t i j).map pairV).length = (pairsAt t n i ++ rowPairs t i j).length := by simp
      have htk : ((pairsAt t n i ++ rowPairs t i j).map pairV).take (pairsAt t n i ++ rowPairs t i j).length = (pairsAt t n i ++ rowPairs t i j).map pairV := List.take_of_length_le (by simp)
      generalize hL : pairsAt t n i ++ rowPairs t i j = L at *
      refine AW.skip ?_
      refine hK11 _ _ _ ?_; clear hK11
      refine AW.seq fun K12 hK12 => ?_
      refine AW.block ?_
      refine AW.seq fun K13 hK13 => ?_
      -- region 7
      refine AW.regionK 0 (fun _ => none) [1, 3, 4, 5, 8, 9, 14, 15] [1, 200] ?_
      simp only [go_sem, reduceIte, reduceCtorEq, Nat.reduceAdd, Nat.reduceMul, Nat.reduceEqDiff, Nat.reduceLT, Nat.reduceLeDiff, Nat.reduceSub, Nat.reducePow, Nat.reduceBEq, Int.reduceToNat, List.reduceReplicate, htl, hlen]
      repeat with_reducible refine cj ?_ ?_
      all_goals try first | omega
      refine hK13 _ _ _ ?_; clear hK13
      refine AW.seq fun K14 hK14 => ?_
      -- region 8
      refine AW.regionK 0 (fun ii => if ii = 3 then some (.reads true (.bool (atT t i j))) else none) [1, 3, 4, 5, 8, 9, 14, 15, 21] [1, 200] ?_
      simp only [go_sem, reduceIte, reduceCtorEq, Nat.reduceAdd, Nat.reduceMul, Nat.reduceEqDiff, Nat.reduceLT, Nat.reduceLeDiff, Nat.reduceSub, Nat.reducePow, Nat.reduceBEq, Int.reduceToNat, List.reduceReplicate, htl, hlen]
      repeat with_reducible refine cj ?_ ?_
      all_goals try first | (exact hhr) | omega | exact ent (by kernel_rfl)
      refine hK14 _ _ _ ?_; clear hK14
      -- cond 3
      refine AW.cond rfl (by simp only [go_sem, reduceIte, reduceCtorEq, Nat.reduceAdd, Nat.reduceMul, Nat.reduceEqDiff, Nat.reduceLT, Nat.reduceLeDiff, Nat.reduceSub, Nat.reducePow, Nat.reduceBEq, Int.reduceToNat, List.reduceReplicate]) ?_ ?_
      · intro hb
        try simp only [hB, decide_eq_true_eq, decide_eq_false_iff_not] at hb
        rw [if_pos hb] at hps
        have hLs : pairsAt t n i ++ rowPairs t i (j + 1) = L ++ [((i : Int), (j : Int))] := by rw [hps, ← List.append_assoc, hL]
        -- region 9
        refine AW.regionK 0 (fun _ => none) [1, 3, 4, 8, 9, 14, 15] [1, 200] ?_
        simp only [go_sem, reduceIte, reduceCtorEq, Nat.reduceAdd, Nat.reduceMul, Nat.reduceEqDiff, Nat.reduceLT, Nat.reduceLeDiff, Nat.reduceSub, Nat.reducePow, Nat.reduceBEq, Int.reduceToNat, List.reduceReplicate, htl, hlen, htk, hml, pairs_app]
        repeat with_reducible refine cj ?_ ?_
        all_goals try first | omega | (simp [scP, scalar]; done) | exact scP_words _ | exact scP_ints _ | exact scP_bools _
        refine hK12 _ _ _ ?_; clear hK12
        -- region 10
        refine AW.regionK 0 (fun _ => none) [1, 3, 4, 8, 9, 14, 15] [1, 200] ?_
        simp only [go_sem, reduceIte, reduceCtorEq, Nat.reduceAdd, Nat.reduceMul, Nat.reduceEqDiff, Nat.reduceLT, Nat.reduceLeDiff, Nat.reduceSub, Nat.reducePow, Nat.reduceBEq, Int.reduceToNat, List.reduceReplicate, htl, hlen]
        repeat with_reducible refine cj ?_ ?_
        all_goals try first | omega
        rw [← hQl2]
        change Exists _
        refine ⟨_, ?hm, j + 1, ?_, ?_, ?_, ?_, rfl, ?henv, ?hstore, ?hst⟩
        case henv =>
          repeat' (first | rfl | refine env_cons ?_ ?_ | refine st_cons ?_ ?_ ?_ ?_ | refine int_eq ?_ | refine bool_eq ?_ | refine rsl_eq ?_ | refine osl_eq ?_ | refine sl_eq ?_ ?_ ?_ | refine ptr_eq ?_ ?_ ?_ | refine agg_eq ?_ | refine es_cons ?_ ?_ | refine row_cons ?_ ?_)
          all_goals (rw [hLs]; try simp)
        case hstore =>
          repeat' (first | rfl | refine env_cons ?_ ?_ | refine st_cons ?_ ?_ ?_ ?_ | refine int_eq ?_ | refine bool_eq ?_ | refine rsl_eq ?_ | refine osl_eq ?_ | refine sl_eq ?_ ?_ ?_ | refine ptr_eq ?_ ?_ ?_ | refine agg_eq ?_ | refine es_cons ?_ ?_ | refine row_cons ?_ ?_)
          all_goals (rw [hLs])
        case hst =>
          first | trivial | omega | (simp; done) | (simp; omega)
        case hm => omega
      · intro hb
        try simp only [hB, decide_eq_true_eq, decide_eq_false_iff_not] at hb
        rw [if_neg (by rw [hb]; simp)] at hps
        have hLs : pairsAt t n i ++ rowPairs t i (j + 1) = L := by rw [hps, hL]
        refine AW.skip ?_
        refine hK12 _ _ _ ?_; clear hK12
        -- region 10
        refine AW.regionK 0 (fun _ => none) [1, 3, 4, 8, 9, 14, 15] [1, 200] ?_
        simp only [go_sem, reduceIte, reduceCtorEq, Nat.reduceAdd, Nat.reduceMul, Nat.reduceEqDiff, Nat.reduceLT, Nat.reduceLeDiff, Nat.reduceSub, Nat.reducePow, Nat.reduceBEq, Int.reduceToNat, List.reduceReplicate, htl, hlen]
        repeat with_reducible refine cj ?_ ?_
        all_goals try first | omega
        rw [← hQl2]
        change Exists _
        refine ⟨_, ?hm, j + 1, ?_, ?_, ?_, ?_, rfl, ?henv, ?hstore, ?hst⟩
        case henv =>
          repeat' (first | rfl | refine env_cons ?_ ?_ | refine st_cons ?_ ?_ ?_ ?_ | refine int_eq ?_ | refine bool_eq ?_ | refine rsl_eq ?_ | refine osl_eq ?_ | refine sl_eq ?_ ?_ ?_ | refine ptr_eq ?_ ?_ ?_ | refine agg_eq ?_ | refine es_cons ?_ ?_ | refine row_cons ?_ ?_)
          all_goals (rw [hLs]; try simp)
        case hstore =>
          repeat' (first | rfl | refine env_cons ?_ ?_ | refine st_cons ?_ ?_ ?_ ?_ | refine int_eq ?_ | refine bool_eq ?_ | refine rsl_eq ?_ | refine osl_eq ?_ | refine sl_eq ?_ ?_ ?_ | refine ptr_eq ?_ ?_ ?_ | refine agg_eq ?_ | refine es_cons ?_ ?_ | refine row_cons ?_ ?_)
          all_goals (rw [hLs])
        case hst =>
          first | trivial | omega | (simp; done) | (simp; omega)
        case hm => omega
    · intro hb
      try simp only [hB, decide_eq_true_eq, decide_eq_false_iff_not] at hb
      have hj : j = n := by omega
      subst hj
      have hps := pairsAt_succ t j i
      refine AW.exit ?_
      rw [← hQl2]
      refine hK7 _ _ _ ?_; clear hK7
      -- region 11
      refine AW.regionK 0 (fun _ => none) [1, 3, 8, 9] [1, 200] ?_
      simp only [go_sem, reduceIte, reduceCtorEq, Nat.reduceAdd, Nat.reduceMul, Nat.reduceEqDiff, Nat.reduceLT, Nat.reduceLeDiff, Nat.reduceSub, Nat.reducePow, Nat.reduceBEq, Int.reduceToNat, List.reduceReplicate, htl, hlen]
      repeat with_reducible refine cj ?_ ?_
      all_goals try first | omega
      rw [← hQl1]
      change Exists _
      refine ⟨_, ?hm, i + 1, ?_, ?_, ?_, ?_, rfl, ?henv, ?hstore, ?hst⟩
      case henv =>
        repeat' (first | rfl | refine env_cons ?_ ?_ | refine st_cons ?_ ?_ ?_ ?_ | refine int_eq ?_ | refine bool_eq ?_ | refine rsl_eq ?_ | refine osl_eq ?_ | refine sl_eq ?_ ?_ ?_ | refine ptr_eq ?_ ?_ ?_ | refine agg_eq ?_ | refine es_cons ?_ ?_ | refine row_cons ?_ ?_)
        all_goals (rw [hps])
      case hstore =>
        repeat' (first | rfl | refine env_cons ?_ ?_ | refine st_cons ?_ ?_ ?_ ?_ | refine int_eq ?_ | refine bool_eq ?_ | refine rsl_eq ?_ | refine osl_eq ?_ | refine sl_eq ?_ ?_ ?_ | refine ptr_eq ?_ ?_ ?_ | refine agg_eq ?_ | refine es_cons ?_ ?_ | refine row_cons ?_ ?_)
        all_goals (rw [hps])
      case hst =>
        first | trivial | omega | (simp; done) | (simp; omega)
      case hm => omega
  · intro hb
    try simp only [hB, decide_eq_true_eq, decide_eq_false_iff_not] at hb
    refine AW.exit ?_
    rw [← hQl1]
    refine hK3 _ _ _ ?_; clear hK3
    refine AW.seq fun K15 hK15 => ?_
    -- region 12
    refine AW.regionK 0 (fun _ => none) [2] [200] ?_
    simp only [go_sem, reduceIte, reduceCtorEq, Nat.reduceAdd, Nat.reduceMul, Nat.reduceEqDiff, Nat.reduceLT, Nat.reduceLeDiff, Nat.reduceSub, Nat.reducePow, Nat.reduceBEq, Int.reduceToNat, List.reduceReplicate, htl, hlen]
    repeat with_reducible refine cj ?_ ?_
    all_goals try first | omega
    refine hK15 _ _ _ ?_; clear hK15
    refine AW.ret ?_
    rw [← hQr]
    simp only [go_sem, reduceIte, reduceCtorEq, Nat.reduceAdd, Nat.reduceMul, Nat.reduceEqDiff, Nat.reduceLT, Nat.reduceLeDiff, Nat.reduceSub, Nat.reducePow, Nat.reduceBEq, Int.reduceToNat, List.reduceReplicate, htl, hlen]
    have hi : i = n := by omega
    subst hi
    rw [List.take_of_length_le (by simp), vwcF_pairs]
    exact Wk.refl _
theorem closure_r (n : Nat) (t : List (List Bool)) (hs : Sq n t) (hn : n ≤ 512) : Reads Tryd.prog 77 true [relB t] (relB (warsh n t)) := by
  have hlen := hs.len
  have htl := tabR_len t
  have hemp := empty_u n hn
  have hwn := wordsN_rng (n := (n : Int)) (by omega)
  unfold relB at *
  refine Reads.bodyF (rs := [.cell 2 24]) Tryd.func77 rfl Tryd.ntmps77 rfl (by simp) ?_
  generalize hQr : retQ _ _ _ = Qr
  refine AW.seq fun K1 hK1 => ?_
  -- region 0
  refine AW.regionK 0 (fun _ => none) [1, 2] [1, 2] ?_
  simp only [go_sem, reduceIte, reduceCtorEq, Nat.reduceAdd, Nat.reduceMul, Nat.reduceEqDiff, Nat.reduceLT, Nat.reduceLeDiff, Nat.reduceSub, Nat.reducePow, Nat.reduceBEq, Int.reduceToNat, List.reduceReplicate, htl, hlen, renC_tabO]
  repeat with_reducible refine cj ?_ ?_
  all_goals try first | omega
  refine hK1 _ _ _ ?_; clear hK1
  refine AW.seq fun K2 hK2 => ?_
  -- region 1
  refine AW.regionK 0 (fun ii => if ii = 3 then some (.upd [] (fun k => [(0, some ⟨k, k, 2, tabO (List.replicate n (List.replicate n false))⟩)]) (fun k => .agg [.sl ⟨0, k, none⟩ 0 n none])) else none) [1, 2, 3] [1, 2, 3, 11] ?_
  simp only [go_sem, reduceIte, reduceCtorEq, Nat.reduceAdd, Nat.reduceMul, Nat.reduceEqDiff, Nat.reduceLT, Nat.reduceLeDiff, Nat.reduceSub, Nat.reducePow, Nat.reduceBEq, Int.reduceToNat, List.reduceReplicate, htl, hlen, renC_tabO]
  repeat with_reducible refine cj ?_ ?_
  all_goals try first | (exact hemp) | omega | exact ent (by kernel_rfl)
  refine hK2 _ _ _ ?_; clear hK2
  refine AW.seq fun K3 hK3 => ?_
  refine AW.seq fun K4 hK4 => ?_
  -- region 2
  refine AW.regionK 0 (fun _ => none) [2, 3, 13, 14, 15] [2, 3, 11] ?_
  simp only [go_sem, reduceIte, reduceCtorEq, Nat.reduceAdd, Nat.reduceMul, Nat.reduceEqDiff, Nat.reduceLT, Nat.reduceLeDiff, Nat.reduceSub, Nat.reducePow, Nat.reduceBEq, Int.reduceToNat, List.reduceReplicate, htl, hlen, renC_tabO]
  repeat with_reducible refine cj ?_ ?_
  all_goals try first | omega
  refine hK4 _ _ _ ?_; clear hK4
  refine AW.block ?_
  -- loop 1
  refine AW.loopE (fun mm ee ss kk => ∃ (i g2 v2 g3 v3 g v : Nat), n - i = mm ∧ ee = [(2, .ptr ⟨2, g2, none⟩ 0 0), (3, .ptr ⟨3, g3, none⟩ 0 0), (13, .rsl 2 (tabR t)), (14, .int .i64 n), (15, .int .i64 (i : Nat))] ∧ ss = [(2, some ⟨g2, v2, 1, [[.nilsl]]⟩), (3, some ⟨g3, v3, 1, [[.sl ⟨11, g, none⟩ 0 n none]]⟩), (11, some ⟨g, v, 2, tabO (fillT t n i)⟩)] ∧ (i ≤ n)) ?_ ?_
  · refine ⟨_, 0, ?_, ?_, ?_, ?_, ?_, ?_, rfl, ?henv, ?hstore, ?hst⟩
    case henv =>
      repeat' (first | rfl | refine env_cons ?_ ?_ | refine st_cons ?_ ?_ ?_ ?_ | refine int_eq ?_ | refine bool_eq ?_ | refine rsl_eq ?_ | refine osl_eq ?_ | refine sl_eq ?_ ?_ ?_ | refine ptr_eq ?_ ?_ ?_ | refine agg_eq ?_ | refine es_cons ?_ ?_ | refine row_cons ?_ ?_)
      all_goals (first | (simp; done) | omega | (simp; omega))
    case hstore =>
      repeat' (first | rfl | refine env_cons ?_ ?_ | refine st_cons ?_ ?_ ?_ ?_ | refine int_eq ?_ | refine bool_eq ?_ | refine rsl_eq ?_ | refine osl_eq ?_ | refine sl_eq ?_ ?_ ?_ | refine ptr_eq ?_ ?_ ?_ | refine agg_eq ?_ | refine es_cons ?_ ?_ | refine row_cons ?_ ?_)
      all_goals (rw [fillT_zero]; rfl)
    case hst =>
      first | trivial | omega | (simp; done) | (simp; omega)
  rintro mm ee ss kk ⟨i, g2, v2, g3, v3, g, v, rfl, rfl, rfl, hI⟩
  generalize hQl1 : thenQ _ _ = Ql1
  refine AW.seq fun K5 hK5 => ?_
  -- region 3
  refine AW.regionK 0 (fun _ => none) [2, 3, 13, 14, 15, 16] [2, 3, 11] ?_
  simp only [go_sem, reduceIte, reduceCtorEq, Nat.reduceAdd, Nat.reduceMul, Nat.reduceEqDiff, Nat.reduceLT, Nat.reduceLeDiff, Nat.reduceSub, Nat.reducePow, Nat.reduceBEq, Int.reduceToNat, List.reduceReplicate, htl, hlen, renC_tabO]
  repeat with_reducible refine cj ?_ ?_
  all_goals try first | omega
  refine hK5 _ _ _ ?_; clear hK5
  refine AW.seq fun K6 hK6 => ?_
  -- cond 1
  refine AW.cond rfl (by simp only [go_sem, reduceIte, reduceCtorEq, Nat.reduceAdd, Nat.reduceMul, Nat.reduceEqDiff, Nat.reduceLT, Nat.reduceLeDiff, Nat.reduceSub, Nat.reducePow, Nat.reduceBEq, Int.reduceToNat, List.reduceReplicate]) ?_ ?_
  · intro hb
    try simp only [hB, decide_eq_true_eq, decide_eq_false_iff_not] at hb
    have hsf := fillT_sq hs (i := i) (by omega)
    have hgr := tabR_get (t := t) (i := i) (by omega)
    have hgo := tabO_get (t := fillT t n i) (i := i) (by rw [hsf.len]; omega)
    rw [fillT_row hs (by omega)] at hgo
    have hto := tabO_len (fillT t n i)
    have hsl := hsf.len
    have hrl := hs.rowLen (i := i) (by omega)
    have hfs := fillT_succ hs (i := i) (by omega)
    have hts := tabO_set (fillT t n i) i (rowT t i)
    have hwl := setW_len' (rowT t i)
    have hwz := setW_len' (List.replicate n false)
    rw [hrl] at hwl
    rw [List.length_replicate] at hwz
    have hmin : min (setW (rowT t i) n).length (setW (List.replicate n false) n).length = (setW (rowT t i) n).length := by omega
    have hdr : (words (setW (List.replicate n false) n)).drop (setW (rowT t i) n).length = [] := List.drop_of_length_le (by rw [words_len]; omega)
    have hro : [AV.int .i64 n, .osl 1 (words (setW (rowT t i) n))] = rowO (rowT t i) := by rw [rowO, hrl]
    refine AW.skip ?_
    refine hK6 _ _ _ ?_; clear hK6
    refine AW.seq fun K7 hK7 => ?_
    refine AW.block ?_
    refine AW.seq fun K8 hK8 => ?_
    -- region 4
    refine AW.regionK 0 (fun _ => none) [2, 3, 4, 5, 13, 14, 15] [2, 3, 5, 11] ?_
    simp only [go_sem, reduceIte, reduceCtorEq, Nat.reduceAdd, Nat.reduceMul, Nat.reduceEqDiff, Nat.reduceLT, Nat.reduceLeDiff, Nat.reduceSub, Nat.reducePow, Nat.reduceBEq, Int.reduceToNat, List.reduceReplicate, htl, hlen, renC_tabO, hgr, rowB, hrl]
    repeat with_reducible refine cj ?_ ?_
    all_goals try first | omega
    refine hK8 _ _ _ ?_; clear hK8
    -- region 5
    refine AW.regionD mixed 0 (fun _ => none) [2, 3, 13, 14, 15] [2, 3, 11] ?_
    simp only [go_sem, reduceIte, reduceCtorEq, Nat.reduceAdd, Nat.reduceMul, Nat.reduceEqDiff, Nat.reduceLT, Nat.reduceLeDiff, Nat.reduceSub, Nat.reducePow, Nat.reduceBEq, Int.reduceToNat, List.reduceReplicate, htl, hlen, renC_tabO, hgo, rowO, List.length_replicate, hmin, hdr, List.append_nil]
    repeat with_reducible refine cj ?_ ?_
    all_goals try first | omega | exact chk (by kernel_rfl) | (simp [scP, scalar]; done) | exact scP_words _ | exact scP_ints _ | exact scP_bools _
    refine hK7 _ _ _ ?_; clear hK7
    -- region 6
    refine AW.regionK 0 (fun _ => none) [2, 3, 13, 14, 15] [2, 3, 11] ?_
    simp only [go_sem, reduceIte, reduceCtorEq, Nat.reduceAdd, Nat.reduceMul, Nat.reduceEqDiff, Nat.reduceLT, Nat.reduceLeDiff, Nat.reduceSub, Nat.reducePow, Nat.reduceBEq, Int.reduceToNat, List.reduceReplicate, htl, hlen, renC_tabO]
    repeat with_reducible refine cj ?_ ?_
    all_goals try first | omega
    rw [← hQl1]
    change Exists _
    refine ⟨_, ?hm, i + 1, ?_, ?_, ?_, ?_, ?_, ?_, rfl, ?henv, ?hstore, ?hst⟩
    case henv =>
      repeat' (first | rfl | refine env_cons ?_ ?_ | refine st_cons ?_ ?_ ?_ ?_ | refine int_eq ?_ | refine bool_eq ?_ | refine rsl_eq ?_ | refine osl_eq ?_ | refine sl_eq ?_ ?_ ?_ | refine ptr_eq ?_ ?_ ?_ | refine agg_eq ?_ | refine es_cons ?_ ?_ | refine row_cons ?_ ?_)
      all_goals (first | (simp; done) | omega | (simp; omega))
    case hstore =>
      repeat' (first | rfl | refine env_cons ?_ ?_ | refine st_cons ?_ ?_ ?_ ?_ | refine int_eq ?_ | refine bool_eq ?_ | refine rsl_eq ?_ | refine osl_eq ?_ | refine sl_eq ?_ ?_ ?_ | refine ptr_eq ?_ ?_ ?_ | refine agg_eq ?_ | refine es_cons ?_ ?_ | refine row_cons ?_ ?_)
      all_goals (rw [← hfs, ← hts, ← hro])
    case hst =>
      first | trivial | omega | (simp; done) | (simp; omega)
    case hm => omega
  · intro hb
    try simp only [hB, decide_eq_true_eq, decide_eq_false_iff_not] at hb
    have hi : i = n := by omega
    subst hi
    rw [fillT_all hs]
    refine AW.keep [2, 3] [2, 3, 11] ?_
    try simp only [go_sem, reduceIte, reduceCtorEq, Nat.reduceAdd, Nat.reduceMul, Nat.reduceEqDiff, Nat.reduceLT, Nat.reduceLeDiff, Nat.reduceSub, Nat.reducePow, Nat.reduceBEq, Int.reduceToNat, List.reduceReplicate]
    refine AW.exit ?_
    rw [← hQl1]
    refine hK3 _ _ _ ?_; clear hK3
    refine AW.seq fun K9 hK9 => ?_
    refine AW.seq fun K10 hK10 => ?_
    -- region 7
    refine AW.regionK 0 (fun _ => none) [2, 3, 32, 33] [2, 3, 11] ?_
    simp only [go_sem, reduceIte, reduceCtorEq, Nat.reduceAdd, Nat.reduceMul, Nat.reduceEqDiff, Nat.reduceLT, Nat.reduceLeDiff, Nat.reduceSub, Nat.reducePow, Nat.reduceBEq, Int.reduceToNat, List.reduceReplicate, htl, hlen, renC_tabO]
    repeat with_reducible refine cj ?_ ?_
    all_goals try first | omega
    refine hK10 _ _ _ ?_; clear hK10
    refine AW.block ?_
    -- loop 2
    refine AW.loopE (fun mm ee ss kk => ∃ (k g2 v2 g3 v3 g v : Nat), i - k = mm ∧ ee = [(2, .ptr ⟨2, g2, none⟩ 0 0), (3, .ptr ⟨3, g3, none⟩ 0 0), (32, .int .i64 i), (33, .int .i64 (k : Nat))] ∧ ss = [(2, some ⟨g2, v2, 1, [[.nilsl]]⟩), (3, some ⟨g3, v3, 1, [[.sl ⟨11, g, none⟩ 0 i none]]⟩), (11, some ⟨g, v, 2, tabO (iter (warshK i) k t)⟩)] ∧ (k ≤ i)) ?_ ?_
    · refine ⟨_, 0, ?_, ?_, ?_, ?_, ?_, ?_, rfl, ?henv, ?hstore, ?hst⟩
      case henv =>
        repeat' (first | rfl | refine env_cons ?_ ?_ | refine st_cons ?_ ?_ ?_ ?_ | refine int_eq ?_ | refine bool_eq ?_ | refine rsl_eq ?_ | refine osl_eq ?_ | refine sl_eq ?_ ?_ ?_ | refine ptr_eq ?_ ?_ ?_ | refine agg_eq ?_ | refine es_cons ?_ ?_ | refine row_cons ?_ ?_)
        all_goals (first | (simp; done) | omega | (simp; omega))
      case hstore =>
        repeat' (first | rfl | refine env_cons ?_ ?_ | refine st_cons ?_ ?_ ?_ ?_ | refine int_eq ?_ | refine bool_eq ?_ | refine rsl_eq ?_ | refine osl_eq ?_ | refine sl_eq ?_ ?_ ?_ | refine ptr_eq ?_ ?_ ?_ | refine agg_eq ?_ | refine es_cons ?_ ?_ | refine row_cons ?_ ?_)
        all_goals (first | (simp; done) | omega | (simp; omega))
      case hst =>
        first | trivial | omega | (simp; done) | (simp; omega)
    rintro mm ee ss kk ⟨k, g2, v2, g3, v3, g, v, rfl, rfl, rfl, hI⟩
    generalize hQl2 : thenQ _ _ = Ql2
    refine AW.seq fun K11 hK11 => ?_
    -- region 8
    refine AW.regionK 0 (fun _ => none) [2, 3, 32, 33, 34] [2, 3, 11] ?_
    simp only [go_sem, reduceIte, reduceCtorEq, Nat.reduceAdd, Nat.reduceMul, Nat.reduceEqDiff, Nat.reduceLT, Nat.reduceLeDiff, Nat.reduceSub, Nat.reducePow, Nat.reduceBEq, Int.reduceToNat, List.reduceReplicate, htl, hlen, renC_tabO]
    repeat with_reducible refine cj ?_ ?_
    all_goals try first | omega
    refine hK11 _ _ _ ?_; clear hK11
    refine AW.seq fun K12 hK12 => ?_
    -- cond 2
    refine AW.cond rfl (by simp only [go_sem, reduceIte, reduceCtorEq, Nat.reduceAdd, Nat.reduceMul, Nat.reduceEqDiff, Nat.reduceLT, Nat.reduceLeDiff, Nat.reduceSub, Nat.reducePow, Nat.reduceBEq, Int.reduceToNat, List.reduceReplicate]) ?_ ?_
    · intro hb
      try simp only [hB, decide_eq_true_eq, decide_eq_false_iff_not] at hb
      refine AW.skip ?_
      refine hK12 _ _ _ ?_; clear hK12
      refine AW.seq fun K13 hK13 => ?_
      refine AW.block ?_
      refine AW.seq fun K14 hK14 => ?_
      -- region 9
      refine AW.regionK 0 (fun _ => none) [2, 3, 6, 32, 33] [2, 3, 11] ?_
      simp only [go_sem, reduceIte, reduceCtorEq, Nat.reduceAdd, Nat.reduceMul, Nat.reduceEqDiff, Nat.reduceLT, Nat.reduceLeDiff, Nat.reduceSub, Nat.reducePow, Nat.reduceBEq, Int.reduceToNat, List.reduceReplicate, htl, hlen, renC_tabO]
      repeat with_reducible refine cj ?_ ?_
      all_goals try first | omega
      refine hK14 _ _ _ ?_; clear hK14
      refine AW.seq fun K15 hK15 => ?_
      -- region 10
      refine AW.regionK 0 (fun _ => none) [2, 3, 6, 32, 33, 38, 39] [2, 3, 11] ?_
      simp only [go_sem, reduceIte, reduceCtorEq, Nat.reduceAdd, Nat.reduceMul, Nat.reduceEqDiff, Nat.reduceLT, Nat.reduceLeDiff, Nat.reduceSub, Nat.reducePow, Nat.reduceBEq, Int.reduceToNat, List.reduceReplicate, htl, hlen, renC_tabO]
      repeat with_reducible refine cj ?_ ?_
      all_goals try first | omega
      refine hK15 _ _ _ ?_; clear hK15
      refine AW.block ?_
      -- loop 3
      refine AW.loopE (fun mm ee ss kk => ∃ (q g2 v2 g3 v3 g v : Nat), i - q = mm ∧ ee = [(2, .ptr ⟨2, g2, none⟩ 0 0), (3, .ptr ⟨3, g3, none⟩ 0 0), (6, .int .i64 (k : Nat)), (32, .int .i64 i), (33, .int .i64 (k : Nat)), (38, .int .i64 i), (39, .int .i64 (q : Nat))] ∧ ss = [(2, some ⟨g2, v2, 1, [[.nilsl]]⟩), (3, some ⟨g3, v3, 1, [[.sl ⟨11, g, none⟩ 0 i none]]⟩), (11, some ⟨g, v, 2, tabO (iter (warshI k) q (iter (warshK i) k t))⟩)] ∧ (q ≤ i)) ?_ ?_
      · refine ⟨_, 0, ?_, ?_, ?_, ?_, ?_, ?_, rfl, ?henv, ?hstore, ?hst⟩
        case henv =>
          repeat' (first | rfl | refine env_cons ?_ ?_ | refine st_cons ?_ ?_ ?_ ?_ | refine int_eq ?_ | refine bool_eq ?_ | refine rsl_eq ?_ | refine osl_eq ?_ | refine sl_eq ?_ ?_ ?_ | refine ptr_eq ?_ ?_ ?_ | refine agg_eq ?_ | refine es_cons ?_ ?_ | refine row_cons ?_ ?_)
          all_goals (first | (simp; done) | omega | (simp; omega))
        case hstore =>
          repeat' (first | rfl | refine env_cons ?_ ?_ | refine st_cons ?_ ?_ ?_ ?_ | refine int_eq ?_ | refine bool_eq ?_ | refine rsl_eq ?_ | refine osl_eq ?_ | refine sl_eq ?_ ?_ ?_ | refine ptr_eq ?_ ?_ ?_ | refine agg_eq ?_ | refine es_cons ?_ ?_ | refine row_cons ?_ ?_)
          all_goals (first | (simp; done) | omega | (simp; omega))
        case hst =>
          first | trivial | omega | (simp; done) | (simp; omega)
      rintro mm ee ss kk ⟨q, g2, v2, g3, v3, g, v, rfl, rfl, rfl, hI⟩
      generalize hQl3 : thenQ _ _ = Ql3
      refine AW.seq fun K16 hK16 => ?_
      -- region 11
      refine AW.regionK 0 (fun _ => none) [2, 3, 6, 32, 33, 38, 39, 40] [2, 3, 11] ?_
      simp only [go_sem, reduceIte, reduceCtorEq, Nat.reduceAdd, Nat.reduceMul, Nat.reduceEqDiff, Nat.reduceLT, Nat.reduceLeDiff, Nat.reduceSub, Nat.reducePow, Nat.reduceBEq, Int.reduceToNat, List.reduceReplicate, htl, hlen, renC_tabO]
      repeat with_reducible refine cj ?_ ?_
      all_goals try first | omega
      refine hK16 _ _ _ ?_; clear hK16
      refine AW.seq fun K17 hK17 => ?_
      -- cond 3
      refine AW.cond rfl (by simp only [go_sem, reduceIte, reduceCtorEq, Nat.reduceAdd, Nat.reduceMul, Nat.reduceEqDiff, Nat.reduceLT, Nat.reduceLeDiff, Nat.reduceSub, Nat.reducePow, Nat.reduceBEq, Int.reduceToNat, List.reduceReplicate]) ?_ ?_
      · intro hb
        try simp only [hB, decide_eq_true_eq, decide_eq_false_iff_not] at hb
        have hsu : Sq i (iter (warshI k) q (iter (warshK i) k t)) := (hs.warsh' (by omega)).warshK' (by omega) (by omega)
        have hus : iter (warshI k) (q + 1) (iter (warshK i) k t) = warshI k q (iter (warshI k) q (iter (warshK i) k t)) := rfl
        rw [warshI_eq] at hus
        generalize hU : iter (warshI k) q (iter (warshK i) k t) = U at *
        have hhr := Reads.flat (rhas_r i U hsu hn q k (by omega) (by omega)) rfl
        have hto := tabO_len U
        have hsl := hsu.len
        have htk : (tabO U).take i = tabO U := List.take_of_length_le (by omega)
        have hgq := tabO_get (t := U) (i := q) (by omega)
        have hgk := tabO_get (t := U) (i := k) (by omega)
        have hrq := hsu.rowLen (i := q) (by omega)
        have hrk := hsu.rowLen (i := k) (by omega)
        have hwq := setW_len' (rowT U q)
        have hwk := setW_len' (rowT U k)
        rw [hrq] at hwq
        rw [hrk] at hwk
        have hm := fun g v => merge_s i U hsu hn q k (by omega) (by omega) g v none none
        refine AW.skip ?_
        refine hK17 _ _ _ ?_; clear hK17
        refine AW.seq fun K18 hK18 => ?_
        refine AW.block ?_
        refine AW.seq fun K19 hK19 => ?_
        -- region 12
        refine AW.regionK 0 (fun _ => none) [2, 3, 6, 7, 32, 33, 38, 39] [2, 3, 11] ?_
        simp only [go_sem, reduceIte, reduceCtorEq, Nat.reduceAdd, Nat.reduceMul, Nat.reduceEqDiff, Nat.reduceLT, Nat.reduceLeDiff, Nat.reduceSub, Nat.reducePow, Nat.reduceBEq, Int.reduceToNat, List.reduceReplicate, htl, hlen, renC_tabO]
        repeat with_reducible refine cj ?_ ?_
        all_goals try first | omega
        refine hK19 _ _ _ ?_; clear hK19
        refine AW.seq fun K20 hK20 => ?_
        -- region 13
        refine AW.regionK 0 (fun ii => if ii = 3 then some (.reads true (.bool (atT U q k))) else none) [2, 3, 6, 7, 32, 33, 38, 39, 45] [2, 3, 11] ?_
        simp only [go_sem, reduceIte, reduceCtorEq, Nat.reduceAdd, Nat.reduceMul, Nat.reduceEqDiff, Nat.reduceLT, Nat.reduceLeDiff, Nat.reduceSub, Nat.reducePow, Nat.reduceBEq, Int.reduceToNat, List.reduceReplicate, htl, hlen, renC_tabO, htk, vwc_tabO]
        repeat with_reducible refine cj ?_ ?_
        all_goals try first | (exact hhr) | omega | exact ent (by kernel_rfl)
        refine hK20 _ _ _ ?_; clear hK20
        -- cond 4
        refine AW.cond rfl (by simp only [go_sem, reduceIte, reduceCtorEq, Nat.reduceAdd, Nat.reduceMul, Nat.reduceEqDiff, Nat.reduceLT, Nat.reduceLeDiff, Nat.reduceSub, Nat.reducePow, Nat.reduceBEq, Int.reduceToNat, List.reduceReplicate]) ?_ ?_
        · intro hb
          try simp only [hB, decide_eq_true_eq, decide_eq_false_iff_not] at hb
          rw [if_pos hb] at hus
          unfold orRow at hus
          -- region 14
          refine AW.regionD mixed 0 (fun ii => if ii = 10 then some (.upd [11] (fun kk => [(0, some ⟨g, kk, 2, tabO (U.set q (List.zipWith (· || ·) (rowT U q) (rowT U k)))⟩)]) (fun _ => .tup [])) else none) [2, 3, 6, 32, 33, 38, 39] [2, 3, 11] ?_
          simp only [go_sem, reduceIte, reduceCtorEq, Nat.reduceAdd, Nat.reduceMul, Nat.reduceEqDiff, Nat.reduceLT, Nat.reduceLeDiff, Nat.reduceSub, Nat.reducePow, Nat.reduceBEq, Int.reduceToNat, List.reduceReplicate, htl, hlen, renC_tabO, hgq, hgk, rowO, hrq, hrk, hwq, hwk, renC_tabO]
          repeat with_reducible refine cj ?_ ?_
          all_goals try first | (exact hm _ _) | omega | exact chk (by kernel_rfl) | exact ent (by kernel_rfl)
          refine hK18 _ _ _ ?_; clear hK18
          -- region 15
          refine AW.regionK 0 (fun _ => none) [2, 3, 6, 32, 33, 38, 39] [2, 3, 11] ?_
          simp only [go_sem, reduceIte, reduceCtorEq, Nat.reduceAdd, Nat.reduceMul, Nat.reduceEqDiff, Nat.reduceLT, Nat.reduceLeDiff, Nat.reduceSub, Nat.reducePow, Nat.reduceBEq, Int.reduceToNat, List.reduceReplicate, htl, hlen, renC_tabO]
          repeat with_reducible refine cj ?_ ?_
          all_goals try first | omega
          rw [← hQl3]
          change Exists _
          refine ⟨_, ?hm, q + 1, ?_, ?_, ?_, ?_, ?_, ?_, rfl, ?henv, ?hstore, ?hst⟩
          case henv =>
            repeat' (first | rfl | refine env_cons ?_ ?_ | refine st_cons ?_ ?_ ?_ ?_ | refine int_eq ?_ | refine bool_eq ?_ | refine rsl_eq ?_ | refine osl_eq ?_ | refine sl_eq ?_ ?_ ?_ | refine ptr_eq ?_ ?_ ?_ | refine agg_eq ?_ | refine es_cons ?_ ?_ | refine row_cons ?_ ?_)
            all_goals (first | (simp; done) | omega | (simp; omega))
          case hstore =>
            repeat' (first | rfl | refine env_cons ?_ ?_ | refine st_cons ?_ ?_ ?_ ?_ | refine int_eq ?_ | refine bool_eq ?_ | refine rsl_eq ?_ | refine osl_eq ?_ | refine sl_eq ?_ ?_ ?_ | refine ptr_eq ?_ ?_ ?_ | refine agg_eq ?_ | refine es_cons ?_ ?_ | refine row_cons ?_ ?_)
            all_goals (rw [hus])
          case hst =>
            first | trivial | omega | (simp; done) | (simp; omega)
          case hm => omega
        · intro hb
          try simp only [hB, decide_eq_true_eq, decide_eq_false_iff_not] at hb
          rw [if_neg (by rw [hb]; simp)] at hus
          refine AW.skip ?_
          refine hK18 _ _ _ ?_; clear hK18
          -- region 15
          refine AW.regionK 0 (fun _ => none) [2, 3, 6, 32, 33, 38, 39] [2, 3, 11] ?_
          simp only [go_sem, reduceIte, reduceCtorEq, Nat.reduceAdd, Nat.reduceMul, Nat.reduceEqDiff, Nat.reduceLT, Nat.reduceLeDiff, Nat.reduceSub, Nat.reducePow, Nat.reduceBEq, Int.reduceToNat, List.reduceReplicate, htl, hlen, renC_tabO]
          repeat with_reducible refine cj ?_ ?_
          all_goals try first | omega
          rw [← hQl3]
          change Exists _
          refine ⟨_, ?hm, q + 1, ?_, ?_, ?_, ?_, ?_, ?_, rfl, ?henv, ?hstore, ?hst⟩
          case henv =>
            repeat' (first | rfl | refine env_cons ?_ ?_ | refine st_cons ?_ ?_ ?_ ?_ | refine int_eq ?_ | refine bool_eq ?_ | refine rsl_eq ?_ | refine osl_eq ?_ | refine sl_eq ?_ ?_ ?_ | refine ptr_eq ?_ ?_ ?_ | refine agg_eq ?_ | refine es_cons ?_ ?_ | refine row_cons ?_ ?_)
            all_goals (first | (simp; done) | omega | (simp; omega))
          case hstore =>
            repeat' (first | rfl | refine env_cons ?_ ?_ | refine st_cons ?_ ?_ ?_ ?_ | refine int_eq ?_ | refine bool_eq ?_ | refine rsl_eq ?_ | refine osl_eq ?_ | refine sl_eq ?_ ?_ ?_ | refine ptr_eq ?_ ?_ ?_ | refine agg_eq ?_ | refine es_cons ?_ ?_ | refine row_cons ?_ ?_)
            all_goals (rw [hus])
          case hst =>
            first | trivial | omega | (simp; done) | (simp; omega)
          case hm => omega
      · intro hb
        try simp only [hB, decide_eq_true_eq, decide_eq_false_iff_not] at hb
        have hq : q = i := by omega
        subst hq
        refine AW.keep [2, 3, 32, 33] [2, 3, 11] ?_
        try simp only [go_sem, reduceIte, reduceCtorEq, Nat.reduceAdd, Nat.reduceMul, Nat.reduceEqDiff, Nat.reduceLT, Nat.reduceLeDiff, Nat.reduceSub, Nat.reducePow, Nat.reduceBEq, Int.reduceToNat, List.reduceReplicate]
        refine AW.exit ?_
        rw [← hQl3]
        refine hK13 _ _ _ ?_; clear hK13
        -- region 16
        refine AW.regionK 0 (fun _ => none) [2, 3, 32, 33] [2, 3, 11] ?_
        simp only [go_sem, reduceIte, reduceCtorEq, Nat.reduceAdd, Nat.reduceMul, Nat.reduceEqDiff, Nat.reduceLT, Nat.reduceLeDiff, Nat.reduceSub, Nat.reducePow, Nat.reduceBEq, Int.reduceToNat, List.reduceReplicate, htl, hlen, renC_tabO]
        repeat with_reducible refine cj ?_ ?_
        all_goals try first | omega
        rw [← hQl2]
        change Exists _
        refine ⟨_, ?hm, k + 1, ?_, ?_, ?_, ?_, ?_, ?_, rfl, ?henv, ?hstore, ?hst⟩
        case henv =>
          repeat' (first | rfl | refine env_cons ?_ ?_ | refine st_cons ?_ ?_ ?_ ?_ | refine int_eq ?_ | refine bool_eq ?_ | refine rsl_eq ?_ | refine osl_eq ?_ | refine sl_eq ?_ ?_ ?_ | refine ptr_eq ?_ ?_ ?_ | refine agg_eq ?_ | refine es_cons ?_ ?_ | refine row_cons ?_ ?_)
          all_goals (first | (simp; done) | omega | (simp; omega))
        case hstore =>
          repeat' (first | rfl | refine env_cons ?_ ?_ | refine st_cons ?_ ?_ ?_ ?_ | refine int_eq ?_ | refine bool_eq ?_ | refine rsl_eq ?_ | refine osl_eq ?_ | refine sl_eq ?_ ?_ ?_ | refine ptr_eq ?_ ?_ ?_ | refine agg_eq ?_ | refine es_cons ?_ ?_ | refine row_cons ?_ ?_)
          all_goals rfl
        case hst =>
          first | trivial | omega | (simp; done) | (simp; omega)
        case hm => omega
    · intro hb
      try simp only [hB, decide_eq_true_eq, decide_eq_false_iff_not] at hb
      refine AW.keep [2, 3] [2, 3, 11] ?_
      try simp only [go_sem, reduceIte, reduceCtorEq, Nat.reduceAdd, Nat.reduceMul, Nat.reduceEqDiff, Nat.reduceLT, Nat.reduceLeDiff, Nat.reduceSub, Nat.reducePow, Nat.reduceBEq, Int.reduceToNat, List.reduceReplicate]
      refine AW.exit ?_
      rw [← hQl2]
      refine hK9 _ _ _ ?_; clear hK9
      refine AW.seq fun K21 hK21 => ?_
      -- region 17
      refine AW.regionK 0 (fun _ => none) [2] [2, 11] ?_
      simp only [go_sem, reduceIte, reduceCtorEq, Nat.reduceAdd, Nat.reduceMul, Nat.reduceEqDiff, Nat.reduceLT, Nat.reduceLeDiff, Nat.reduceSub, Nat.reducePow, Nat.reduceBEq, Int.reduceToNat, List.reduceReplicate, htl, hlen, renC_tabO]
      repeat with_reducible refine cj ?_ ?_
      all_goals try first | omega
      refine hK21 _ _ _ ?_; clear hK21
      refine AW.ret ?_
      rw [← hQr]
      simp only [go_sem, reduceIte, reduceCtorEq, Nat.reduceAdd, Nat.reduceMul, Nat.reduceEqDiff, Nat.reduceLT, Nat.reduceLeDiff, Nat.reduceSub, Nat.reducePow, Nat.reduceBEq, Int.reduceToNat, List.reduceReplicate, htl, hlen, renC_tabO]
      have hk : k = i := by omega
      subst hk
      refine Wk.of_eq ?_
      rw [List.take_of_length_le (by rw [tabO_len, (hs.warsh' (Nat.le_refl _)).len]; exact Nat.le_refl _), vwcF_tabO]
      rfl
theorem compose_r (n : Nat) (a b : List (List Bool)) (ha : Sq n a) (hb0 : Sq n b) (hn : n ≤ 512) : Reads Tryd.prog 76 true [relB a, relB b] (relB (compT n a b)) := by
  have hla := ha.len
  have hlb := hb0.len
  have htla := tabR_len a
  have htlb := tabR_len b
  have hemp := empty_u n hn
  have hwn := wordsN_rng (n := (n : Int)) (by omega)
  have hh := fun i j hi hj => rhas_r n a ha hn i j hi hj
  unfold relB at *
  refine Reads.bodyF (rs := [.cell 4 24]) Tryd.func76 rfl Tryd.ntmps76 rfl (by simp) ?_
  generalize hQr : retQ _ _ _ = Qr
  refine AW.seq fun K1 hK1 => ?_
  -- region 0
  refine AW.regionK 0 (fun _ => none) [2, 3, 4] [2, 3, 4] ?_
  simp only [go_sem, reduceIte, reduceCtorEq, Nat.reduceAdd, Nat.reduceMul, Nat.reduceEqDiff, Nat.reduceLT, Nat.reduceLeDiff, Nat.reduceSub, Nat.reducePow, Nat.reduceBEq, Int.reduceToNat, List.reduceReplicate, htla, hla, htlb, hlb, renC_tabO]
  repeat with_reducible refine cj ?_ ?_
  all_goals try first | omega
  refine hK1 _ _ _ ?_; clear hK1
  refine AW.seq fun K2 hK2 => ?_
  -- region 1
  refine AW.regionK 0 (fun ii => if ii = 3 then some (.upd [] (fun k => [(0, some ⟨k, k, 2, tabO (List.replicate n (List.replicate n false))⟩)]) (fun k => .agg [.sl ⟨0, k, none⟩ 0 n none])) else none) [2, 3, 4, 5] [2, 3, 4, 5, 11] ?_
  simp only [go_sem, reduceIte, reduceCtorEq, Nat.reduceAdd, Nat.reduceMul, Nat.reduceEqDiff, Nat.reduceLT, Nat.reduceLeDiff, Nat.reduceSub, Nat.reducePow, Nat.reduceBEq, Int.reduceToNat, List.reduceReplicate, htla, hla, htlb, hlb, renC_tabO]
  repeat with_reducible refine cj ?_ ?_
  all_goals try first | (exact hemp) | omega | exact ent (by kernel_rfl)
  refine hK2 _ _ _ ?_; clear hK2
  refine AW.seq fun K3 hK3 => ?_
  refine AW.seq fun K4 hK4 => ?_
  -- region 2
  refine AW.regionK 0 (fun _ => none) [2, 3, 4, 5, 14, 15] [2, 3, 4, 5, 11] ?_
  simp only [go_sem, reduceIte, reduceCtorEq, Nat.reduceAdd, Nat.reduceMul, Nat.reduceEqDiff, Nat.reduceLT, Nat.reduceLeDiff, Nat.reduceSub, Nat.reducePow, Nat.reduceBEq, Int.reduceToNat, List.reduceReplicate, htla, hla, htlb, hlb, renC_tabO]
  repeat with_reducible refine cj ?_ ?_
  all_goals try first | omega
  refine hK4 _ _ _ ?_; clear hK4
  refine AW.block ?_
  -- loop 1
  refine AW.loopE (fun mm ee ss kk => ∃ (i g2 v2 g3 v3 g4 v4 g5 v5 g v : Nat), n - i = mm ∧ ee = [(2, .ptr ⟨2, g2, none⟩ 0 0), (3, .ptr ⟨3, g3, none⟩ 0 0), (4, .ptr ⟨4, g4, none⟩ 0 0), (5, .ptr ⟨5, g5, none⟩ 0 0), (14, .int .i64 n), (15, .int .i64 (i : Nat))] ∧ ss = [(2, some ⟨g2, v2, 1, [[.rsl 2 (tabR a)]]⟩), (3, some ⟨g3, v3, 1, [[.rsl 2 (tabR b)]]⟩), (4, some ⟨g4, v4, 1, [[.nilsl]]⟩), (5, some ⟨g5, v5, 1, [[.sl ⟨11, g, none⟩ 0 n none]]⟩), (11, some ⟨g, v, 2, tabO (iter (fun i t => iter (compI a b i) n t) i (zeroT n))⟩)] ∧ (i ≤ n)) ?_ ?_
  · refine ⟨_, 0, ?_, ?_, ?_, ?_, ?_, ?_, ?_, ?_, ?_, ?_, rfl, ?henv, ?hstore, ?hst⟩
    case henv =>
      repeat' (first | rfl | refine env_cons ?_ ?_ | refine st_cons ?_ ?_ ?_ ?_ | refine int_eq ?_ | refine bool_eq ?_ | refine rsl_eq ?_ | refine osl_eq ?_ | refine sl_eq ?_ ?_ ?_ | refine ptr_eq ?_ ?_ ?_ | refine agg_eq ?_ | refine es_cons ?_ ?_ | refine row_cons ?_ ?_)
      all_goals (first | (simp; done) | omega | (simp; omega))
    case hstore =>
      repeat' (first | rfl | refine env_cons ?_ ?_ | refine st_cons ?_ ?_ ?_ ?_ | refine int_eq ?_ | refine bool_eq ?_ | refine rsl_eq ?_ | refine osl_eq ?_ | refine sl_eq ?_ ?_ ?_ | refine ptr_eq ?_ ?_ ?_ | refine agg_eq ?_ | refine es_cons ?_ ?_ | refine row_cons ?_ ?_)
      all_goals (first | (simp; done) | omega | (simp; omega))
    case hst =>
      first | trivial | omega | (simp; done) | (simp; omega)
  rintro mm ee ss kk ⟨i, g2, v2, g3, v3, g4, v4, g5, v5, g, v, rfl, rfl, rfl, hI⟩
  generalize hQl1 : thenQ _ _ = Ql1
  refine AW.seq fun K5 hK5 => ?_
  -- region 3
  refine AW.regionK 0 (fun _ => none) [2, 3, 4, 5, 14, 15, 16] [2, 3, 4, 5, 11] ?_
  simp only [go_sem, reduceIte, reduceCtorEq, Nat.reduceAdd, Nat.reduceMul, Nat.reduceEqDiff, Nat.reduceLT, Nat.reduceLeDiff, Nat.reduceSub, Nat.reducePow, Nat.reduceBEq, Int.reduceToNat, List.reduceReplicate, htla, hla, htlb, hlb, renC_tabO]
  repeat with_reducible refine cj ?_ ?_
  all_goals try first | omega
  refine hK5 _ _ _ ?_; clear hK5
  refine AW.seq fun K6 hK6 => ?_
  -- cond 1
  refine AW.cond rfl (by simp only [go_sem, reduceIte, reduceCtorEq, Nat.reduceAdd, Nat.reduceMul, Nat.reduceEqDiff, Nat.reduceLT, Nat.reduceLeDiff, Nat.reduceSub, Nat.reducePow, Nat.reduceBEq, Int.reduceToNat, List.reduceReplicate]) ?_ ?_
  · intro hb
    try simp only [hB, decide_eq_true_eq, decide_eq_false_iff_not] at hb
    refine AW.skip ?_
    refine hK6 _ _ _ ?_; clear hK6
    refine AW.seq fun K7 hK7 => ?_
    refine AW.block ?_
    refine AW.seq fun K8 hK8 => ?_
    -- region 4
    refine AW.regionK 0 (fun _ => none) [2, 3, 4, 5, 6, 14, 15] [2, 3, 4, 5, 11] ?_
    simp only [go_sem, reduceIte, reduceCtorEq, Nat.reduceAdd, Nat.reduceMul, Nat.reduceEqDiff, Nat.reduceLT, Nat.reduceLeDiff, Nat.reduceSub, Nat.reducePow, Nat.reduceBEq, Int.reduceToNat, List.reduceReplicate, htla, hla, htlb, hlb, renC_tabO]
    repeat with_reducible refine cj ?_ ?_
    all_goals try first | omega
    refine hK8 _ _ _ ?_; clear hK8
    refine AW.seq fun K9 hK9 => ?_
    -- region 5
    refine AW.regionK 0 (fun _ => none) [2, 3, 4, 5, 6, 14, 15, 20, 21] [2, 3, 4, 5, 11] ?_
    simp only [go_sem, reduceIte, reduceCtorEq, Nat.reduceAdd, Nat.reduceMul, Nat.reduceEqDiff, Nat.reduceLT, Nat.reduceLeDiff, Nat.reduceSub, Nat.reducePow, Nat.reduceBEq, Int.reduceToNat, List.reduceReplicate, htla, hla, htlb, hlb, renC_tabO]
    repeat with_reducible refine cj ?_ ?_
    all_goals try first | omega
    refine hK9 _ _ _ ?_; clear hK9
    refine AW.block ?_
    -- loop 2
    refine AW.loopE (fun mm ee ss kk => ∃ (q g2 v2 g3 v3 g4 v4 g5 v5 g v : Nat), n - q = mm ∧ ee = [(2, .ptr ⟨2, g2, none⟩ 0 0), (3, .ptr ⟨3, g3, none⟩ 0 0), (4, .ptr ⟨4, g4, none⟩ 0 0), (5, .ptr ⟨5, g5, none⟩ 0 0), (6, .int .i64 (i : Nat)), (14, .int .i64 n), (15, .int .i64 (i : Nat)), (20, .int .i64 n), (21, .int .i64 (q : Nat))] ∧ ss = [(2, some ⟨g2, v2, 1, [[.rsl 2 (tabR a)]]⟩), (3, some ⟨g3, v3, 1, [[.rsl 2 (tabR b)]]⟩), (4, some ⟨g4, v4, 1, [[.nilsl]]⟩), (5, some ⟨g5, v5, 1, [[.sl ⟨11, g, none⟩ 0 n none]]⟩), (11, some ⟨g, v, 2, tabO (iter (compI a b i) q (iter (fun i t => iter (compI a b i) n t) i (zeroT n)))⟩)] ∧ (q ≤ n)) ?_ ?_
    · refine ⟨_, 0, ?_, ?_, ?_, ?_, ?_, ?_, ?_, ?_, ?_, ?_, rfl, ?henv, ?hstore, ?hst⟩
      case henv =>
        repeat' (first | rfl | refine env_cons ?_ ?_ | refine st_cons ?_ ?_ ?_ ?_ | refine int_eq ?_ | refine bool_eq ?_ | refine rsl_eq ?_ | refine osl_eq ?_ | refine sl_eq ?_ ?_ ?_ | refine ptr_eq ?_ ?_ ?_ | refine agg_eq ?_ | refine es_cons ?_ ?_ | refine row_cons ?_ ?_)
        all_goals (first | (simp; done) | omega | (simp; omega))
      case hstore =>
        repeat' (first | rfl | refine env_cons ?_ ?_ | refine st_cons ?_ ?_ ?_ ?_ | refine int_eq ?_ | refine bool_eq ?_ | refine rsl_eq ?_ | refine osl_eq ?_ | refine sl_eq ?_ ?_ ?_ | refine ptr_eq ?_ ?_ ?_ | refine agg_eq ?_ | refine es_cons ?_ ?_ | refine row_cons ?_ ?_)
        all_goals (first | (simp; done) | omega | (simp; omega))
      case hst =>
        first | trivial | omega | (simp; done) | (simp; omega)
    rintro mm ee ss kk ⟨q, g2, v2, g3, v3, g4, v4, g5, v5, g, v, rfl, rfl, rfl, hI⟩
    generalize hQl2 : thenQ _ _ = Ql2
    refine AW.seq fun K10 hK10 => ?_
    -- region 6
    refine AW.regionK 0 (fun _ => none) [2, 3, 4, 5, 6, 14, 15, 20, 21, 22] [2, 3, 4, 5, 11] ?_
    simp only [go_sem, reduceIte, reduceCtorEq, Nat.reduceAdd, Nat.reduceMul, Nat.reduceEqDiff, Nat.reduceLT, Nat.reduceLeDiff, Nat.reduceSub, Nat.reducePow, Nat.reduceBEq, Int.reduceToNat, List.reduceReplicate, htla, hla, htlb, hlb, renC_tabO]
    repeat with_reducible refine cj ?_ ?_
    all_goals try first | omega
    refine hK10 _ _ _ ?_; clear hK10
    refine AW.seq fun K11 hK11 => ?_
    -- cond 2
    refine AW.cond rfl (by simp only [go_sem, reduceIte, reduceCtorEq, Nat.reduceAdd, Nat.reduceMul, Nat.reduceEqDiff, Nat.reduceLT, Nat.reduceLeDiff, Nat.reduceSub, Nat.reducePow, Nat.reduceBEq, Int.reduceToNat, List.reduceReplicate]) ?_ ?_
    · intro hb
      try simp only [hB, decide_eq_true_eq, decide_eq_false_iff_not] at hb
      have hsu : Sq n (iter (compI a b i) q (iter (fun i t => iter (compI a b i) n t) i (zeroT n))) := Sq.compK hb0 (Sq.comp' hb0 (by omega)) (by omega) (by omega)
      have hus : iter (compI a b i) (q + 1) (iter (fun i t => iter (compI a b i) n t) i (zeroT n)) = compI a b i q (iter (compI a b i) q (iter (fun i t => iter (compI a b i) n t) i (zeroT n))) := rfl
      rw [compI_eq] at hus
      generalize hU : iter (compI a b i) q (iter (fun i t => iter (compI a b i) n t) i (zeroT n)) = U at *
      have hhr := hh i q (by omega) (by omega)
      have hto := tabO_len U
      have hsl := hsu.len
      have hgq := tabO_get (t := U) (i := i) (by omega)
      have hgk := tabR_get (t := b) (i := q) (by omega)
      have hrq := hsu.rowLen (i := i) (by omega)
      have hrk := hb0.rowLen (i := q) (by omega)
      have hwq := setW_len' (rowT U i)
      rw [hrq] at hwq
      have hm := fun g v => merge_p n U hsu hn i (by omega) (rowT b q) hrk g v none
      unfold rowB at hm
      rw [hrk] at hm
      refine AW.skip ?_
      refine hK11 _ _ _ ?_; clear hK11
      refine AW.seq fun K12 hK12 => ?_
      refine AW.block ?_
      refine AW.seq fun K13 hK13 => ?_
      -- region 7
      refine AW.regionK 0 (fun _ => none) [2, 3, 4, 5, 6, 7, 14, 15, 20, 21] [2, 3, 4, 5, 11] ?_
      simp only [go_sem, reduceIte, reduceCtorEq, Nat.reduceAdd, Nat.reduceMul, Nat.reduceEqDiff, Nat.reduceLT, Nat.reduceLeDiff, Nat.reduceSub, Nat.reducePow, Nat.reduceBEq, Int.reduceToNat, List.reduceReplicate, htla, hla, htlb, hlb, renC_tabO]
      repeat with_reducible refine cj ?_ ?_
      all_goals try first | omega
      refine hK13 _ _ _ ?_; clear hK13
      refine AW.seq fun K14 hK14 => ?_
      -- region 8
      refine AW.regionK 0 (fun ii => if ii = 3 then some (.reads false (.bool (atT a i q))) else none) [2, 3, 4, 5, 6, 7, 14, 15, 20, 21, 27] [2, 3, 4, 5, 11] ?_
      simp only [go_sem, reduceIte, reduceCtorEq, Nat.reduceAdd, Nat.reduceMul, Nat.reduceEqDiff, Nat.reduceLT, Nat.reduceLeDiff, Nat.reduceSub, Nat.reducePow, Nat.reduceBEq, Int.reduceToNat, List.reduceReplicate, htla, hla, htlb, hlb, renC_tabO]
      repeat with_reducible refine cj ?_ ?_
      all_goals try first | (exact hhr) | omega | exact ent (by kernel_rfl)
      refine hK14 _ _ _ ?_; clear hK14
      -- cond 3
      refine AW.cond rfl (by simp only [go_sem, reduceIte, reduceCtorEq, Nat.reduceAdd, Nat.reduceMul, Nat.reduceEqDiff, Nat.reduceLT, Nat.reduceLeDiff, Nat.reduceSub, Nat.reducePow, Nat.reduceBEq, Int.reduceToNat, List.reduceReplicate]) ?_ ?_
      · intro hb
        try simp only [hB, decide_eq_true_eq, decide_eq_false_iff_not] at hb
        rw [if_pos hb] at hus
        unfold orRow at hus
        -- region 9
        refine AW.regionD mixed 0 (fun ii => if ii = 10 then some (.upd [11] (fun kk => [(0, some ⟨g, kk, 2, tabO (U.set i (List.zipWith (· || ·) (rowT U i) (rowT b q)))⟩)]) (fun _ => .tup [])) else none) [2, 3, 4, 5, 6, 14, 15, 20, 21] [2, 3, 4, 5, 11] ?_
        simp only [go_sem, reduceIte, reduceCtorEq, Nat.reduceAdd, Nat.reduceMul, Nat.reduceEqDiff, Nat.reduceLT, Nat.reduceLeDiff, Nat.reduceSub, Nat.reducePow, Nat.reduceBEq, Int.reduceToNat, List.reduceReplicate, htla, hla, htlb, hlb, renC_tabO, hgq, hgk, rowO, rowB, hrq, hrk, hwq, renC_tabO]
        repeat with_reducible refine cj ?_ ?_
        all_goals try first | (exact hm _ _) | omega | exact chk (by kernel_rfl) | exact ent (by kernel_rfl)
        refine hK12 _ _ _ ?_; clear hK12
        -- region 10
        refine AW.regionK 0 (fun _ => none) [2, 3, 4, 5, 6, 14, 15, 20, 21] [2, 3, 4, 5, 11] ?_
        simp only [go_sem, reduceIte, reduceCtorEq, Nat.reduceAdd, Nat.reduceMul, Nat.reduceEqDiff, Nat.reduceLT, Nat.reduceLeDiff, Nat.reduceSub, Nat.reducePow, Nat.reduceBEq, Int.reduceToNat, List.reduceReplicate, htla, hla, htlb, hlb, renC_tabO]
        repeat with_reducible refine cj ?_ ?_
        all_goals try first | omega
        rw [← hQl2]
        change Exists _
        refine ⟨_, ?hm, q + 1, ?_, ?_, ?_, ?_, ?_, ?_, ?_, ?_, ?_, ?_, rfl, ?henv, ?hstore, ?hst⟩
        case henv =>
          repeat' (first | rfl | refine env_cons ?_ ?_ | refine st_cons ?_ ?_ ?_ ?_ | refine int_eq ?_ | refine bool_eq ?_ | refine rsl_eq ?_ | refine osl_eq ?_ | refine sl_eq ?_ ?_ ?_ | refine ptr_eq ?_ ?_ ?_ | refine agg_eq ?_ | refine es_cons ?_ ?_ | refine row_cons ?_ ?_)
          all_goals (first | (simp; done) | omega | (simp; omega))
        case hstore =>
          repeat' (first | rfl | refine env_cons ?_ ?_ | refine st_cons ?_ ?_ ?_ ?_ | refine int_eq ?_ | refine bool_eq ?_ | refine rsl_eq ?_ | refine osl_eq ?_ | refine sl_eq ?_ ?_ ?_ | refine ptr_eq ?_ ?_ ?_ | refine agg_eq ?_ | refine es_cons ?_ ?_ | refine row_cons ?_ ?_)
          all_goals (rw [hus])
        case hst =>
          first | trivial | omega | (simp; done) | (simp; omega)
        case hm => omega
      · intro hb
        try simp only [hB, decide_eq_true_eq, decide_eq_false_iff_not] at hb
        rw [if_neg (by rw [hb]; simp)] at hus
        refine AW.skip ?_
        refine hK12 _ _ _ ?_; clear hK12
        -- region 10
        refine AW.regionK 0 (fun _ => none) [2, 3, 4, 5, 6, 14, 15, 20, 21] [2, 3, 4, 5, 11] ?_
        simp only [go_sem, reduceIte, reduceCtorEq, Nat.reduceAdd, Nat.reduceMul, Nat.reduceEqDiff, Nat.reduceLT, Nat.reduceLeDiff, Nat.reduceSub, Nat.reducePow, Nat.reduceBEq, Int.reduceToNat, List.reduceReplicate, htla, hla, htlb, hlb, renC_tabO]
        repeat with_reducible refine cj ?_ ?_
        all_goals try first | omega
        rw [← hQl2]
        change Exists _
        refine ⟨_, ?hm, q + 1, ?_, ?_, ?_, ?_, ?_, ?_, ?_, ?_, ?_, ?_, rfl, ?henv, ?hstore, ?hst⟩
        case henv =>
          repeat' (first | rfl | refine env_cons ?_ ?_ | refine st_cons ?_ ?_ ?_ ?_ | refine int_eq ?_ | refine bool_eq ?_ | refine rsl_eq ?_ | refine osl_eq ?_ | refine sl_eq ?_ ?_ ?_ | refine ptr_eq ?_ ?_ ?_ | refine agg_eq ?_ | refine es_cons ?_ ?_ | refine row_cons ?_ ?_)
          all_goals (first | (simp; done) | omega | (simp; omega))
        case hstore =>
          repeat' (first | rfl | refine env_cons ?_ ?_ | refine st_cons ?_ ?_ ?_ ?_ | refine int_eq ?_ | refine bool_eq ?_ | refine rsl_eq ?_ | refine osl_eq ?_ | refine sl_eq ?_ ?_ ?_ | refine ptr_eq ?_ ?_ ?_ | refine agg_eq ?_ | refine es_cons ?_ ?_ | refine row_cons ?_ ?_)
          all_goals (rw [hus])
        case hst =>
          first | trivial | omega | (simp; done) | (simp; omega)
        case hm => omega
    · intro hb
      try simp only [hB, decide_eq_true_eq, decide_eq_false_iff_not] at hb
      have hq : q = n := by omega
      subst hq
      refine AW.keep [2, 3, 4, 5, 14, 15] [2, 3, 4, 5, 11] ?_
      try simp only [go_sem, reduceIte, reduceCtorEq, Nat.reduceAdd, Nat.reduceMul, Nat.reduceEqDiff, Nat.reduceLT, Nat.reduceLeDiff, Nat.reduceSub, Nat.reducePow, Nat.reduceBEq, Int.reduceToNat, List.reduceReplicate]
      refine AW.exit ?_
      rw [← hQl2]
      refine hK7 _ _ _ ?_; clear hK7
      -- region 11
      refine AW.regionK 0 (fun _ => none) [2, 3, 4, 5, 14, 15] [2, 3, 4, 5, 11] ?_
      simp only [go_sem, reduceIte, reduceCtorEq, Nat.reduceAdd, Nat.reduceMul, Nat.reduceEqDiff, Nat.reduceLT, Nat.reduceLeDiff, Nat.reduceSub, Nat.reducePow, Nat.reduceBEq, Int.reduceToNat, List.reduceReplicate, htla, hla, htlb, hlb, renC_tabO]
      repeat with_reducible refine cj ?_ ?_
      all_goals try first | omega
      rw [← hQl1]
      change Exists _
      refine ⟨_, ?hm, i + 1, ?_, ?_, ?_, ?_, ?_, ?_, ?_, ?_, ?_, ?_, rfl, ?henv, ?hstore, ?hst⟩
      case henv =>
        repeat' (first | rfl | refine env_cons ?_ ?_ | refine st_cons ?_ ?_ ?_ ?_ | refine int_eq ?_ | refine bool_eq ?_ | refine rsl_eq ?_ | refine osl_eq ?_ | refine sl_eq ?_ ?_ ?_ | refine ptr_eq ?_ ?_ ?_ | refine agg_eq ?_ | refine es_cons ?_ ?_ | refine row_cons ?_ ?_)
        all_goals (first | (simp; done) | omega | (simp; omega))
      case hstore =>
        repeat' (first | rfl | refine env_cons ?_ ?_ | refine st_cons ?_ ?_ ?_ ?_ | refine int_eq ?_ | refine bool_eq ?_ | refine rsl_eq ?_ | refine osl_eq ?_ | refine sl_eq ?_ ?_ ?_ | refine ptr_eq ?_ ?_ ?_ | refine agg_eq ?_ | refine es_cons ?_ ?_ | refine row_cons ?_ ?_)
        all_goals rfl
      case hst =>
        first | trivial | omega | (simp; done) | (simp; omega)
      case hm => omega
  · intro hb
    try simp only [hB, decide_eq_true_eq, decide_eq_false_iff_not] at hb
    refine AW.keep [4, 5] [4, 5, 11] ?_
    try simp only [go_sem, reduceIte, reduceCtorEq, Nat.reduceAdd, Nat.reduceMul, Nat.reduceEqDiff, Nat.reduceLT, Nat.reduceLeDiff, Nat.reduceSub, Nat.reducePow, Nat.reduceBEq, Int.reduceToNat, List.reduceReplicate]
    refine AW.exit ?_
    rw [← hQl1]
    refine hK3 _ _ _ ?_; clear hK3
    refine AW.seq fun K15 hK15 => ?_
    -- region 12
    refine AW.regionK 0 (fun _ => none) [4] [4, 11] ?_
    simp only [go_sem, reduceIte, reduceCtorEq, Nat.reduceAdd, Nat.reduceMul, Nat.reduceEqDiff, Nat.reduceLT, Nat.reduceLeDiff, Nat.reduceSub, Nat.reducePow, Nat.reduceBEq, Int.reduceToNat, List.reduceReplicate, htla, hla, htlb, hlb, renC_tabO]
    repeat with_reducible refine cj ?_ ?_
    all_goals try first | omega
    refine hK15 _ _ _ ?_; clear hK15
    refine AW.ret ?_
    rw [← hQr]
    simp only [go_sem, reduceIte, reduceCtorEq, Nat.reduceAdd, Nat.reduceMul, Nat.reduceEqDiff, Nat.reduceLT, Nat.reduceLeDiff, Nat.reduceSub, Nat.reducePow, Nat.reduceBEq, Int.reduceToNat, List.reduceReplicate, htla, hla, htlb, hlb, renC_tabO]
    have hk : i = n := by omega
    subst hk
    refine Wk.of_eq ?_
    rw [List.take_of_length_le (by rw [tabO_len, (Sq.comp' hb0 (Nat.le_refl _)).len]; exact Nat.le_refl _), vwcF_tabO]
    rfl
end Go.Proofs.P

namespace Go.Proofs.P
open Go.AM Go
set_option maxRecDepth 100000
set_option maxHeartbeats 1000000
def longR (rs : List USet) : Prop := rs.length ≤ 9223372036854775807 ∧ ∀ x ∈ rs, x.W.length ≤ 9223372036854775807
theorem valid_g (n : Nat) (t : List (List Bool)) (hs : Sq n t) (hn : n ≤ 512) : Reads Tryd.prog 63 false [relB t] (.bool true) := by
  have h := rvalid_r (t.map SB) (by simp [hs.len]; omega) (fun x hx => by
    obtain ⟨b, hb, rfl⟩ := List.mem_map.1 hx
    have := hs.row b hb
    have hwn := wordsN_rng (n := (b.length : Int)) (by omega)
    show (setW b b.length).length ≤ _
    rw [setW_len']; omega)
  rw [valid_tab hs hn, ← relB_SB] at h
  exact h
end Go.Proofs.P

namespace Go.Proofs.P
open Go.AM Go
set_option maxRecDepth 100000
set_option maxHeartbeats 1000000
theorem acyclic_g (n : Nat) (t : List (List Bool)) (hs : Sq n t) (hn : n ≤ 512) : Reads Tryd.prog 75 false [relB t] (.bool (acyc n t)) := by
  have h := valid_g n t hs hn
  have ha := closure_r n t hs hn
  have hsw := hs.warsh
  have hlw : (tabR (warsh n t)).length = n := by rw [tabR_len, hsw.len]
  have hh := fun j hj => rhas_r n (warsh n t) hsw hn j j hj hj
  have hac : acyc n t = (List.range n).all fun i => !atT (warsh n t) i i := rfl
  generalize warsh n t = c at *
  unfold relB at *
  refine Reads.body (rs := [.tmp 2]) Tryd.func75 rfl Tryd.ntmps75 rfl (by simp) ?_
  generalize hQr : retQ _ _ _ = Qr
  refine AW.seq fun K1 hK1 => ?_
  -- region 0
  refine AW.regionK 0 (fun _ => none) [1] [1] ?_
  simp only [go_sem, reduceIte, reduceCtorEq, Nat.reduceAdd, Nat.reduceMul, Nat.reduceEqDiff, Nat.reduceLT, Nat.reduceLeDiff, Nat.reduceSub, Nat.reducePow, Nat.reduceBEq, Int.reduceToNat, List.reduceReplicate, hlw]
  repeat with_reducible refine cj ?_ ?_
  all_goals try first | omega
  refine hK1 _ _ _ ?_; clear hK1
  refine AW.seq fun K2 hK2 => ?_
  refine AW.seq fun K3 hK3 => ?_
  -- region 1
  refine AW.regionK 0 (fun ii => if ii = 1 then some (.reads false (.bool true)) else none) [1, 7] [1] ?_
  simp only [go_sem, reduceIte, reduceCtorEq, Nat.reduceAdd, Nat.reduceMul, Nat.reduceEqDiff, Nat.reduceLT, Nat.reduceLeDiff, Nat.reduceSub, Nat.reducePow, Nat.reduceBEq, Int.reduceToNat, List.reduceReplicate, hlw]
  repeat with_reducible refine cj ?_ ?_
  all_goals try first | (exact h) | omega | exact ent (by kernel_rfl)
  refine hK3 _ _ _ ?_; clear hK3
  -- cond 1
  refine AW.cond rfl (by simp only [go_sem, reduceIte, reduceCtorEq, Nat.reduceAdd, Nat.reduceMul, Nat.reduceEqDiff, Nat.reduceLT, Nat.reduceLeDiff, Nat.reduceSub, Nat.reducePow, Nat.reduceBEq, Int.reduceToNat, List.reduceReplicate]) ?_ ?_
  · intro hb
    try simp only [hB, decide_eq_true_eq, decide_eq_false_iff_not] at hb
    simp at hb
  · intro hb
    try simp only [hB, decide_eq_true_eq, decide_eq_false_iff_not] at hb
    refine AW.skip ?_
    refine hK2 _ _ _ ?_; clear hK2
    refine AW.seq fun K4 hK4 => ?_
    -- region 3
    refine AW.regionK 0 (fun ii => if ii = 1 then some (.reads true (.agg [.rsl 2 (tabR c)])) else none) [3] [3] ?_
    simp only [go_sem, reduceIte, reduceCtorEq, Nat.reduceAdd, Nat.reduceMul, Nat.reduceEqDiff, Nat.reduceLT, Nat.reduceLeDiff, Nat.reduceSub, Nat.reducePow, Nat.reduceBEq, Int.reduceToNat, List.reduceReplicate, hlw]
    repeat with_reducible refine cj ?_ ?_
    all_goals try first | (exact ha) | omega | exact ent (by kernel_rfl)
    refine hK4 _ _ _ ?_; clear hK4
    refine AW.seq fun K5 hK5 => ?_
    refine AW.seq fun K6 hK6 => ?_
    -- region 4
    refine AW.regionK 0 (fun _ => none) [3, 12, 13] [3] ?_
    simp only [go_sem, reduceIte, reduceCtorEq, Nat.reduceAdd, Nat.reduceMul, Nat.reduceEqDiff, Nat.reduceLT, Nat.reduceLeDiff, Nat.reduceSub, Nat.reducePow, Nat.reduceBEq, Int.reduceToNat, List.reduceReplicate, hlw]
    repeat with_reducible refine cj ?_ ?_
    all_goals try first | omega
    refine hK6 _ _ _ ?_; clear hK6
    refine AW.block ?_
    -- loop 1
    refine AW.loopE (fun mm ee ss kk => ∃ (j g3 v3 : Nat), n - j = mm ∧ ee = [(3, .ptr ⟨3, g3, none⟩ 0 0), (12, .int .i64 n), (13, .int .i64 (j : Nat))] ∧ ss = [(3, some ⟨g3, v3, 1, [[.rsl 2 (tabR c)]]⟩)] ∧ (j ≤ n ∧ ((List.range j).all fun i => !atT c i i) = true)) ?_ ?_
    · refine ⟨_, 0, ?_, ?_, rfl, ?henv, ?hstore, ?hst⟩
      case henv =>
        repeat' (first | rfl | refine env_cons ?_ ?_ | refine st_cons ?_ ?_ ?_ ?_ | refine int_eq ?_ | refine bool_eq ?_ | refine rsl_eq ?_ | refine osl_eq ?_ | refine sl_eq ?_ ?_ ?_ | refine ptr_eq ?_ ?_ ?_ | refine agg_eq ?_ | refine es_cons ?_ ?_ | refine row_cons ?_ ?_)
        all_goals (first | (simp; done) | omega | (simp; omega))
      case hstore =>
        repeat' (first | rfl | refine env_cons ?_ ?_ | refine st_cons ?_ ?_ ?_ ?_ | refine int_eq ?_ | refine bool_eq ?_ | refine rsl_eq ?_ | refine osl_eq ?_ | refine sl_eq ?_ ?_ ?_ | refine ptr_eq ?_ ?_ ?_ | refine agg_eq ?_ | refine es_cons ?_ ?_ | refine row_cons ?_ ?_)
        all_goals (first | (simp; done) | omega | (simp; omega))
      case hst =>
        exact ⟨Nat.zero_le _, rfl⟩
    rintro mm ee ss kk ⟨j, g3, v3, rfl, rfl, rfl, hI⟩
    generalize hQl1 : thenQ _ _ = Ql1
    obtain ⟨hj, hall⟩ := hI
    refine AW.seq fun K7 hK7 => ?_
    -- region 5
    refine AW.regionK 0 (fun _ => none) [3, 12, 13, 14] [3] ?_
    simp only [go_sem, reduceIte, reduceCtorEq, Nat.reduceAdd, Nat.reduceMul, Nat.reduceEqDiff, Nat.reduceLT, Nat.reduceLeDiff, Nat.reduceSub, Nat.reducePow, Nat.reduceBEq, Int.reduceToNat, List.reduceReplicate, hlw]
    repeat with_reducible refine cj ?_ ?_
    all_goals try first | omega
    refine hK7 _ _ _ ?_; clear hK7
    refine AW.seq fun K8 hK8 => ?_
    -- cond 2
    refine AW.cond rfl (by simp only [go_sem, reduceIte, reduceCtorEq, Nat.reduceAdd, Nat.reduceMul, Nat.reduceEqDiff, Nat.reduceLT, Nat.reduceLeDiff, Nat.reduceSub, Nat.reducePow, Nat.reduceBEq, Int.reduceToNat, List.reduceReplicate]) ?_ ?_
    · intro hb
      try simp only [hB, decide_eq_true_eq, decide_eq_false_iff_not] at hb
      have hhj := hh j (by omega)
      have hrs := range_all_succ (p := fun i => !atT c i i) j
      rw [hall] at hrs
      refine AW.skip ?_
      refine hK8 _ _ _ ?_; clear hK8
      refine AW.seq fun K9 hK9 => ?_
      refine AW.block ?_
      refine AW.seq fun K10 hK10 => ?_
      -- region 6
      refine AW.regionK 0 (fun _ => none) [3, 4, 12, 13] [3] ?_
      simp only [go_sem, reduceIte, reduceCtorEq, Nat.reduceAdd, Nat.reduceMul, Nat.reduceEqDiff, Nat.reduceLT, Nat.reduceLeDiff, Nat.reduceSub, Nat.reducePow, Nat.reduceBEq, Int.reduceToNat, List.reduceReplicate, hlw]
      repeat with_reducible refine cj ?_ ?_
      all_goals try first | omega
      refine hK10 _ _ _ ?_; clear hK10
      refine AW.seq fun K11 hK11 => ?_
      -- region 7
      refine AW.regionK 0 (fun ii => if ii = 3 then some (.reads false (.bool (atT c j j))) else none) [3, 12, 13, 19] [3] ?_
      simp only [go_sem, reduceIte, reduceCtorEq, Nat.reduceAdd, Nat.reduceMul, Nat.reduceEqDiff, Nat.reduceLT, Nat.reduceLeDiff, Nat.reduceSub, Nat.reducePow, Nat.reduceBEq, Int.reduceToNat, List.reduceReplicate, hlw]
      repeat with_reducible refine cj ?_ ?_
      all_goals try first | (exact hhj) | omega | exact ent (by kernel_rfl)
      refine hK11 _ _ _ ?_; clear hK11
      -- cond 3
      refine AW.cond rfl (by simp only [go_sem, reduceIte, reduceCtorEq, Nat.reduceAdd, Nat.reduceMul, Nat.reduceEqDiff, Nat.reduceLT, Nat.reduceLeDiff, Nat.reduceSub, Nat.reducePow, Nat.reduceBEq, Int.reduceToNat, List.reduceReplicate]) ?_ ?_
      · intro hb
        try simp only [hB, decide_eq_true_eq, decide_eq_false_iff_not] at hb
        refine AW.seq fun K12 hK12 => ?_
        -- region 8
        refine AW.regionK 0 (fun _ => none) [2] [] ?_
        simp only [go_sem, reduceIte, reduceCtorEq, Nat.reduceAdd, Nat.reduceMul, Nat.reduceEqDiff, Nat.reduceLT, Nat.reduceLeDiff, Nat.reduceSub, Nat.reducePow, Nat.reduceBEq, Int.reduceToNat, List.reduceReplicate, hlw]
        repeat with_reducible refine cj ?_ ?_
        all_goals try first | omega
        refine hK12 _ _ _ ?_; clear hK12
        refine AW.ret ?_
        rw [← hQl1]
        rw [← hQr]
        simp only [go_sem, reduceIte, reduceCtorEq, Nat.reduceAdd, Nat.reduceMul, Nat.reduceEqDiff, Nat.reduceLT, Nat.reduceLeDiff, Nat.reduceSub, Nat.reducePow, Nat.reduceBEq, Int.reduceToNat, List.reduceReplicate, hlw]
        exact Wk.of_eq (by rw [hac, range_all_false (j := j) (by omega) (by rw [hb]; rfl)])
      · intro hb
        try simp only [hB, decide_eq_true_eq, decide_eq_false_iff_not] at hb
        refine AW.skip ?_
        refine hK9 _ _ _ ?_; clear hK9
        -- region 9
        refine AW.regionK 0 (fun _ => none) [3, 12, 13] [3] ?_
        simp only [go_sem, reduceIte, reduceCtorEq, Nat.reduceAdd, Nat.reduceMul, Nat.reduceEqDiff, Nat.reduceLT, Nat.reduceLeDiff, Nat.reduceSub, Nat.reducePow, Nat.reduceBEq, Int.reduceToNat, List.reduceReplicate, hlw]
        repeat with_reducible refine cj ?_ ?_
        all_goals try first | omega
        rw [← hQl1]
        change Exists _
        refine ⟨_, ?hm, j + 1, ?_, ?_, rfl, ?henv, ?hstore, ?hst⟩
        case henv =>
          repeat' (first | rfl | refine env_cons ?_ ?_ | refine st_cons ?_ ?_ ?_ ?_ | refine int_eq ?_ | refine bool_eq ?_ | refine rsl_eq ?_ | refine osl_eq ?_ | refine sl_eq ?_ ?_ ?_ | refine ptr_eq ?_ ?_ ?_ | refine agg_eq ?_ | refine es_cons ?_ ?_ | refine row_cons ?_ ?_)
          all_goals (first | (simp; done) | omega | (simp; omega))
        case hstore =>
          repeat' (first | rfl | refine env_cons ?_ ?_ | refine st_cons ?_ ?_ ?_ ?_ | refine int_eq ?_ | refine bool_eq ?_ | refine rsl_eq ?_ | refine osl_eq ?_ | refine sl_eq ?_ ?_ ?_ | refine ptr_eq ?_ ?_ ?_ | refine agg_eq ?_ | refine es_cons ?_ ?_ | refine row_cons ?_ ?_)
          all_goals (first | (simp; done) | omega | (simp; omega))
        case hst =>
          exact ⟨by omega, by rw [hrs, hb]; rfl⟩
        case hm => omega
    · intro hb
      try simp only [hB, decide_eq_true_eq, decide_eq_false_iff_not] at hb
      refine AW.keep [] [] ?_
      try simp only [go_sem, reduceIte, reduceCtorEq, Nat.reduceAdd, Nat.reduceMul, Nat.reduceEqDiff, Nat.reduceLT, Nat.reduceLeDiff, Nat.reduceSub, Nat.reducePow, Nat.reduceBEq, Int.reduceToNat, List.reduceReplicate]
      refine AW.exit ?_
      rw [← hQl1]
      refine hK5 _ _ _ ?_; clear hK5
      refine AW.seq fun K13 hK13 => ?_
      -- region 10
      refine AW.regionK 0 (fun _ => none) [2] [] ?_
      simp only [go_sem, reduceIte, reduceCtorEq, Nat.reduceAdd, Nat.reduceMul, Nat.reduceEqDiff, Nat.reduceLT, Nat.reduceLeDiff, Nat.reduceSub, Nat.reducePow, Nat.reduceBEq, Int.reduceToNat, List.reduceReplicate, hlw]
      repeat with_reducible refine cj ?_ ?_
      all_goals try first | omega
      refine hK13 _ _ _ ?_; clear hK13
      refine AW.ret ?_
      rw [← hQr]
      simp only [go_sem, reduceIte, reduceCtorEq, Nat.reduceAdd, Nat.reduceMul, Nat.reduceEqDiff, Nat.reduceLT, Nat.reduceLeDiff, Nat.reduceSub, Nat.reducePow, Nat.reduceBEq, Int.reduceToNat, List.reduceReplicate, hlw]
      have hj2 : j = n := by omega
      subst hj2
      exact Wk.of_eq (by rw [hac, hall])
theorem inverse_g (n : Nat) (t : List (List Bool)) (hs : Sq n t) (hn : n ≤ 512) : Reads Tryd.prog 56 false [relB t] (.tup [relB (invT n t), .int .i64 ((0 : Nat) : Int)]) := by
  have h := valid_g n t hs hn
  have ha := all_r n t hs hn
  have hemp := empty_u n hn
  have hlt : (tabR t).length = n := by rw [tabR_len, hs.len]
  have hin := swap_in (pairsT_in (t := t) (n := n))
  have hpl : (pairsT t n).length ≤ 262144 := Nat.le_trans (pairsAt_le t n n) (Nat.le_trans (Nat.mul_le_mul hn hn) (by decide))
  have hiv : invT n t = putL (zeroT n) ((pairsT t n).map swapP) := rfl
  have hsq := fun j => Sq.putL (n := n) (((pairsT t n).map swapP).take j) (Sq.rep n) (fun p hp => hin p (List.mem_of_mem_take hp))
  generalize hL : pairsT t n = L at *
  unfold relB at *
  refine Reads.body (rs := [.cell 2 24, .tmp 3]) Tryd.func56 rfl Tryd.ntmps56 rfl (by simp) ?_
  generalize hQr : retQ _ _ _ = Qr
  refine AW.seq fun K1 hK1 => ?_
  -- region 0
  refine AW.regionK 0 (fun _ => none) [1, 2] [1, 2] ?_
  simp only [go_sem, reduceIte, reduceCtorEq, Nat.reduceAdd, Nat.reduceMul, Nat.reduceEqDiff, Nat.reduceLT, Nat.reduceLeDiff, Nat.reduceSub, Nat.reducePow, Nat.reduceBEq, Int.reduceToNat, List.reduceReplicate, hlt, renC_tabO]
  repeat with_reducible refine cj ?_ ?_
  all_goals try first | omega
  refine hK1 _ _ _ ?_; clear hK1
  refine AW.seq fun K2 hK2 => ?_
  refine AW.seq fun K3 hK3 => ?_
  -- region 1
  refine AW.regionK 0 (fun ii => if ii = 1 then some (.reads false (.bool true)) else none) [1, 2, 9] [1, 2] ?_
  simp only [go_sem, reduceIte, reduceCtorEq, Nat.reduceAdd, Nat.reduceMul, Nat.reduceEqDiff, Nat.reduceLT, Nat.reduceLeDiff, Nat.reduceSub, Nat.reducePow, Nat.reduceBEq, Int.reduceToNat, List.reduceReplicate, hlt, renC_tabO]
  repeat with_reducible refine cj ?_ ?_
  all_goals try first | (exact h) | omega | exact ent (by kernel_rfl)
  refine hK3 _ _ _ ?_; clear hK3
  -- cond 1
  refine AW.cond rfl (by simp only [go_sem, reduceIte, reduceCtorEq, Nat.reduceAdd, Nat.reduceMul, Nat.reduceEqDiff, Nat.reduceLT, Nat.reduceLeDiff, Nat.reduceSub, Nat.reducePow, Nat.reduceBEq, Int.reduceToNat, List.reduceReplicate]) ?_ ?_
  · intro hb
    try simp only [hB, decide_eq_true_eq, decide_eq_false_iff_not] at hb
    simp at hb
  · intro hb
    try simp only [hB, decide_eq_true_eq, decide_eq_false_iff_not] at hb
    refine AW.skip ?_
    refine hK2 _ _ _ ?_; clear hK2
    refine AW.seq fun K4 hK4 => ?_
    -- region 3
    refine AW.regionK 0 (fun ii => if ii = 3 then some (.upd [] (fun k => [(0, some ⟨k, k, 2, tabO (List.replicate n (List.replicate n false))⟩)]) (fun k => .agg [.sl ⟨0, k, none⟩ 0 n none])) else none) [1, 2, 4] [1, 2, 4, 14] ?_
    simp only [go_sem, reduceIte, reduceCtorEq, Nat.reduceAdd, Nat.reduceMul, Nat.reduceEqDiff, Nat.reduceLT, Nat.reduceLeDiff, Nat.reduceSub, Nat.reducePow, Nat.reduceBEq, Int.reduceToNat, List.reduceReplicate, hlt, renC_tabO]
    repeat with_reducible refine cj ?_ ?_
    all_goals try first | (exact hemp) | omega | exact ent (by kernel_rfl)
    refine hK4 _ _ _ ?_; clear hK4
    refine AW.seq fun K5 hK5 => ?_
    refine AW.seq fun K6 hK6 => ?_
    -- region 4
    refine AW.regionK 0 (fun ii => if ii = 1 then some (.reads true (.rsl 2 (L.map pairV))) else none) [2, 4, 16, 17, 18] [2, 4, 14] ?_
    simp only [go_sem, reduceIte, reduceCtorEq, Nat.reduceAdd, Nat.reduceMul, Nat.reduceEqDiff, Nat.reduceLT, Nat.reduceLeDiff, Nat.reduceSub, Nat.reducePow, Nat.reduceBEq, Int.reduceToNat, List.reduceReplicate, hlt, renC_tabO]
    repeat with_reducible refine cj ?_ ?_
    all_goals try first | (exact ha) | omega | exact ent (by kernel_rfl)
    refine hK6 _ _ _ ?_; clear hK6
    refine AW.block ?_
    -- loop 1
    refine AW.loopE (fun mm ee ss kk => ∃ (j g2 v2 g4 v4 g v : Nat), L.length - j = mm ∧ ee = [(2, .ptr ⟨2, g2, none⟩ 0 0), (4, .ptr ⟨4, g4, none⟩ 0 0), (16, .rsl 2 (L.map pairV)), (17, .int .i64 L.length), (18, .int .i64 (j : Nat))] ∧ ss = [(2, some ⟨g2, v2, 1, [[.nilsl]]⟩), (4, some ⟨g4, v4, 1, [[.sl ⟨14, g, none⟩ 0 n none]]⟩), (14, some ⟨g, v, 2, tabO (putL (zeroT n) ((L.map swapP).take j))⟩)] ∧ (j ≤ L.length)) ?_ ?_
    · refine ⟨_, 0, ?_, ?_, ?_, ?_, ?_, ?_, rfl, ?henv, ?hstore, ?hst⟩
      case henv =>
        repeat' (first | rfl | refine env_cons ?_ ?_ | refine st_cons ?_ ?_ ?_ ?_ | refine int_eq ?_ | refine bool_eq ?_ | refine rsl_eq ?_ | refine osl_eq ?_ | refine sl_eq ?_ ?_ ?_ | refine ptr_eq ?_ ?_ ?_ | refine agg_eq ?_ | refine es_cons ?_ ?_ | refine row_cons ?_ ?_)
        all_goals (first | (simp; done) | omega | (simp; omega))
      case hstore =>
        repeat' (first | rfl | refine env_cons ?_ ?_ | refine st_cons ?_ ?_ ?_ ?_ | refine int_eq ?_ | refine bool_eq ?_ | refine rsl_eq ?_ | refine osl_eq ?_ | refine sl_eq ?_ ?_ ?_ | refine ptr_eq ?_ ?_ ?_ | refine agg_eq ?_ | refine es_cons ?_ ?_ | refine row_cons ?_ ?_)
        all_goals (first | (simp; done) | omega | (simp; omega))
      case hst =>
        first | trivial | omega | (simp; done) | (simp; omega)
    rintro mm ee ss kk ⟨j, g2, v2, g4, v4, g, v, rfl, rfl, rfl, hI⟩
    generalize hQl1 : thenQ _ _ = Ql1
    refine AW.seq fun K7 hK7 => ?_
    -- region 5
    refine AW.regionK 0 (fun _ => none) [2, 4, 16, 17, 18, 19] [2, 4, 14] ?_
    simp only [go_sem, reduceIte, reduceCtorEq, Nat.reduceAdd, Nat.reduceMul, Nat.reduceEqDiff, Nat.reduceLT, Nat.reduceLeDiff, Nat.reduceSub, Nat.reducePow, Nat.reduceBEq, Int.reduceToNat, List.reduceReplicate, hlt, renC_tabO]
    repeat with_reducible refine cj ?_ ?_
    all_goals try first | omega
    refine hK7 _ _ _ ?_; clear hK7
    refine AW.seq fun K8 hK8 => ?_
    -- cond 2
    refine AW.cond rfl (by simp only [go_sem, reduceIte, reduceCtorEq, Nat.reduceAdd, Nat.reduceMul, Nat.reduceEqDiff, Nat.reduceLT, Nat.reduceLeDiff, Nat.reduceSub, Nat.reducePow, Nat.reduceBEq, Int.reduceToNat, List.reduceReplicate]) ?_ ?_
    · intro hb
      try simp only [hB, decide_eq_true_eq, decide_eq_false_iff_not] at hb
      obtain ⟨p, hp⟩ := getI (l := L) (j := j) (by omega)
      have hgp := getV (f := pairV) hp
      have hps : (L.map swapP)[j]? = some (swapP p) := by simp [hp]
      have hip := hin (swapP p) (List.mem_of_getElem? hps)
      have hpt := putL_take (u := zeroT n) hps
      have hsu := hsq j
      change Sq n (putL (zeroT n) _) at hsu
      unfold inP at hip
      simp only [swapP] at hip hpt
      generalize putL (zeroT n) ((L.map swapP).take j) = U at *
      have hpu := fun g v => put_u n U hsu hn p.2.toNat p.1.toNat (by omega) (by omega) g v none
      rw [Int.toNat_of_nonneg hip.1, Int.toNat_of_nonneg hip.2.2.1] at hpu
      unfold putT at hpt
      refine AW.skip ?_
      refine hK8 _ _ _ ?_; clear hK8
      refine AW.seq fun K9 hK9 => ?_
      refine AW.block ?_
      refine AW.seq fun K10 hK10 => ?_
      -- region 6
      refine AW.regionK 0 (fun _ => none) [2, 4, 6, 16, 17, 18] [2, 4, 6, 14] ?_
      simp only [go_sem, reduceIte, reduceCtorEq, Nat.reduceAdd, Nat.reduceMul, Nat.reduceEqDiff, Nat.reduceLT, Nat.reduceLeDiff, Nat.reduceSub, Nat.reducePow, Nat.reduceBEq, Int.reduceToNat, List.reduceReplicate, hlt, renC_tabO, hgp, pairV]
      repeat with_reducible refine cj ?_ ?_
      all_goals try first | omega
      refine hK10 _ _ _ ?_; clear hK10
      -- region 7
      refine AW.regionK 0 (fun ii => if ii = 5 then some (.upd [14] (fun kk => [(0, some ⟨g, kk, 2, tabO (U.set p.2.toNat ((rowT U p.2.toNat).set p.1.toNat true))⟩)]) (fun _ => .tup [])) else none) [2, 4, 16, 17, 18] [2, 4, 14] ?_
      simp only [go_sem, reduceIte, reduceCtorEq, Nat.reduceAdd, Nat.reduceMul, Nat.reduceEqDiff, Nat.reduceLT, Nat.reduceLeDiff, Nat.reduceSub, Nat.reducePow, Nat.reduceBEq, Int.reduceToNat, List.reduceReplicate, hlt, renC_tabO]
      repeat with_reducible refine cj ?_ ?_
      all_goals try first | (exact hpu _ _) | omega | exact ent (by kernel_rfl)
      refine hK9 _ _ _ ?_; clear hK9
      -- region 8
      refine AW.regionK 0 (fun _ => none) [2, 4, 16, 17, 18] [2, 4, 14] ?_
      simp only [go_sem, reduceIte, reduceCtorEq, Nat.reduceAdd, Nat.reduceMul, Nat.reduceEqDiff, Nat.reduceLT, Nat.reduceLeDiff, Nat.reduceSub, Nat.reducePow, Nat.reduceBEq, Int.reduceToNat, List.reduceReplicate, hlt, renC_tabO]
      repeat with_reducible refine cj ?_ ?_
      all_goals try first | omega
      rw [← hQl1]
      change Exists _
      refine ⟨_, ?hm, j + 1, ?_, ?_, ?_, ?_, ?_, ?_, rfl, ?henv, ?hstore, ?hst⟩
      case henv =>
        repeat' (first | rfl | refine env_cons ?_ ?_ | refine st_cons ?_ ?_ ?_ ?_ | refine int_eq ?_ | refine bool_eq ?_ | refine rsl_eq ?_ | refine osl_eq ?_ | refine sl_eq ?_ ?_ ?_ | refine ptr_eq ?_ ?_ ?_ | refine agg_eq ?_ | refine es_cons ?_ ?_ | refine row_cons ?_ ?_)
        all_goals (first | (simp; done) | omega | (simp; omega))
      case hstore =>
        repeat' (first | rfl | refine env_cons ?_ ?_ | refine st_cons ?_ ?_ ?_ ?_ | refine int_eq ?_ | refine bool_eq ?_ | refine rsl_eq ?_ | refine osl_eq ?_ | refine sl_eq ?_ ?_ ?_ | refine ptr_eq ?_ ?_ ?_ | refine agg_eq ?_ | refine es_cons ?_ ?_ | refine row_cons ?_ ?_)
        all_goals (rw [hpt])
      case hst =>
        first | trivial | omega | (simp; done) | (simp; omega)
      case hm => omega
    · intro hb
      try simp only [hB, decide_eq_true_eq, decide_eq_false_iff_not] at hb
      refine AW.keep [2, 4] [2, 4, 14] ?_
      try simp only [go_sem, reduceIte, reduceCtorEq, Nat.reduceAdd, Nat.reduceMul, Nat.reduceEqDiff, Nat.reduceLT, Nat.reduceLeDiff, Nat.reduceSub, Nat.reducePow, Nat.reduceBEq, Int.reduceToNat, List.reduceReplicate]
      refine AW.exit ?_
      rw [← hQl1]
      refine hK5 _ _ _ ?_; clear hK5
      refine AW.seq fun K11 hK11 => ?_
      -- region 9
      refine AW.regionK 0 (fun _ => none) [2, 3] [2, 14] ?_
      simp only [go_sem, reduceIte, reduceCtorEq, Nat.reduceAdd, Nat.reduceMul, Nat.reduceEqDiff, Nat.reduceLT, Nat.reduceLeDiff, Nat.reduceSub, Nat.reducePow, Nat.reduceBEq, Int.reduceToNat, List.reduceReplicate, hlt, renC_tabO]
      repeat with_reducible refine cj ?_ ?_
      all_goals try first | omega
      refine hK11 _ _ _ ?_; clear hK11
      refine AW.ret ?_
      rw [← hQr]
      simp only [go_sem, reduceIte, reduceCtorEq, Nat.reduceAdd, Nat.reduceMul, Nat.reduceEqDiff, Nat.reduceLT, Nat.reduceLeDiff, Nat.reduceSub, Nat.reducePow, Nat.reduceBEq, Int.reduceToNat, List.reduceReplicate, hlt, renC_tabO]
      have hj2 : j = L.length := by omega
      subst hj2
      have hfl : ((L.map swapP).take L.length) = L.map swapP := List.take_of_length_le (by simp)
      rw [hfl, ← hiv]
      refine Wk.of_eq ?_
      rw [List.take_of_length_le (by rw [tabO_len, hiv, ← hfl]; exact Nat.le_of_eq (hsq _).len), vwc_tabO]
      rfl
theorem fillO_get (t : List (List Bool)) (x : List AV) (i : Nat) (h : i < t.length) : ((tabO t).set i x).getD i [] = x := Go.AM.getD_set_eq (by rw [tabO_len]; exact h) _ _
theorem reduction_g (n : Nat) (t : List (List Bool)) (hs : Sq n t) (hn : n ≤ 512) (hac : acyc n t = true) : Reads Tryd.prog 47 false [relB t] (.tup [relB (redT n t (compT n t (warsh n t))), .int .i64 ((0 : Nat) : Int)]) := by
  have h := valid_g n t hs hn
  have h2 := acyclic_g n t hs hn
  rw [hac] at h2
  have hcl := (closure_r n t hs hn).old
  have hco := (compose_r n t (warsh n t) hs hs.warsh hn).old
  have hsl : Sq n (compT n t (warsh n t)) := Sq.comp hs.warsh
  have hemp := empty_u n hn
  have hlt : (tabR t).length = n := by rw [tabR_len, hs.len]
  have hwn := wordsN_rng (n := (n : Int)) (by omega)
  generalize hl : compT n t (warsh n t) = l at *
  have hsr := Sq.red hs hsl
  have hll : (tabR l).length = n := by rw [tabR_len, hsl.len]
  unfold relB at *
  refine Reads.body (rs := [.cell 2 24, .tmp 3]) Tryd.func47 rfl Tryd.ntmps47 rfl (by simp) ?_
  generalize hQr : retQ _ _ _ = Qr
  refine AW.seq fun K1 hK1 => ?_
  -- region 0
  refine AW.regionK 0 (fun _ => none) [1, 2] [1, 2] ?_
  simp only [go_sem, reduceIte, reduceCtorEq, Nat.reduceAdd, Nat.reduceMul, Nat.reduceEqDiff, Nat.reduceLT, Nat.reduceLeDiff, Nat.reduceSub, Nat.reducePow, Nat.reduceBEq, Int.reduceToNat, List.reduceReplicate, hlt, renC_tabO]
  repeat with_reducible refine cj ?_ ?_
  all_goals try first | omega
  refine hK1 _ _ _ ?_; clear hK1
  refine AW.seq fun K2 hK2 => ?_
  refine AW.block ?_
  refine AW.seq fun K3 hK3 => ?_
  -- region 1
  refine AW.regionK 0 (fun ii => if ii = 1 then some (.reads false (.bool true)) else none) [1, 2, 10] [1, 2] ?_
  simp only [go_sem, reduceIte, reduceCtorEq, Nat.reduceAdd, Nat.reduceMul, Nat.reduceEqDiff, Nat.reduceLT, Nat.reduceLeDiff, Nat.reduceSub, Nat.reducePow, Nat.reduceBEq, Int.reduceToNat, List.reduceReplicate, hlt, renC_tabO]
  repeat with_reducible refine cj ?_ ?_
  all_goals try first | (exact h) | omega | exact ent (by kernel_rfl)
  refine hK3 _ _ _ ?_; clear hK3
  -- cond 1
  refine AW.cond rfl (by simp only [go_sem, reduceIte, reduceCtorEq, Nat.reduceAdd, Nat.reduceMul, Nat.reduceEqDiff, Nat.reduceLT, Nat.reduceLeDiff, Nat.reduceSub, Nat.reducePow, Nat.reduceBEq, Int.reduceToNat, List.reduceReplicate]) ?_ ?_
  · intro hb
    try simp only [hB, decide_eq_true_eq, decide_eq_false_iff_not] at hb
    simp at hb
  · intro hb
    try simp only [hB, decide_eq_true_eq, decide_eq_false_iff_not] at hb
    refine AW.seq fun K4 hK4 => ?_
    -- region 3
    refine AW.regionK 0 (fun ii => if ii = 1 then some (.reads false (.bool true)) else none) [1, 2, 15] [1, 2] ?_
    simp only [go_sem, reduceIte, reduceCtorEq, Nat.reduceAdd, Nat.reduceMul, Nat.reduceEqDiff, Nat.reduceLT, Nat.reduceLeDiff, Nat.reduceSub, Nat.reducePow, Nat.reduceBEq, Int.reduceToNat, List.reduceReplicate, hlt, renC_tabO]
    repeat with_reducible refine cj ?_ ?_
    all_goals try first | (exact h2) | omega | exact ent (by kernel_rfl)
    refine hK4 _ _ _ ?_; clear hK4
    -- cond 2
    refine AW.cond rfl (by simp only [go_sem, reduceIte, reduceCtorEq, Nat.reduceAdd, Nat.reduceMul, Nat.reduceEqDiff, Nat.reduceLT, Nat.reduceLeDiff, Nat.reduceSub, Nat.reducePow, Nat.reduceBEq, Int.reduceToNat, List.reduceReplicate]) ?_ ?_
    · intro hb
      try simp only [hB, decide_eq_true_eq, decide_eq_false_iff_not] at hb
      simp at hb
    · intro hb
      try simp only [hB, decide_eq_true_eq, decide_eq_false_iff_not] at hb
      refine AW.skip ?_
      refine hK2 _ _ _ ?_; clear hK2
      refine AW.seq fun K5 hK5 => ?_
      -- region 5
      refine AW.regionD mixed 0 (fun ii => if ii = 2 then some (.reads false (.agg [.rsl 2 (tabR (warsh n t))])) else if ii = 3 then some (.reads false (.agg [.rsl 2 (tabR l)])) else none) [1, 2, 4] [1, 2, 4] ?_
      simp only [go_sem, reduceIte, reduceCtorEq, Nat.reduceAdd, Nat.reduceMul, Nat.reduceEqDiff, Nat.reduceLT, Nat.reduceLeDiff, Nat.reduceSub, Nat.reducePow, Nat.reduceBEq, Int.reduceToNat, List.reduceReplicate, hlt, renC_tabO]
      repeat with_reducible refine cj ?_ ?_
      all_goals try first | (first | exact hcl | exact hco) | omega | exact chk (by kernel_rfl) | exact ent (by kernel_rfl)
      refine hK5 _ _ _ ?_; clear hK5
      refine AW.seq fun K6 hK6 => ?_
      -- region 6
      refine AW.regionK 0 (fun ii => if ii = 3 then some (.upd [] (fun k => [(0, some ⟨k, k, 2, tabO (List.replicate n (List.replicate n false))⟩)]) (fun k => .agg [.sl ⟨0, k, none⟩ 0 n none])) else none) [1, 2, 4, 5] [1, 2, 4, 5, 27] ?_
      simp only [go_sem, reduceIte, reduceCtorEq, Nat.reduceAdd, Nat.reduceMul, Nat.reduceEqDiff, Nat.reduceLT, Nat.reduceLeDiff, Nat.reduceSub, Nat.reducePow, Nat.reduceBEq, Int.reduceToNat, List.reduceReplicate, hlt, renC_tabO]
      repeat with_reducible refine cj ?_ ?_
      all_goals try first | (exact hemp) | omega | exact ent (by kernel_rfl)
      refine hK6 _ _ _ ?_; clear hK6
      refine AW.seq fun K7 hK7 => ?_
      refine AW.seq fun K8 hK8 => ?_
      -- region 7
      refine AW.regionK 0 (fun _ => none) [2, 4, 5, 29, 30, 31] [2, 4, 5, 27] ?_
      simp only [go_sem, reduceIte, reduceCtorEq, Nat.reduceAdd, Nat.reduceMul, Nat.reduceEqDiff, Nat.reduceLT, Nat.reduceLeDiff, Nat.reduceSub, Nat.reducePow, Nat.reduceBEq, Int.reduceToNat, List.reduceReplicate, hlt, renC_tabO]
      repeat with_reducible refine cj ?_ ?_
      all_goals try first | omega
      refine hK8 _ _ _ ?_; clear hK8
      refine AW.block ?_
      -- loop 1
      refine AW.loopE (fun mm ee ss kk => ∃ (i g2 v2 g4 v4 g5 v5 g v : Nat), n - i = mm ∧ ee = [(2, .ptr ⟨2, g2, none⟩ 0 0), (4, .ptr ⟨4, g4, none⟩ 0 0), (5, .ptr ⟨5, g5, none⟩ 0 0), (29, .rsl 2 (tabR t)), (30, .int .i64 n), (31, .int .i64 (i : Nat))] ∧ ss = [(2, some ⟨g2, v2, 1, [[.nilsl]]⟩), (4, some ⟨g4, v4, 1, [[.rsl 2 (tabR l)]]⟩), (5, some ⟨g5, v5, 1, [[.sl ⟨27, g, none⟩ 0 n none]]⟩), (27, some ⟨g, v, 2, tabO (fillT (redT n t l) n i)⟩)] ∧ (i ≤ n)) ?_ ?_
      · refine ⟨_, 0, ?_, ?_, ?_, ?_, ?_, ?_, ?_, ?_, rfl, ?henv, ?hstore, ?hst⟩
        case henv =>
          repeat' (first | rfl | refine env_cons ?_ ?_ | refine st_cons ?_ ?_ ?_ ?_ | refine int_eq ?_ | refine bool_eq ?_ | refine rsl_eq ?_ | refine osl_eq ?_ | refine sl_eq ?_ ?_ ?_ | refine ptr_eq ?_ ?_ ?_ | refine agg_eq ?_ | refine es_cons ?_ ?_ | refine row_cons ?_ ?_)
          all_goals (first | (simp; done) | omega | (simp; omega))
        case hstore =>
          repeat' (first | rfl | refine env_cons ?_ ?_ | refine st_cons ?_ ?_ ?_ ?_ | refine int_eq ?_ | refine bool_eq ?_ | refine rsl_eq ?_ | refine osl_eq ?_ | refine sl_eq ?_ ?_ ?_ | refine ptr_eq ?_ ?_ ?_ | refine agg_eq ?_ | refine es_cons ?_ ?_ | refine row_cons ?_ ?_)
          all_goals (rw [fillT_zero]; rfl)
        case hst =>
          first | trivial | omega | (simp; done) | (simp; omega)
      rintro mm ee ss kk ⟨i, g2, v2, g4, v4, g5, v5, g, v, rfl, rfl, rfl, hI⟩
      generalize hQl1 : thenQ _ _ = Ql1
      refine AW.seq fun K9 hK9 => ?_
      -- region 8
      refine AW.regionK 0 (fun _ => none) [2, 4, 5, 29, 30, 31, 32] [2, 4, 5, 27] ?_
      simp only [go_sem, reduceIte, reduceCtorEq, Nat.reduceAdd, Nat.reduceMul, Nat.reduceEqDiff, Nat.reduceLT, Nat.reduceLeDiff, Nat.reduceSub, Nat.reducePow, Nat.reduceBEq, Int.reduceToNat, List.reduceReplicate, hlt, renC_tabO]
      repeat with_reducible refine cj ?_ ?_
      all_goals try first | omega
      refine hK9 _ _ _ ?_; clear hK9
      refine AW.seq fun K10 hK10 => ?_
      -- cond 3
      refine AW.cond rfl (by simp only [go_sem, reduceIte, reduceCtorEq, Nat.reduceAdd, Nat.reduceMul, Nat.reduceEqDiff, Nat.reduceLT, Nat.reduceLeDiff, Nat.reduceSub, Nat.reducePow, Nat.reduceBEq, Int.reduceToNat, List.reduceReplicate]) ?_ ?_
      · intro hb
        try simp only [hB, decide_eq_true_eq, decide_eq_false_iff_not] at hb
        have hsf := fillT_sq hsr (i := i) (by omega)
        have hgr := tabR_get (t := t) (i := i) (by rw [hs.len]; omega)
        have hgl := tabR_get (t := l) (i := i) (by rw [hsl.len]; omega)
        have hgo := tabO_get (t := fillT (redT n t l) n i) (i := i) (by rw [hsf.len]; omega)
        rw [fillT_row hsr (by omega), rowO, List.length_replicate] at hgo
        have hto := tabO_len (fillT (redT n t l) n i)
        have hfl := hsf.len
        have hrl := hs.rowLen (i := i) (by omega)
        have hrl2 := hsl.rowLen (i := i) (by omega)
        have hfs := fillT_succ hsr (i := i) (by omega)
        have hrr := hsr.rowLen (i := i) (by omega)
        have hts := tabO_set (fillT (redT n t l) n i) i (rowT (redT n t l) i)
        have hwl := setW_len' (rowT t i)
        have hwl2 := setW_len' (rowT l i)
        have hwz := setW_len' (List.replicate n false)
        have hzz := zipW_setW bitOp_andNot (a := rowT t i) (b := rowT l i) (by rw [hrl, hrl2])
        rw [hrl] at hwl
        rw [hrl2] at hwl2
        rw [List.length_replicate] at hwz
        rw [hrl, hrl2] at hzz
        have hro : rowO (rowT (redT n t l) i) = [.int .i64 n, .osl 1 (words (List.zipWith (bAndNot .u64) (setW (rowT t i) n) (setW (rowT l i) n)))] := by rw [rowO, hrr, redT_row (by omega), hzz]; rfl
        have hfg := fillO_get (fillT (redT n t l) n i)
        generalize hF : fillT (redT n t l) n i = F at *
        have hfix : (tabO F).set i [.int .i64 n, .osl 1 (words (setW (List.replicate n false) n))] = tabO F := by rw [← hgo]; exact set_getD_self _ _ _
        generalize hA : setW (rowT t i) n = A at *
        generalize hB : setW (rowT l i) n = B at *
        generalize hZ : setW (List.replicate n false) n = Z at *
        have hAB : A.length = B.length := by omega
        have hZA : Z.length = A.length := by omega
        refine AW.skip ?_
        refine hK10 _ _ _ ?_; clear hK10
        refine AW.seq fun K11 hK11 => ?_
        refine AW.block ?_
        refine AW.seq fun K12 hK12 => ?_
        -- region 9
        refine AW.regionK 0 (fun _ => none) [2, 4, 5, 6, 7, 29, 30, 31] [2, 4, 5, 7, 27] ?_
        simp only [go_sem, reduceIte, reduceCtorEq, Nat.reduceAdd, Nat.reduceMul, Nat.reduceEqDiff, Nat.reduceLT, Nat.reduceLeDiff, Nat.reduceSub, Nat.reducePow, Nat.reduceBEq, Int.reduceToNat, List.reduceReplicate, hlt, renC_tabO, hgr, rowB, hrl, hA]
        repeat with_reducible refine cj ?_ ?_
        all_goals try first | omega
        refine hK12 _ _ _ ?_; clear hK12
        refine AW.seq fun K13 hK13 => ?_
        -- region 10
        refine AW.regionK 0 (fun _ => none) [2, 4, 5, 6, 29, 30, 31, 37, 38, 39] [2, 4, 5, 27] ?_
        simp only [go_sem, reduceIte, reduceCtorEq, Nat.reduceAdd, Nat.reduceMul, Nat.reduceEqDiff, Nat.reduceLT, Nat.reduceLeDiff, Nat.reduceSub, Nat.reducePow, Nat.reduceBEq, Int.reduceToNat, List.reduceReplicate, hlt, renC_tabO]
        repeat with_reducible refine cj ?_ ?_
        all_goals try first | omega
        refine hK13 _ _ _ ?_; clear hK13
        refine AW.block ?_
        -- loop 2
        refine AW.loopE (fun mm ee ss kk => ∃ (k g2 v2 g4 v4 g5 v5 : Nat), A.length - k = mm ∧ ee = [(2, .ptr ⟨2, g2, none⟩ 0 0), (4, .ptr ⟨4, g4, none⟩ 0 0), (5, .ptr ⟨5, g5, none⟩ 0 0), (6, .int .i64 (i : Nat)), (29, .rsl 2 (tabR t)), (30, .int .i64 n), (31, .int .i64 (i : Nat)), (37, .rsl 1 (words A)), (38, .int .i64 A.length), (39, .int .i64 (k : Nat))] ∧ ss = [(2, some ⟨g2, v2, 1, [[.nilsl]]⟩), (4, some ⟨g4, v4, 1, [[.rsl 2 (tabR l)]]⟩), (5, some ⟨g5, v5, 1, [[.sl ⟨27, g, none⟩ 0 n none]]⟩), (27, some ⟨g, v, 2, (tabO F).set i [.int .i64 n, .osl 1 (words (mixW (bAndNot .u64) A B Z k))]⟩)] ∧ (k ≤ A.length)) ?_ ?_
        · refine ⟨_, 0, ?_, ?_, ?_, ?_, ?_, ?_, rfl, ?henv, ?hstore, ?hst⟩
          case henv =>
            repeat' (first | rfl | refine env_cons ?_ ?_ | refine st_cons ?_ ?_ ?_ ?_ | refine int_eq ?_ | refine bool_eq ?_ | refine rsl_eq ?_ | refine osl_eq ?_ | refine sl_eq ?_ ?_ ?_ | refine ptr_eq ?_ ?_ ?_ | refine agg_eq ?_ | refine es_cons ?_ ?_ | refine row_cons ?_ ?_)
            all_goals (first | (simp; done) | omega | (simp; omega))
          case hstore =>
            repeat' (first | rfl | refine env_cons ?_ ?_ | refine st_cons ?_ ?_ ?_ ?_ | refine int_eq ?_ | refine bool_eq ?_ | refine rsl_eq ?_ | refine osl_eq ?_ | refine sl_eq ?_ ?_ ?_ | refine ptr_eq ?_ ?_ ?_ | refine agg_eq ?_ | refine es_cons ?_ ?_ | refine row_cons ?_ ?_)
            all_goals (first | (rw [mixW_zero, hfix]; done) | rfl)
          case hst =>
            first | trivial | omega | (simp; done) | (simp; omega)
        rintro mm ee ss kk ⟨k, g2, v2, g4, v4, g5, v5, rfl, rfl, rfl, hI⟩
        generalize hQl2 : thenQ _ _ = Ql2
        refine AW.seq fun K14 hK14 => ?_
        -- region 11
        refine AW.regionK 0 (fun _ => none) [2, 4, 5, 6, 29, 30, 31, 37, 38, 39, 40] [2, 4, 5, 27] ?_
        simp only [go_sem, reduceIte, reduceCtorEq, Nat.reduceAdd, Nat.reduceMul, Nat.reduceEqDiff, Nat.reduceLT, Nat.reduceLeDiff, Nat.reduceSub, Nat.reducePow, Nat.reduceBEq, Int.reduceToNat, List.reduceReplicate, hlt, renC_tabO]
        repeat with_reducible refine cj ?_ ?_
        all_goals try first | omega
        refine hK14 _ _ _ ?_; clear hK14
        refine AW.seq fun K15 hK15 => ?_
        -- cond 4
        refine AW.cond rfl (by simp only [go_sem, reduceIte, reduceCtorEq, Nat.reduceAdd, Nat.reduceMul, Nat.reduceEqDiff, Nat.reduceLT, Nat.reduceLeDiff, Nat.reduceSub, Nat.reducePow, Nat.reduceBEq, Int.reduceToNat, List.reduceReplicate]) ?_ ?_
        · intro hb
          try simp only [hB, decide_eq_true_eq, decide_eq_false_iff_not] at hb
          have hga := words_getD (l := A) (i := k) (by omega)
          have hgb := words_getD (l := B) (i := k) (by omega)
          have hml := mixW_len (f := bAndNot .u64) hAB hZA k
          have hms := mixW_succ (f := bAndNot .u64) hAB hZA (j := k) (by omega)
          have hgm := words_getD (l := mixW (bAndNot .u64) A B Z k) (i := k) (by omega)
          have hfg2 := fun x => hfg x i (by omega)
          refine AW.skip ?_
          refine hK15 _ _ _ ?_; clear hK15
          refine AW.seq fun K16 hK16 => ?_
          refine AW.block ?_
          refine AW.seq fun K17 hK17 => ?_
          -- region 12
          refine AW.regionK 0 (fun _ => none) [2, 4, 5, 6, 8, 9, 29, 30, 31, 37, 38, 39] [2, 4, 5, 27] ?_
          simp only [go_sem, reduceIte, reduceCtorEq, Nat.reduceAdd, Nat.reduceMul, Nat.reduceEqDiff, Nat.reduceLT, Nat.reduceLeDiff, Nat.reduceSub, Nat.reducePow, Nat.reduceBEq, Int.reduceToNat, List.reduceReplicate, hlt, renC_tabO, hga]
          repeat with_reducible refine cj ?_ ?_
          all_goals try first | omega
          refine hK17 _ _ _ ?_; clear hK17
          -- region 13
          refine AW.regionD mixed 0 (fun _ => none) [2, 4, 5, 6, 29, 30, 31, 37, 38, 39] [2, 4, 5, 27] ?_
          simp only [go_sem, reduceIte, reduceCtorEq, Nat.reduceAdd, Nat.reduceMul, Nat.reduceEqDiff, Nat.reduceLT, Nat.reduceLeDiff, Nat.reduceSub, Nat.reducePow, Nat.reduceBEq, Int.reduceToNat, List.reduceReplicate, hlt, renC_tabO, hfg2, hgl, rowB, hrl2, hB, hgb, hgm, List.set_set]
          repeat with_reducible refine cj ?_ ?_
          all_goals try first | omega | exact chk (by kernel_rfl)
          refine hK16 _ _ _ ?_; clear hK16
          -- region 14
          refine AW.regionK 0 (fun _ => none) [2, 4, 5, 6, 29, 30, 31, 37, 38, 39] [2, 4, 5, 27] ?_
          simp only [go_sem, reduceIte, reduceCtorEq, Nat.reduceAdd, Nat.reduceMul, Nat.reduceEqDiff, Nat.reduceLT, Nat.reduceLeDiff, Nat.reduceSub, Nat.reducePow, Nat.reduceBEq, Int.reduceToNat, List.reduceReplicate, hlt, renC_tabO]
          repeat with_reducible refine cj ?_ ?_
          all_goals try first | omega
          rw [← hQl2]
          change Exists _
          refine ⟨_, ?hm, k + 1, ?_, ?_, ?_, ?_, ?_, ?_, rfl, ?henv, ?hstore, ?hst⟩
          case henv =>
            repeat' (first | rfl | refine env_cons ?_ ?_ | refine st_cons ?_ ?_ ?_ ?_ | refine int_eq ?_ | refine bool_eq ?_ | refine rsl_eq ?_ | refine osl_eq ?_ | refine sl_eq ?_ ?_ ?_ | refine ptr_eq ?_ ?_ ?_ | refine agg_eq ?_ | refine es_cons ?_ ?_ | refine row_cons ?_ ?_)
            all_goals (first | (simp; done) | omega | (simp; omega))
          case hstore =>
            repeat' (first | rfl | refine env_cons ?_ ?_ | refine st_cons ?_ ?_ ?_ ?_ | refine int_eq ?_ | refine bool_eq ?_ | refine rsl_eq ?_ | refine osl_eq ?_ | refine sl_eq ?_ ?_ ?_ | refine ptr_eq ?_ ?_ ?_ | refine agg_eq ?_ | refine es_cons ?_ ?_ | refine row_cons ?_ ?_)
            all_goals (rw [hms])
          case hst =>
            first | trivial | omega | (simp; done) | (simp; omega)
          case hm => omega
        · intro hb
          try simp only [hB, decide_eq_true_eq, decide_eq_false_iff_not] at hb
          have hk : k = A.length := by omega
          subst hk
          rw [mixW_all hAB hZA (Nat.le_refl _)]
          refine AW.keep [2, 4, 5, 29, 30, 31] [2, 4, 5, 27] ?_
          try simp only [go_sem, reduceIte, reduceCtorEq, Nat.reduceAdd, Nat.reduceMul, Nat.reduceEqDiff, Nat.reduceLT, Nat.reduceLeDiff, Nat.reduceSub, Nat.reducePow, Nat.reduceBEq, Int.reduceToNat, List.reduceReplicate]
          refine AW.exit ?_
          rw [← hQl2]
          refine hK11 _ _ _ ?_; clear hK11
          -- region 15
          refine AW.regionK 0 (fun _ => none) [2, 4, 5, 29, 30, 31] [2, 4, 5, 27] ?_
          simp only [go_sem, reduceIte, reduceCtorEq, Nat.reduceAdd, Nat.reduceMul, Nat.reduceEqDiff, Nat.reduceLT, Nat.reduceLeDiff, Nat.reduceSub, Nat.reducePow, Nat.reduceBEq, Int.reduceToNat, List.reduceReplicate, hlt, renC_tabO]
          repeat with_reducible refine cj ?_ ?_
          all_goals try first | omega
          rw [← hQl1]
          change Exists _
          refine ⟨_, ?hm, i + 1, ?_, ?_, ?_, ?_, ?_, ?_, ?_, ?_, rfl, ?henv, ?hstore, ?hst⟩
          case henv =>
            repeat' (first | rfl | refine env_cons ?_ ?_ | refine st_cons ?_ ?_ ?_ ?_ | refine int_eq ?_ | refine bool_eq ?_ | refine rsl_eq ?_ | refine osl_eq ?_ | refine sl_eq ?_ ?_ ?_ | refine ptr_eq ?_ ?_ ?_ | refine agg_eq ?_ | refine es_cons ?_ ?_ | refine row_cons ?_ ?_)
            all_goals (first | (simp; done) | omega | (simp; omega))
          case hstore =>
            repeat' (first | rfl | refine env_cons ?_ ?_ | refine st_cons ?_ ?_ ?_ ?_ | refine int_eq ?_ | refine bool_eq ?_ | refine rsl_eq ?_ | refine osl_eq ?_ | refine sl_eq ?_ ?_ ?_ | refine ptr_eq ?_ ?_ ?_ | refine agg_eq ?_ | refine es_cons ?_ ?_ | refine row_cons ?_ ?_)
            all_goals (first | (rw [← hro, hts, hfs]; done) | rfl)
          case hst =>
            first | trivial | omega | (simp; done) | (simp; omega)
          case hm => omega
      · intro hb
        try simp only [hB, decide_eq_true_eq, decide_eq_false_iff_not] at hb
        refine AW.keep [2, 5] [2, 5, 27] ?_
        try simp only [go_sem, reduceIte, reduceCtorEq, Nat.reduceAdd, Nat.reduceMul, Nat.reduceEqDiff, Nat.reduceLT, Nat.reduceLeDiff, Nat.reduceSub, Nat.reducePow, Nat.reduceBEq, Int.reduceToNat, List.reduceReplicate]
        refine AW.exit ?_
        rw [← hQl1]
        refine hK7 _ _ _ ?_; clear hK7
        refine AW.seq fun K18 hK18 => ?_
        -- region 16
        refine AW.regionK 0 (fun _ => none) [2, 3] [2, 27] ?_
        simp only [go_sem, reduceIte, reduceCtorEq, Nat.reduceAdd, Nat.reduceMul, Nat.reduceEqDiff, Nat.reduceLT, Nat.reduceLeDiff, Nat.reduceSub, Nat.reducePow, Nat.reduceBEq, Int.reduceToNat, List.reduceReplicate, hlt, renC_tabO]
        repeat with_reducible refine cj ?_ ?_
        all_goals try first | omega
        refine hK18 _ _ _ ?_; clear hK18
        refine AW.ret ?_
        rw [← hQr]
        simp only [go_sem, reduceIte, reduceCtorEq, Nat.reduceAdd, Nat.reduceMul, Nat.reduceEqDiff, Nat.reduceLT, Nat.reduceLeDiff, Nat.reduceSub, Nat.reducePow, Nat.reduceBEq, Int.reduceToNat, List.reduceReplicate, hlt, renC_tabO]
        have hi : i = n := by omega
        subst hi
        rw [fillT_all hsr]
        refine Wk.of_eq ?_
        rw [List.take_of_length_le (by rw [tabO_len, hsr.len]; exact Nat.le_refl _), vwc_tabO]
        rfl
end Go.Proofs.P

namespace Go.Proofs.P
open Go.AM Go
set_option maxRecDepth 100000
set_option maxHeartbeats 1000000
def badPr (n : Int) (p : Int × Int) : Bool := !(decide (0 ≤ p.1) && decide (p.1 < n)) || !(decide (0 ≤ p.2) && decide (p.2 < n))
theorem in_r (n i : Int) : Reads Tryd.prog 95 false [.int .i64 i, .rptr [.int .i64 n]] (.bool (decide (0 ≤ i) && decide (i < n))) := by
  refine Reads.body (rs := [.tmp 3]) Tryd.func95 rfl Tryd.ntmps95 rfl (by simp) ?_
  generalize hQr : retQ _ _ _ = Qr
  refine AW.seq fun K1 hK1 => ?_
  -- region 0
  refine AW.regionK 0 (fun _ => none) [0, 1] [] ?_
  simp only [go_sem, reduceIte, reduceCtorEq, Nat.reduceAdd, Nat.reduceMul, Nat.reduceEqDiff, Nat.reduceLT, Nat.reduceLeDiff, Nat.reduceSub, Nat.reducePow, Nat.reduceBEq, Int.reduceToNat, List.reduceReplicate]
  repeat with_reducible refine cj ?_ ?_
  all_goals try first | omega
  refine hK1 _ _ _ ?_; clear hK1
  refine AW.seq fun K2 hK2 => ?_
  -- region 1
  refine AW.regionK 0 (fun _ => none) [3] [] ?_
  simp only [go_sem, reduceIte, reduceCtorEq, Nat.reduceAdd, Nat.reduceMul, Nat.reduceEqDiff, Nat.reduceLT, Nat.reduceLeDiff, Nat.reduceSub, Nat.reducePow, Nat.reduceBEq, Int.reduceToNat, List.reduceReplicate]
  repeat with_reducible refine cj ?_ ?_
  all_goals try first | omega | (intros; (repeat' apply And.intro) <;> first | assumption | omega | decide) | (intro hgd; exact absurd hgd (by decide)) | rfl | (simp only [go_sem, reduceIte, reduceCtorEq, Nat.reduceAdd, Nat.reduceMul, Nat.reduceEqDiff, Nat.reduceLT, Nat.reduceLeDiff, Nat.reduceSub, Nat.reducePow, Nat.reduceBEq, Int.reduceToNat, List.reduceReplicate]; done) | (intro _hgd; simp_all [go_sem]; done)
  refine hK2 _ _ _ ?_; clear hK2
  refine AW.ret ?_
  rw [← hQr]
  simp only [go_sem, reduceIte, reduceCtorEq, Nat.reduceAdd, Nat.reduceMul, Nat.reduceEqDiff, Nat.reduceLT, Nat.reduceLeDiff, Nat.reduceSub, Nat.reducePow, Nat.reduceBEq, Int.reduceToNat, List.reduceReplicate]
  exact Wk.of_eq (by simp)
theorem badpr_r (n : Int) (p : Int × Int) : Reads Tryd.prog 97 false [.agg (pairV p), .rptr [.fn 95 [.rptr [.int .i64 n]]]] (.bool (badPr n p)) := by
  have h := in_r n
  unfold pairV
  refine Reads.body (rs := [.tmp 3]) Tryd.func97 rfl Tryd.ntmps97 rfl (by simp) ?_
  generalize hQr : retQ _ _ _ = Qr
  refine AW.seq fun K1 hK1 => ?_
  -- region 0
  refine AW.regionK 0 (fun _ => none) [1, 2] [2] ?_
  simp only [go_sem, reduceIte, reduceCtorEq, Nat.reduceAdd, Nat.reduceMul, Nat.reduceEqDiff, Nat.reduceLT, Nat.reduceLeDiff, Nat.reduceSub, Nat.reducePow, Nat.reduceBEq, Int.reduceToNat, List.reduceReplicate]
  repeat with_reducible refine cj ?_ ?_
  all_goals try first | omega
  refine hK1 _ _ _ ?_; clear hK1
  refine AW.seq fun K2 hK2 => ?_
  -- region 1
  refine AW.regionK 0 (fun ii => if ii = 3 then some (.reads false (.bool (decide (0 ≤ p.1) && decide (p.1 < n)))) else if ii = 9 then some (.reads false (.bool (decide (0 ≤ p.2) && decide (p.2 < n)))) else none) [3] [] ?_
  simp only [go_sem, reduceIte, reduceCtorEq, Nat.reduceAdd, Nat.reduceMul, Nat.reduceEqDiff, Nat.reduceLT, Nat.reduceLeDiff, Nat.reduceSub, Nat.reducePow, Nat.reduceBEq, Int.reduceToNat, List.reduceReplicate]
  repeat with_reducible refine cj ?_ ?_
  all_goals try first | (first | exact h p.1 | (intro hh; exact ⟨hh, h p.2⟩)) | (intros; (repeat' apply And.intro) <;> first | assumption | (first | exact h p.1 | (intro hh; exact ⟨hh, h p.2⟩))) | omega | exact ent (by kernel_rfl) | (intro hgd; exact absurd hgd (by decide)) | rfl | (simp only [go_sem, reduceIte, reduceCtorEq, Nat.reduceAdd, Nat.reduceMul, Nat.reduceEqDiff, Nat.reduceLT, Nat.reduceLeDiff, Nat.reduceSub, Nat.reducePow, Nat.reduceBEq, Int.reduceToNat, List.reduceReplicate]; done) | (intro _hgd; simp_all [go_sem]; done)
  refine hK2 _ _ _ ?_; clear hK2
  refine AW.ret ?_
  rw [← hQr]
  simp only [go_sem, reduceIte, reduceCtorEq, Nat.reduceAdd, Nat.reduceMul, Nat.reduceEqDiff, Nat.reduceLT, Nat.reduceLeDiff, Nat.reduceSub, Nat.reducePow, Nat.reduceBEq, Int.reduceToNat, List.reduceReplicate]
  exact Wk.of_eq (by unfold badPr; simp)
theorem ixpr_r (n : Int) (ns : List (Int × Int)) (hl2 : ns.length ≤ 9223372036854775807) : Reads Tryd.prog 104 false [.rsl 2 (ns.map pairV), .fn 97 [.rptr [.fn 95 [.rptr [.int .i64 n]]]]] (.int .i64 (ixf (badPr n) ns)) := by
  have hbp := fun p => badpr_r n p
  refine Reads.body (rs := [.tmp 4]) Tryd.func104 rfl Tryd.ntmps104 rfl (by simp) ?_
  generalize hQr : retQ _ _ _ = Qr
  refine AW.seq fun K1 hK1 => ?_
  -- region 0
  refine AW.regionK 0 (fun _ => none) [0, 1] [] ?_
  simp only [go_sem, reduceIte, reduceCtorEq, Nat.reduceAdd, Nat.reduceMul, Nat.reduceEqDiff, Nat.reduceLT, Nat.reduceLeDiff, Nat.reduceSub, Nat.reducePow, Nat.reduceBEq, Int.reduceToNat, List.reduceReplicate]
  repeat with_reducible refine cj ?_ ?_
  all_goals try first | omega
  refine hK1 _ _ _ ?_; clear hK1
  refine AW.seq fun K2 hK2 => ?_
  refine AW.seq fun K3 hK3 => ?_
  -- region 1
  refine AW.regionK 0 (fun _ => none) [0, 1, 7, 8] [] ?_
  simp only [go_sem, reduceIte, reduceCtorEq, Nat.reduceAdd, Nat.reduceMul, Nat.reduceEqDiff, Nat.reduceLT, Nat.reduceLeDiff, Nat.reduceSub, Nat.reducePow, Nat.reduceBEq, Int.reduceToNat, List.reduceReplicate]
  repeat with_reducible refine cj ?_ ?_
  all_goals try first | omega
  refine hK3 _ _ _ ?_; clear hK3
  refine AW.block ?_
  -- loop 1
  refine AW.loopE (fun mm ee ss kk => ∃ (j : Nat), ns.length - j = mm ∧ ee = [(0, .rsl 2 (ns.map pairV)), (1, .fn 97 [.rptr [.fn 95 [.rptr [.int .i64 n]]]]), (7, .int .i64 ns.length), (8, .int .i64 (j : Nat))] ∧ ss = [] ∧ (j ≤ ns.length ∧ (ns.take j).any (badPr n) = false)) ?_ ?_
  · refine ⟨_, 0, rfl, ?henv, ?hstore, ?hst⟩
    case henv =>
      repeat' (first | rfl | refine env_cons ?_ ?_ | refine st_cons ?_ ?_ ?_ ?_ | refine int_eq ?_ | refine bool_eq ?_ | refine rsl_eq ?_ | refine osl_eq ?_ | refine sl_eq ?_ ?_ ?_ | refine ptr_eq ?_ ?_ ?_ | refine agg_eq ?_ | refine es_cons ?_ ?_ | refine row_cons ?_ ?_)
      all_goals (first | (simp; done) | omega | (simp; omega))
    case hstore =>
      repeat' (first | rfl | refine env_cons ?_ ?_ | refine st_cons ?_ ?_ ?_ ?_ | refine int_eq ?_ | refine bool_eq ?_ | refine rsl_eq ?_ | refine osl_eq ?_ | refine sl_eq ?_ ?_ ?_ | refine ptr_eq ?_ ?_ ?_ | refine agg_eq ?_ | refine es_cons ?_ ?_ | refine row_cons ?_ ?_)
      all_goals (first | (simp; done) | omega | (simp; omega))
    case hst =>
      first | trivial | omega | (simp; done) | (simp; omega)
  rintro mm ee ss kk ⟨j, rfl, rfl, rfl, hI⟩
  generalize hQl1 : thenQ _ _ = Ql1
  obtain ⟨hj, hall⟩ := hI
  refine AW.seq fun K4 hK4 => ?_
  -- region 2
  refine AW.regionK 0 (fun _ => none) [0, 1, 7, 8, 9] [] ?_
  simp only [go_sem, reduceIte, reduceCtorEq, Nat.reduceAdd, Nat.reduceMul, Nat.reduceEqDiff, Nat.reduceLT, Nat.reduceLeDiff, Nat.reduceSub, Nat.reducePow, Nat.reduceBEq, Int.reduceToNat, List.reduceReplicate]
  repeat with_reducible refine cj ?_ ?_
  all_goals try first | omega
  refine hK4 _ _ _ ?_; clear hK4
  refine AW.seq fun K5 hK5 => ?_
  -- cond 1
  refine AW.cond rfl (by simp only [go_sem, reduceIte, reduceCtorEq, Nat.reduceAdd, Nat.reduceMul, Nat.reduceEqDiff, Nat.reduceLT, Nat.reduceLeDiff, Nat.reduceSub, Nat.reducePow, Nat.reduceBEq, Int.reduceToNat, List.reduceReplicate]) ?_ ?_
  · intro hb
    try simp only [hB, decide_eq_true_eq, decide_eq_false_iff_not] at hb
    obtain ⟨x, hx⟩ := getI (l := ns) (j := j) (by omega)
    have hgx := getV (f := pairV) hx
    have hats := any_take_succ (p := badPr n) hx
    have hbx := hbp x
    unfold pairV at hbx
    refine AW.skip ?_
    refine hK5 _ _ _ ?_; clear hK5
    refine AW.seq fun K6 hK6 => ?_
    refine AW.block ?_
    refine AW.seq fun K7 hK7 => ?_
    -- region 3
    refine AW.regionK 0 (fun _ => none) [0, 1, 5, 7, 8] [] ?_
    simp only [go_sem, reduceIte, reduceCtorEq, Nat.reduceAdd, Nat.reduceMul, Nat.reduceEqDiff, Nat.reduceLT, Nat.reduceLeDiff, Nat.reduceSub, Nat.reducePow, Nat.reduceBEq, Int.reduceToNat, List.reduceReplicate]
    repeat with_reducible refine cj ?_ ?_
    all_goals try first | omega
    refine hK7 _ _ _ ?_; clear hK7
    refine AW.seq fun K8 hK8 => ?_
    -- region 4
    refine AW.regionK 0 (fun ii => if ii = 5 then some (.reads false (.bool (badPr n x))) else none) [0, 1, 5, 7, 8, 16] [] ?_
    simp only [go_sem, reduceIte, reduceCtorEq, Nat.reduceAdd, Nat.reduceMul, Nat.reduceEqDiff, Nat.reduceLT, Nat.reduceLeDiff, Nat.reduceSub, Nat.reducePow, Nat.reduceBEq, Int.reduceToNat, List.reduceReplicate, hgx, pairV]
    repeat with_reducible refine cj ?_ ?_
    all_goals try first | (exact hbx) | omega | exact ent (by kernel_rfl)
    refine hK8 _ _ _ ?_; clear hK8
    -- cond 2
    refine AW.cond rfl (by simp only [go_sem, reduceIte, reduceCtorEq, Nat.reduceAdd, Nat.reduceMul, Nat.reduceEqDiff, Nat.reduceLT, Nat.reduceLeDiff, Nat.reduceSub, Nat.reducePow, Nat.reduceBEq, Int.reduceToNat, List.reduceReplicate]) ?_ ?_
    · intro hb
      try simp only [hB, decide_eq_true_eq, decide_eq_false_iff_not] at hb
      refine AW.seq fun K9 hK9 => ?_
      -- region 5
      refine AW.regionK 0 (fun _ => none) [4] [] ?_
      simp only [go_sem, reduceIte, reduceCtorEq, Nat.reduceAdd, Nat.reduceMul, Nat.reduceEqDiff, Nat.reduceLT, Nat.reduceLeDiff, Nat.reduceSub, Nat.reducePow, Nat.reduceBEq, Int.reduceToNat, List.reduceReplicate]
      repeat with_reducible refine cj ?_ ?_
      all_goals try first | omega
      refine hK9 _ _ _ ?_; clear hK9
      refine AW.ret ?_
      rw [← hQl1]
      rw [← hQr]
      simp only [go_sem, reduceIte, reduceCtorEq, Nat.reduceAdd, Nat.reduceMul, Nat.reduceEqDiff, Nat.reduceLT, Nat.reduceLeDiff, Nat.reduceSub, Nat.reducePow, Nat.reduceBEq, Int.reduceToNat, List.reduceReplicate]
      exact Wk.of_eq (by rw [ixf_at hx hb hall])
    · intro hb
      try simp only [hB, decide_eq_true_eq, decide_eq_false_iff_not] at hb
      refine AW.skip ?_
      refine hK6 _ _ _ ?_; clear hK6
      -- region 6
      refine AW.regionK 0 (fun _ => none) [0, 1, 7, 8] [] ?_
      simp only [go_sem, reduceIte, reduceCtorEq, Nat.reduceAdd, Nat.reduceMul, Nat.reduceEqDiff, Nat.reduceLT, Nat.reduceLeDiff, Nat.reduceSub, Nat.reducePow, Nat.reduceBEq, Int.reduceToNat, List.reduceReplicate]
      repeat with_reducible refine cj ?_ ?_
      all_goals try first | omega
      rw [← hQl1]
      change Exists _
      refine ⟨_, ?hm, j + 1, rfl, ?henv, ?hstore, ?hst⟩
      case henv =>
        repeat' (first | rfl | refine env_cons ?_ ?_ | refine st_cons ?_ ?_ ?_ ?_ | refine int_eq ?_ | refine bool_eq ?_ | refine rsl_eq ?_ | refine osl_eq ?_ | refine sl_eq ?_ ?_ ?_ | refine ptr_eq ?_ ?_ ?_ | refine agg_eq ?_ | refine es_cons ?_ ?_ | refine row_cons ?_ ?_)
        all_goals (first | (simp; done) | omega | (simp; omega))
      case hstore =>
        repeat' (first | rfl | refine env_cons ?_ ?_ | refine st_cons ?_ ?_ ?_ ?_ | refine int_eq ?_ | refine bool_eq ?_ | refine rsl_eq ?_ | refine osl_eq ?_ | refine sl_eq ?_ ?_ ?_ | refine ptr_eq ?_ ?_ ?_ | refine agg_eq ?_ | refine es_cons ?_ ?_ | refine row_cons ?_ ?_)
        all_goals (first | (simp; done) | omega | (simp; omega))
      case hst =>
        exact ⟨by omega, by rw [hats, hall, hb]; rfl⟩
      case hm => omega
  · intro hb
    try simp only [hB, decide_eq_true_eq, decide_eq_false_iff_not] at hb
    refine AW.keep [] [] ?_
    try simp only [go_sem, reduceIte, reduceCtorEq, Nat.reduceAdd, Nat.reduceMul, Nat.reduceEqDiff, Nat.reduceLT, Nat.reduceLeDiff, Nat.reduceSub, Nat.reducePow, Nat.reduceBEq, Int.reduceToNat, List.reduceReplicate]
    refine AW.exit ?_
    rw [← hQl1]
    refine hK2 _ _ _ ?_; clear hK2
    refine AW.seq fun K10 hK10 => ?_
    -- region 7
    refine AW.regionK 0 (fun _ => none) [4] [] ?_
    simp only [go_sem, reduceIte, reduceCtorEq, Nat.reduceAdd, Nat.reduceMul, Nat.reduceEqDiff, Nat.reduceLT, Nat.reduceLeDiff, Nat.reduceSub, Nat.reducePow, Nat.reduceBEq, Int.reduceToNat, List.reduceReplicate]
    repeat with_reducible refine cj ?_ ?_
    all_goals try first | omega
    refine hK10 _ _ _ ?_; clear hK10
    refine AW.ret ?_
    rw [← hQr]
    simp only [go_sem, reduceIte, reduceCtorEq, Nat.reduceAdd, Nat.reduceMul, Nat.reduceEqDiff, Nat.reduceLT, Nat.reduceLeDiff, Nat.reduceSub, Nat.reducePow, Nat.reduceBEq, Int.reduceToNat, List.reduceReplicate]
    exact Wk.of_eq (by rw [List.take_of_length_le (by omega)] at hall; rw [ixf_none hall])
theorem ctpr_r (n : Int) (ns : List (Int × Int)) (hl2 : ns.length ≤ 9223372036854775807) : Reads Tryd.prog 96 false [.rsl 2 (ns.map pairV), .fn 97 [.rptr [.fn 95 [.rptr [.int .i64 n]]]]] (.bool (ns.any (badPr n))) := by
  have h := ixpr_r n ns hl2
  have hge := ixf_ge (badPr n) ns
  refine Reads.body (rs := [.tmp 4]) Tryd.func96 rfl Tryd.ntmps96 rfl (by simp) ?_
  generalize hQr : retQ _ _ _ = Qr
  refine AW.seq fun K1 hK1 => ?_
  -- region 0
  refine AW.regionK 0 (fun _ => none) [0, 1] [] ?_
  simp only [go_sem, reduceIte, reduceCtorEq, Nat.reduceAdd, Nat.reduceMul, Nat.reduceEqDiff, Nat.reduceLT, Nat.reduceLeDiff, Nat.reduceSub, Nat.reducePow, Nat.reduceBEq, Int.reduceToNat, List.reduceReplicate]
  repeat with_reducible refine cj ?_ ?_
  all_goals try first | omega
  refine hK1 _ _ _ ?_; clear hK1
  refine AW.seq fun K2 hK2 => ?_
  -- region 1
  refine AW.regionK 0 (fun ii => if ii = 2 then some (.reads false (.int .i64 (ixf (badPr n) ns))) else none) [4] [] ?_
  simp only [go_sem, reduceIte, reduceCtorEq, Nat.reduceAdd, Nat.reduceMul, Nat.reduceEqDiff, Nat.reduceLT, Nat.reduceLeDiff, Nat.reduceSub, Nat.reducePow, Nat.reduceBEq, Int.reduceToNat, List.reduceReplicate]
  repeat with_reducible refine cj ?_ ?_
  all_goals try first | (exact h) | omega | exact ent (by kernel_rfl)
  refine hK2 _ _ _ ?_; clear hK2
  refine AW.ret ?_
  rw [← hQr]
  simp only [go_sem, reduceIte, reduceCtorEq, Nat.reduceAdd, Nat.reduceMul, Nat.reduceEqDiff, Nat.reduceLT, Nat.reduceLeDiff, Nat.reduceSub, Nat.reducePow, Nat.reduceBEq, Int.reduceToNat, List.reduceReplicate]
  exact Wk.of_eq (by rw [hge])
theorem make_g (n : Nat) (ns : List (Int × Int)) (hl2 : ns.length ≤ 9223372036854775807) (hn : n ≤ 512) (hin : ∀ p ∈ ns, inP n p) : Reads Tryd.prog 72 false [.int .i64 n, .rsl 2 (ns.map pairV)] (.tup [relB (putL (zeroT n) ns), .int .i64 ((0 : Nat) : Int)]) := by
  have h := Reads.flat (ctpr_r n ns hl2) rfl
  have hnb : ns.any (badPr n) = false := by
    rw [List.any_eq_false]; intro p hp
    have := hin p hp
    unfold inP at this
    simp [badPr]; omega
  rw [hnb] at h
  have hemp := empty_u n hn
  have hsq := fun j => Sq.putL (n := n) (ns.take j) (Sq.rep n) (fun p hp => hin p (List.mem_of_mem_take hp))
  unfold relB
  refine Reads.body (rs := [.cell 4 24, .tmp 5]) Tryd.func72 rfl Tryd.ntmps72 rfl (by simp) ?_
  generalize hQr : retQ _ _ _ = Qr
  refine AW.seq fun K1 hK1 => ?_
  -- region 0
  refine AW.regionK 0 (fun _ => none) [1, 2, 4] [2, 4] ?_
  simp only [go_sem, reduceIte, reduceCtorEq, Nat.reduceAdd, Nat.reduceMul, Nat.reduceEqDiff, Nat.reduceLT, Nat.reduceLeDiff, Nat.reduceSub, Nat.reducePow, Nat.reduceBEq, Int.reduceToNat, List.reduceReplicate, renC_tabO]
  repeat with_reducible refine cj ?_ ?_
  all_goals try first | omega
  refine hK1 _ _ _ ?_; clear hK1
  refine AW.seq fun K2 hK2 => ?_
  -- region 1
  refine AW.regionK 0 (fun _ => none) [1, 2, 4, 6] [2, 4, 6] ?_
  simp only [go_sem, reduceIte, reduceCtorEq, Nat.reduceAdd, Nat.reduceMul, Nat.reduceEqDiff, Nat.reduceLT, Nat.reduceLeDiff, Nat.reduceSub, Nat.reducePow, Nat.reduceBEq, Int.reduceToNat, List.reduceReplicate, renC_tabO]
  repeat with_reducible refine cj ?_ ?_
  all_goals try first | omega
  refine hK2 _ _ _ ?_; clear hK2
  refine AW.seq fun K3 hK3 => ?_
  refine AW.seq fun K4 hK4 => ?_
  -- region 2
  refine AW.regionK 0 (fun ii => if ii = 9 then some (.reads true (.bool false)) else none) [1, 2, 4, 21] [2, 4] ?_
  simp only [go_sem, reduceIte, reduceCtorEq, Nat.reduceAdd, Nat.reduceMul, Nat.reduceEqDiff, Nat.reduceLT, Nat.reduceLeDiff, Nat.reduceSub, Nat.reducePow, Nat.reduceBEq, Int.reduceToNat, List.reduceReplicate, renC_tabO]
  repeat with_reducible refine cj ?_ ?_
  all_goals try first | ((intro hh; exact ⟨hh, h⟩)) | (intros; (repeat' apply And.intro) <;> first | assumption | ((intro hh; exact ⟨hh, h⟩))) | omega | exact ent (by kernel_rfl) | (intro hgd; exact absurd hgd (by decide)) | rfl | (simp only [go_sem, reduceIte, reduceCtorEq, Nat.reduceAdd, Nat.reduceMul, Nat.reduceEqDiff, Nat.reduceLT, Nat.reduceLeDiff, Nat.reduceSub, Nat.reducePow, Nat.reduceBEq, Int.reduceToNat, List.reduceReplicate, renC_tabO]; done) | (intro _hgd; simp_all [go_sem]; done)
  refine hK4 _ _ _ ?_; clear hK4
  -- cond 1
  refine AW.cond rfl (by simp only [go_sem, reduceIte, reduceCtorEq, Nat.reduceAdd, Nat.reduceMul, Nat.reduceEqDiff, Nat.reduceLT, Nat.reduceLeDiff, Nat.reduceSub, Nat.reducePow, Nat.reduceBEq, Int.reduceToNat, List.reduceReplicate]) ?_ ?_
  · intro hb
    try simp only [hB, decide_eq_true_eq, decide_eq_false_iff_not] at hb
    exfalso; first | omega | (simp at hb; omega)
  · intro hb
    try simp only [hB, decide_eq_true_eq, decide_eq_false_iff_not] at hb
    refine AW.skip ?_
    refine hK3 _ _ _ ?_; clear hK3
    refine AW.seq fun K5 hK5 => ?_
    -- region 4
    refine AW.regionK 0 (fun ii => if ii = 1 then some (.upd [] (fun k => [(0, some ⟨k, k, 2, tabO (List.replicate n (List.replicate n false))⟩)]) (fun k => .agg [.sl ⟨0, k, none⟩ 0 n none])) else none) [1, 4, 7] [4, 7, 24] ?_
    simp only [go_sem, reduceIte, reduceCtorEq, Nat.reduceAdd, Nat.reduceMul, Nat.reduceEqDiff, Nat.reduceLT, Nat.reduceLeDiff, Nat.reduceSub, Nat.reducePow, Nat.reduceBEq, Int.reduceToNat, List.reduceReplicate, renC_tabO]
    repeat with_reducible refine cj ?_ ?_
    all_goals try first | (exact hemp) | omega | exact ent (by kernel_rfl)
    refine hK5 _ _ _ ?_; clear hK5
    refine AW.seq fun K6 hK6 => ?_
    refine AW.seq fun K7 hK7 => ?_
    -- region 5
    refine AW.regionK 0 (fun _ => none) [4, 7, 25, 26, 27] [4, 7, 24] ?_
    simp only [go_sem, reduceIte, reduceCtorEq, Nat.reduceAdd, Nat.reduceMul, Nat.reduceEqDiff, Nat.reduceLT, Nat.reduceLeDiff, Nat.reduceSub, Nat.reducePow, Nat.reduceBEq, Int.reduceToNat, List.reduceReplicate, renC_tabO]
    repeat with_reducible refine cj ?_ ?_
    all_goals try first | omega
    refine hK7 _ _ _ ?_; clear hK7
    refine AW.block ?_
    -- loop 1
    refine AW.loopE (fun mm ee ss kk => ∃ (j g4 v4 g7 v7 g v : Nat), ns.length - j = mm ∧ ee = [(4, .ptr ⟨4, g4, none⟩ 0 0), (7, .ptr ⟨7, g7, none⟩ 0 0), (25, .rsl 2 (ns.map pairV)), (26, .int .i64 ns.length), (27, .int .i64 (j : Nat))] ∧ ss = [(4, some ⟨g4, v4, 1, [[.nilsl]]⟩), (7, some ⟨g7, v7, 1, [[.sl ⟨24, g, none⟩ 0 n none]]⟩), (24, some ⟨g, v, 2, tabO (putL (zeroT n) (ns.take j))⟩)] ∧ (j ≤ ns.length)) ?_ ?_
    · refine ⟨_, 0, ?_, ?_, ?_, ?_, ?_, ?_, rfl, ?henv, ?hstore, ?hst⟩
      case henv =>
        repeat' (first | rfl | refine env_cons ?_ ?_ | refine st_cons ?_ ?_ ?_ ?_ | refine int_eq ?_ | refine bool_eq ?_ | refine rsl_eq ?_ | refine osl_eq ?_ | refine sl_eq ?_ ?_ ?_ | refine ptr_eq ?_ ?_ ?_ | refine agg_eq ?_ | refine es_cons ?_ ?_ | refine row_cons ?_ ?_)
        all_goals (first | (simp; done) | omega | (simp; omega))
      case hstore =>
        repeat' (first | rfl | refine env_cons ?_ ?_ | refine st_cons ?_ ?_ ?_ ?_ | refine int_eq ?_ | refine bool_eq ?_ | refine rsl_eq ?_ | refine osl_eq ?_ | refine sl_eq ?_ ?_ ?_ | refine ptr_eq ?_ ?_ ?_ | refine agg_eq ?_ | refine es_cons ?_ ?_ | refine row_cons ?_ ?_)
        all_goals (first | (simp; done) | omega | (simp; omega))
      case hst =>
        first | trivial | omega | (simp; done) | (simp; omega)
    rintro mm ee ss kk ⟨j, g4, v4, g7, v7, g, v, rfl, rfl, rfl, hI⟩
    generalize hQl1 : thenQ _ _ = Ql1
    refine AW.seq fun K8 hK8 => ?_
    -- region 6
    refine AW.regionK 0 (fun _ => none) [4, 7, 25, 26, 27, 28] [4, 7, 24] ?_
    simp only [go_sem, reduceIte, reduceCtorEq, Nat.reduceAdd, Nat.reduceMul, Nat.reduceEqDiff, Nat.reduceLT, Nat.reduceLeDiff, Nat.reduceSub, Nat.reducePow, Nat.reduceBEq, Int.reduceToNat, List.reduceReplicate, renC_tabO]
    repeat with_reducible refine cj ?_ ?_
    all_goals try first | omega
    refine hK8 _ _ _ ?_; clear hK8
    refine AW.seq fun K9 hK9 => ?_
    -- cond 2
    refine AW.cond rfl (by simp only [go_sem, reduceIte, reduceCtorEq, Nat.reduceAdd, Nat.reduceMul, Nat.reduceEqDiff, Nat.reduceLT, Nat.reduceLeDiff, Nat.reduceSub, Nat.reducePow, Nat.reduceBEq, Int.reduceToNat, List.reduceReplicate]) ?_ ?_
    · intro hb
      try simp only [hB, decide_eq_true_eq, decide_eq_false_iff_not] at hb
      obtain ⟨p, hp⟩ := getI (l := ns) (j := j) (by omega)
      have hgp := getV (f := pairV) hp
      have hip := hin p (List.mem_of_getElem? hp)
      have hpt := putL_take (u := zeroT n) hp
      have hsu := hsq j
      change Sq n (putL (zeroT n) _) at hsu
      unfold inP at hip
      generalize putL (zeroT n) (ns.take j) = U at *
      have hpu := fun g v => put_u n U hsu hn p.1.toNat p.2.toNat (by omega) (by omega) g v none
      rw [Int.toNat_of_nonneg hip.1, Int.toNat_of_nonneg hip.2.2.1] at hpu
      unfold putT at hpt
      refine AW.skip ?_
      refine hK9 _ _ _ ?_; clear hK9
      refine AW.seq fun K10 hK10 => ?_
      refine AW.block ?_
      refine AW.seq fun K11 hK11 => ?_
      -- region 7
      refine AW.regionK 0 (fun _ => none) [4, 7, 9, 25, 26, 27] [4, 7, 9, 24] ?_
      simp only [go_sem, reduceIte, reduceCtorEq, Nat.reduceAdd, Nat.reduceMul, Nat.reduceEqDiff, Nat.reduceLT, Nat.reduceLeDiff, Nat.reduceSub, Nat.reducePow, Nat.reduceBEq, Int.reduceToNat, List.reduceReplicate, renC_tabO, hgp, pairV]
      repeat with_reducible refine cj ?_ ?_
      all_goals try first | omega
      refine hK11 _ _ _ ?_; clear hK11
      -- region 8
      refine AW.regionK 0 (fun ii => if ii = 5 then some (.upd [24] (fun kk => [(0, some ⟨g, kk, 2, tabO (U.set p.1.toNat ((rowT U p.1.toNat).set p.2.toNat true))⟩)]) (fun _ => .tup [])) else none) [4, 7, 25, 26, 27] [4, 7, 24] ?_
      simp only [go_sem, reduceIte, reduceCtorEq, Nat.reduceAdd, Nat.reduceMul, Nat.reduceEqDiff, Nat.reduceLT, Nat.reduceLeDiff, Nat.reduceSub, Nat.reducePow, Nat.reduceBEq, Int.reduceToNat, List.reduceReplicate, renC_tabO]
      repeat with_reducible refine cj ?_ ?_
      all_goals try first | (exact hpu _ _) | omega | exact ent (by kernel_rfl)
      refine hK10 _ _ _ ?_; clear hK10
      -- region 9
      refine AW.regionK 0 (fun _ => none) [4, 7, 25, 26, 27] [4, 7, 24] ?_
      simp only [go_sem, reduceIte, reduceCtorEq, Nat.reduceAdd, Nat.reduceMul, Nat.reduceEqDiff, Nat.reduceLT, Nat.reduceLeDiff, Nat.reduceSub, Nat.reducePow, Nat.reduceBEq, Int.reduceToNat, List.reduceReplicate, renC_tabO]
      repeat with_reducible refine cj ?_ ?_
      all_goals try first | omega
      rw [← hQl1]
      change Exists _
      refine ⟨_, ?hm, j + 1, ?_, ?_, ?_, ?_, ?_, ?_, rfl, ?henv, ?hstore, ?hst⟩
      case henv =>
        repeat' (first | rfl | refine env_cons ?_ ?_ | refine st_cons ?_ ?_ ?_ ?_ | refine int_eq ?_ | refine bool_eq ?_ | refine rsl_eq ?_ | refine osl_eq ?_ | refine sl_eq ?_ ?_ ?_ | refine ptr_eq ?_ ?_ ?_ | refine agg_eq ?_ | refine es_cons ?_ ?_ | refine row_cons ?_ ?_)
        all_goals (first | (simp; done) | omega | (simp; omega))
      case hstore =>
        repeat' (first | rfl | refine env_cons ?_ ?_ | refine st_cons ?_ ?_ ?_ ?_ | refine int_eq ?_ | refine bool_eq ?_ | refine rsl_eq ?_ | refine osl_eq ?_ | refine sl_eq ?_ ?_ ?_ | refine ptr_eq ?_ ?_ ?_ | refine agg_eq ?_ | refine es_cons ?_ ?_ | refine row_cons ?_ ?_)
        all_goals (rw [hpt])
      case hst =>
        first | trivial | omega | (simp; done) | (simp; omega)
      case hm => omega
    · intro hb
      try simp only [hB, decide_eq_true_eq, decide_eq_false_iff_not] at hb
      refine AW.keep [4, 7] [4, 7, 24] ?_
      try simp only [go_sem, reduceIte, reduceCtorEq, Nat.reduceAdd, Nat.reduceMul, Nat.reduceEqDiff, Nat.reduceLT, Nat.reduceLeDiff, Nat.reduceSub, Nat.reducePow, Nat.reduceBEq, Int.reduceToNat, List.reduceReplicate]
      refine AW.exit ?_
      rw [← hQl1]
      refine hK6 _ _ _ ?_; clear hK6
      refine AW.seq fun K12 hK12 => ?_
      -- region 10
      refine AW.regionK 0 (fun _ => none) [4, 5] [4, 24] ?_
      simp only [go_sem, reduceIte, reduceCtorEq, Nat.reduceAdd, Nat.reduceMul, Nat.reduceEqDiff, Nat.reduceLT, Nat.reduceLeDiff, Nat.reduceSub, Nat.reducePow, Nat.reduceBEq, Int.reduceToNat, List.reduceReplicate, renC_tabO]
      repeat with_reducible refine cj ?_ ?_
      all_goals try first | omega
      refine hK12 _ _ _ ?_; clear hK12
      refine AW.ret ?_
      rw [← hQr]
      simp only [go_sem, reduceIte, reduceCtorEq, Nat.reduceAdd, Nat.reduceMul, Nat.reduceEqDiff, Nat.reduceLT, Nat.reduceLeDiff, Nat.reduceSub, Nat.reducePow, Nat.reduceBEq, Int.reduceToNat, List.reduceReplicate, renC_tabO]
      have hj2 : j = ns.length := by omega
      subst hj2
      have hfl : ns.take ns.length = ns := List.take_of_length_le (Nat.le_refl _)
      have hsz := hsq ns.length
      rw [hfl] at *
      refine Wk.of_eq ?_
      rw [List.take_of_length_le (by rw [tabO_len]; exact Nat.le_of_eq hsz.len), vwc_tabO]
      rfl
end Go.Proofs.P

/- More on tables: what the reference computes. -/
namespace Go.AM
section
variable (s : Store) (d : Nat)
end
end Go.AM

namespace Go.Proofs.P
open Go.AM Go
set_option maxRecDepth 100000
set_option maxHeartbeats 1000000
end Go.Proofs.P

/- The algebra of relations. -/
namespace Go.AM
theorem bool_ext {x y : Bool} (h : x = true ↔ y = true) : x = y := by cases x <;> cases y <;> simp_all
theorem mk_pairs {n : Nat} {a : List (List Bool)} (ha : Sq n a) : putL (zeroT n) (pairsT a n) = a := by
  refine tab_ext (n := n) (Sq.putL _ (Sq.rep n) pairsT_in) ha fun i j hi hj => ?_
  rw [atT_putL (n := n) (u := zeroT n) i j _ (Sq.rep n) pairsT_in]
  have e : atT (zeroT n) i j = false := atT_rep n i j
  rw [e, Bool.false_or]
  refine bool_ext ?_
  rw [decide_eq_true_eq, pairsT_mem]
  constructor
  · rintro ⟨a, b, he, _, _, h2⟩
    simp only [Prod.mk.injEq] at he
    have : i = a ∧ j = b := by omega
    rw [this.1, this.2]; exact h2
  · intro h; exact ⟨i, j, rfl, hi, hj, h⟩
end Go.AM

/- The transitive closure. -/
namespace Go.AM
theorem warshI_row {n k : Nat} {t : List (List Bool)} (ht : Sq n t) (hk : k < n) : ∀ m, m ≤ n → Sq n (iter (warshI k) m t) ∧ rowT (iter (warshI k) m t) k = rowT t k ∧ ∀ i, i < n → rowT (iter (warshI k) m t) i = if i < m ∧ atT t i k = true then List.zipWith (· || ·) (rowT t i) (rowT t k) else rowT t i
  | 0, _ => ⟨ht, rfl, fun i _ => by rw [if_neg (by omega)]; rfl⟩
  | m + 1, hm => by
    obtain ⟨h1, h2, h3⟩ := warshI_row ht hk m (by omega)
    have hs : Sq n (iter (warshI k) (m + 1) t) := h1.warshI hk (by omega)
    rw [iter_succ, warshI_eq] at hs ⊢
    generalize iter (warshI k) m t = U at *
    have hUl := h1.len
    have hat : atT U m k = atT t m k := by
      have := h3 m (by omega)
      rw [if_neg (by omega)] at this
      unfold atT; rw [this]
    have hrm : rowT U m = rowT t m := by have := h3 m (by omega); rw [if_neg (by omega)] at this; exact this
    have hself : List.zipWith (· || ·) (rowT t k) (rowT t k) = rowT t k := by
      refine List.ext_getElem (by simp) fun i a b => by simp
    by_cases hc : atT t m k = true
    · rw [if_pos (by rw [hat]; exact hc)] at hs ⊢
      unfold orRow at hs ⊢
      refine ⟨hs, ?_, fun i hi => ?_⟩
      · rw [rowT_set]
        by_cases e : m = k
        · rw [if_pos ⟨e, by omega⟩, hrm, h2, e, hself]
        · rw [if_neg (by rintro ⟨x, _⟩; exact e x), h2]
      · rw [rowT_set]
        by_cases e : m = i
        · subst e
          rw [if_pos ⟨rfl, by omega⟩, hrm, h2, if_pos ⟨by omega, hc⟩]
        · rw [if_neg (by rintro ⟨x, _⟩; exact e x), h3 i hi]
          have : (i < m + 1 ∧ atT t i k = true) ↔ (i < m ∧ atT t i k = true) := ⟨fun h => ⟨by omega, h.2⟩, fun h => ⟨by omega, h.2⟩⟩
          simp only [this]
    · rw [if_neg (by rw [hat]; exact hc)] at hs ⊢
      refine ⟨hs, h2, fun i hi => ?_⟩
      rw [h3 i hi]
      have : (i < m + 1 ∧ atT t i k = true) ↔ (i < m ∧ atT t i k = true) := ⟨fun h => ⟨by
        by_cases e : i = m
        · subst e; exact absurd h.2 hc
        · omega, h.2⟩, fun h => ⟨by omega, h.2⟩⟩
      simp only [this]
theorem atT_warshK {n k : Nat} {t : List (List Bool)} (ht : Sq n t) (hk : k < n) {i j : Nat} (hi : i < n) (hj : j < n) : atT (warshK n k t) i j = (atT t i j || (atT t i k && atT t k j)) := by
  obtain ⟨_, _, h3⟩ := warshI_row ht hk n (Nat.le_refl _)
  have h := h3 i hi
  unfold warshK
  have h4 : atT (iter (warshI k) n t) i j = (rowT (iter (warshI k) n t) i).getD j false := rfl
  rw [h4, h]
  by_cases hc : atT t i k = true
  · rw [if_pos ⟨hi, hc⟩, zipB_get _ (by rw [ht.rowLen hi, ht.rowLen hk]) (by rw [ht.rowLen hi]; exact hj), hc, Bool.true_and]; rfl
  · rw [if_neg (by rintro ⟨_, x⟩; exact hc x)]
    have : atT t i k = false := by simpa using hc
    rw [this, Bool.false_and, Bool.or_false]; rfl
/-- Paths whose inner nodes are less than k. -/
def R_ (t : List (List Bool)) : Nat → Nat → Nat → Bool
  | 0, i, j => atT t i j
  | k + 1, i, j => R_ t k i j || (R_ t k i k && R_ t k k j)
theorem warsh_R {n : Nat} {t : List (List Bool)} (ht : Sq n t) : ∀ m, m ≤ n → ∀ i j, i < n → j < n → atT (iter (warshK n) m t) i j = R_ t m i j
  | 0, _, i, j, _, _ => rfl
  | m + 1, hm, i, j, hi, hj => by
    have ih := warsh_R ht m (by omega)
    rw [iter_succ, atT_warshK (ht.warsh' (by omega)) (by omega) hi hj, ih i j hi hj, ih i m hi (by omega), ih m j (by omega) hj]; rfl
theorem R_trans {t : List (List Bool)} : ∀ (k m : Nat), m < k → ∀ i j, R_ t k i m = true → R_ t k m j = true → R_ t k i j = true
  | k + 1, m, hm, i, j, h1, h2 => by
    simp only [R_, Bool.or_eq_true, Bool.and_eq_true] at h1 h2 ⊢
    by_cases e : m = k
    · subst e
      right
      exact ⟨by rcases h1 with h | h; exact h; exact h.1, by rcases h2 with h | h; exact h; exact h.2⟩
    · have ih := R_trans (t := t) k m (by omega)
      rcases h1 with h1 | h1 <;> rcases h2 with h2 | h2
      · exact .inl (ih i j h1 h2)
      · exact .inr ⟨ih i k h1 h2.1, h2.2⟩
      · exact .inr ⟨h1.1, ih k j h1.2 h2⟩
      · exact .inr ⟨h1.1, h2.2⟩
theorem warsh_trans {n : Nat} {t : List (List Bool)} (ht : Sq n t) {i k j : Nat} (hi : i < n) (hk : k < n) (hj : j < n) (h1 : atT (warsh n t) i k = true) (h2 : atT (warsh n t) k j = true) : atT (warsh n t) i j = true := by
  unfold warsh at *
  rw [warsh_R ht n (Nat.le_refl _) _ _ hi hk] at h1
  rw [warsh_R ht n (Nat.le_refl _) _ _ hk hj] at h2
  rw [warsh_R ht n (Nat.le_refl _) _ _ hi hj]
  exact R_trans n k hk i j h1 h2
theorem R_mono {t : List (List Bool)} : ∀ (k i j : Nat), atT t i j = true → R_ t k i j = true
  | 0, _, _, h => h
  | k + 1, i, j, h => by simp only [R_, Bool.or_eq_true]; exact .inl (R_mono k i j h)
theorem warsh_sub {n : Nat} {t : List (List Bool)} (ht : Sq n t) {i j : Nat} (hi : i < n) (hj : j < n) (h : atT t i j = true) : atT (warsh n t) i j = true := by
  unfold warsh; rw [warsh_R ht n (Nat.le_refl _) _ _ hi hj]; exact R_mono n i j h
/-- The closure is the least. -/
theorem R_least {n : Nat} {t : List (List Bool)} {S : Nat → Nat → Prop} (hs : ∀ i j, i < n → j < n → atT t i j = true → S i j) (ht : ∀ i k j, i < n → k < n → j < n → S i k → S k j → S i j) : ∀ (k i j : Nat), k ≤ n → i < n → j < n → R_ t k i j = true → S i j
  | 0, i, j, _, hi, hj, h => hs i j hi hj h
  | k + 1, i, j, hk, hi, hj, h => by
    simp only [R_, Bool.or_eq_true, Bool.and_eq_true] at h
    rcases h with h | h
    · exact R_least hs ht k i j (by omega) hi hj h
    · exact ht i k j hi (by omega) hj (R_least hs ht k i k (by omega) hi (by omega) h.1) (R_least hs ht k k j (by omega) (by omega) hj h.2)
theorem warsh_least {n : Nat} {t : List (List Bool)} (h : Sq n t) {S : Nat → Nat → Prop} (hs : ∀ i j, i < n → j < n → atT t i j = true → S i j) (ht : ∀ i k j, i < n → k < n → j < n → S i k → S k j → S i j) {i j : Nat} (hi : i < n) (hj : j < n) (hw : atT (warsh n t) i j = true) : S i j := by
  unfold warsh at hw
  rw [warsh_R h n (Nat.le_refl _) _ _ hi hj] at hw
  exact R_least hs ht n i j (Nat.le_refl _) hi hj hw
end Go.AM

/- The program's cycle. -/
namespace Go.AM
abbrev CSt := List Int × List Int × Int
def cycI (t : List (List Bool)) (f at_ v : Int) (i : Nat) (st : CSt) : CSt :=
  if atT t i v.toNat then
    if (i : Int) ≠ f ∧ st.1.getD i 0 < 0 then (st.1.set i (at_ + 1), st.2.1 ++ [(i : Int)], if (i : Int) = f ∧ st.2.2 = 0 then at_ + 1 else st.2.2)
    else (st.1, st.2.1, if (i : Int) = f ∧ st.2.2 = 0 then at_ + 1 else st.2.2)
  else st
def cycAt (k : Nat) (st : CSt) : Int := if 0 < k then st.1.getD (st.2.1.getD k 0).toNat 0 else 0
def cycK (t : List (List Bool)) (n : Nat) (f : Int) (k : Nat) (st : CSt) : CSt := iter (cycI t f (cycAt k st) (st.2.1.getD k 0)) n st
def cyc0 (n : Nat) (f : Int) : CSt := (List.replicate n (-1), [f], 0)
structure WfC (n : Nat) (f : Int) (st : CSt) : Prop where
  len : st.1.length = n
  rng : ∀ v ∈ st.2.1, 0 ≤ v ∧ v < n
  cnt : st.1.count (-1) + st.2.1.length ≤ n + 1
  vals : ∀ i, -1 ≤ st.1.getD i 0 ∧ st.1.getD i 0 ≤ st.2.1.length + 1
  ln : 0 ≤ st.2.2 ∧ st.2.2 ≤ st.2.1.length + 2
theorem count_setI {l : List Int} {i : Nat} {k : Int} (h : l.getD i 0 = -1) (hk : k ≠ -1) : (l.set i k).count (-1) + 1 = l.count (-1) := by
  have hi : i < l.length := by
    rcases Nat.lt_or_ge i l.length with h1 | h1
    · exact h1
    · rw [Go.AM.getD_out h1] at h; omega
  rw [List.count_set hi]
  have e1 : l[i] = -1 := by simpa [List.getD_eq_getElem?_getD, hi] using h
  have e2 : (k == -1) = false := by simpa using hk
  have hpos : 0 < l.count (-1) := List.count_pos_iff.2 (e1 ▸ List.getElem_mem hi)
  simp only [e1, beq_self_eq_true, if_true, e2, Bool.false_eq_true, if_false]
  omega
theorem find_range_none {p : Nat → Bool} : ∀ {n : Nat}, (List.range n).find? p = none ↔ ∀ i, i < n → p i = false := fun {n} => by
  rw [List.find?_eq_none]; simp
theorem find_range_lt {p : Nat → Bool} {n i : Nat} (h : (List.range n).find? p = some i) : i < n ∧ p i = true ∧ ∀ j, j < i → p j = false := by
  rw [List.find?_range_eq_some] at h
  exact ⟨List.mem_range.1 h.2.1, h.1, fun j hj => by simpa using h.2.2 j hj⟩
end Go.AM
namespace Go.AM
theorem WfC.start {n : Nat} {f : Int} (h0 : 0 ≤ f) (h1 : f < n) : WfC n f (cyc0 n f) := by
  refine ⟨by simp [cyc0], fun v hv => ?_, by simp [cyc0], fun i => ?_, by simp [cyc0]⟩
  · simp [cyc0] at hv; subst hv; exact ⟨h0, h1⟩
  · simp only [cyc0]
    rw [List.getD_eq_getElem?_getD, List.getElem?_replicate]; split <;> simp
theorem WfC.i {n : Nat} {f : Int} {st : CSt} (h : WfC n f st) (t : List (List Bool)) {at_ : Int} (v : Int) {i : Nat} (hi : i < n) (ha0 : -1 ≤ at_) (ha1 : at_ ≤ st.2.1.length + 1) : WfC n f (cycI t f at_ v i st) ∧ st.2.1.length ≤ (cycI t f at_ v i st).2.1.length ∧ ∀ (j : Nat) (x : Int), st.2.1[j]? = some x → (cycI t f at_ v i st).2.1[j]? = some x := by
  unfold cycI
  split
  · split
    · rename_i _ hc
      have hv := h.vals i
      have hm : st.1.getD i 0 = -1 := by omega
      have hcs := count_setI hm (k := at_ + 1) (by omega)
      have hln := h.ln
      refine ⟨⟨by simp [h.len], fun x hx => ?_, ?_, fun j => ?_, ?_⟩, by simp, fun j x hj => ?_⟩
      · rcases List.mem_append.1 hx with hx | hx
        · exact h.rng x hx
        · simp at hx; subst hx; omega
      · have := h.cnt
        simp only [List.length_append, List.length_singleton]; omega
      · have := h.vals j
        simp only [List.length_append, List.length_singleton]
        by_cases e : i = j
        · subst e
          by_cases h2 : i < st.1.length
          · rw [Go.AM.getD_set_eq h2]; omega
          · rw [List.set_eq_of_length_le (by omega)]; omega
        · rw [Go.AM.getD_set_ne e]; omega
      · simp only [List.length_append, List.length_singleton]
        split <;> omega
      · rw [List.getElem?_append_left (List.getElem?_eq_some_iff.1 hj).1]; exact hj
    · have hln := h.ln
      refine ⟨⟨h.len, h.rng, h.cnt, h.vals, ?_⟩, Nat.le_refl _, fun j x hj => hj⟩
      simp only
      split <;> omega
  · exact ⟨h, Nat.le_refl _, fun j x hj => hj⟩
theorem WfC.k' {n : Nat} {f : Int} {st : CSt} (h : WfC n f st) (t : List (List Bool)) {at_ : Int} (v : Int) (ha0 : -1 ≤ at_) (ha1 : at_ ≤ st.2.1.length + 1) : ∀ m, m ≤ n → WfC n f (iter (cycI t f at_ v) m st) ∧ st.2.1.length ≤ (iter (cycI t f at_ v) m st).2.1.length ∧ ∀ (j : Nat) (x : Int), st.2.1[j]? = some x → (iter (cycI t f at_ v) m st).2.1[j]? = some x
  | 0, _ => ⟨h, Nat.le_refl _, fun _ _ hj => hj⟩
  | m + 1, hm => by
    obtain ⟨h1, h2, h3⟩ := WfC.k' h t v ha0 ha1 m (by omega)
    obtain ⟨g1, g2, g3⟩ := h1.i t v (i := m) (by omega) ha0 (by omega)
    exact ⟨g1, Nat.le_trans h2 g2, fun j x hj => g3 j x (h3 j x hj)⟩
theorem WfC.at {n : Nat} {f : Int} {st : CSt} (h : WfC n f st) (k : Nat) : -1 ≤ cycAt k st ∧ cycAt k st ≤ st.2.1.length + 1 := by
  unfold cycAt; split
  · exact h.vals _
  · omega
theorem WfC.k {n : Nat} {f : Int} {st : CSt} (h : WfC n f st) (t : List (List Bool)) (k : Nat) : WfC n f (cycK t n f k st) ∧ st.2.1.length ≤ (cycK t n f k st).2.1.length ∧ ∀ (j : Nat) (x : Int), st.2.1[j]? = some x → (cycK t n f k st).2.1[j]? = some x :=
  WfC.k' h t _ (h.at k).1 (h.at k).2 n (Nat.le_refl _)
end Go.AM

