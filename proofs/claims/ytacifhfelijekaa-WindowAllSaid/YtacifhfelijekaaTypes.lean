/-
  Closed facts on the types of this seat.
-/
import Derived.Test.YtacifhfelijekaaProg
import Derived.Test.YtacifhfelijekaaCoreQ
import Derived.KernelRfl
namespace Go.Proofs.Ytacifhfelijekaa
open Go Cp
theorem mixed : Try.prog.follows .mixedOrders = true := by kernel_rfl
theorem sz1 : sizeB Try.prog 1 = some 1 := by kernel_rfl
theorem one1 : oneB Try.prog 1 = true := by kernel_rfl
theorem by1 : bytesB Try.prog 1 = some 8 := by kernel_rfl
theorem zo1 : ([.nilFunc] : List Value).all (·.oneCell') = true := by kernel_rfl
theorem z1 : zeroB Try.prog 1 = some [.nilFunc] := by kernel_rfl
theorem sz2 : sizeB Try.prog 2 = some 1 := by kernel_rfl
theorem one2 : oneB Try.prog 2 = true := by kernel_rfl
theorem by2 : bytesB Try.prog 2 = some 8 := by kernel_rfl
theorem zo2 : ([.int .i64 0] : List Value).all (·.oneCell') = true := by kernel_rfl
theorem z2 : zeroB Try.prog 2 = some [.int .i64 0] := by kernel_rfl
theorem sz3 : sizeB Try.prog 3 = some 1 := by kernel_rfl
theorem one3 : oneB Try.prog 3 = true := by kernel_rfl
theorem by3 : bytesB Try.prog 3 = some 8 := by kernel_rfl
theorem zo3 : ([.int .i64 0] : List Value).all (·.oneCell') = true := by kernel_rfl
theorem z3 : zeroB Try.prog 3 = some [.int .i64 0] := by kernel_rfl
theorem sz4 : sizeB Try.prog 4 = some 1 := by kernel_rfl
theorem one4 : oneB Try.prog 4 = true := by kernel_rfl
theorem by4 : bytesB Try.prog 4 = some 1 := by kernel_rfl
theorem zo4 : ([.bool false] : List Value).all (·.oneCell') = true := by kernel_rfl
theorem z4 : zeroB Try.prog 4 = some [.bool false] := by kernel_rfl
theorem sz5 : sizeB Try.prog 5 = some 1 := by kernel_rfl
theorem one5 : oneB Try.prog 5 = true := by kernel_rfl
theorem by5 : bytesB Try.prog 5 = some 1 := by kernel_rfl
theorem zo5 : ([.int .u8 0] : List Value).all (·.oneCell') = true := by kernel_rfl
theorem z5 : zeroB Try.prog 5 = some [.int .u8 0] := by kernel_rfl
theorem sz6 : sizeB Try.prog 6 = some 1 := by kernel_rfl
theorem one6 : oneB Try.prog 6 = true := by kernel_rfl
theorem by6 : bytesB Try.prog 6 = some 1 := by kernel_rfl
theorem zo6 : ([.int .u8 0] : List Value).all (·.oneCell') = true := by kernel_rfl
theorem z6 : zeroB Try.prog 6 = some [.int .u8 0] := by kernel_rfl
theorem sz7 : sizeB Try.prog 7 = some 4 := by kernel_rfl
theorem agg7 : aggB Try.prog 7 = true := by kernel_rfl
theorem by7 : bytesB Try.prog 7 = some 24 := by kernel_rfl
theorem bl7 : ∀ ps, Try.prog.built 7 ps = Instr.fill (fun i => (#[(0, 1), (1, 1), (2, 1), (3, 1)] : Array (Nat × Nat))[i]?) ([.int .i64 0, .int .i64 0, .bool false, .int .u8 0] : List Value).toArray ps := by intro ps; kernel_rfl
theorem zo7 : ([.int .i64 0, .int .i64 0, .bool false, .int .u8 0] : List Value).all (·.oneCell') = true := by kernel_rfl
theorem z7 : zeroB Try.prog 7 = some [.int .i64 0, .int .i64 0, .bool false, .int .u8 0] := by kernel_rfl
theorem fo7_0 : fieldOff Try.prog 7 0 = some 0 := by kernel_rfl
theorem fo7_1 : fieldOff Try.prog 7 1 = some 1 := by kernel_rfl
theorem fo7_2 : fieldOff Try.prog 7 2 = some 2 := by kernel_rfl
theorem fo7_3 : fieldOff Try.prog 7 3 = some 3 := by kernel_rfl
theorem sz8 : sizeB Try.prog 8 = some 4 := by kernel_rfl
theorem agg8 : aggB Try.prog 8 = true := by kernel_rfl
theorem by8 : bytesB Try.prog 8 = some 24 := by kernel_rfl
theorem bl8 : ∀ ps, Try.prog.built 8 ps = Instr.fill (fun i => (#[(0, 1), (1, 1), (2, 1), (3, 1)] : Array (Nat × Nat))[i]?) ([.int .i64 0, .int .i64 0, .bool false, .int .u8 0] : List Value).toArray ps := by intro ps; kernel_rfl
theorem zo8 : ([.int .i64 0, .int .i64 0, .bool false, .int .u8 0] : List Value).all (·.oneCell') = true := by kernel_rfl
theorem z8 : zeroB Try.prog 8 = some [.int .i64 0, .int .i64 0, .bool false, .int .u8 0] := by kernel_rfl
theorem fo8_0 : fieldOff Try.prog 8 0 = some 0 := by kernel_rfl
theorem fo8_1 : fieldOff Try.prog 8 1 = some 1 := by kernel_rfl
theorem fo8_2 : fieldOff Try.prog 8 2 = some 2 := by kernel_rfl
theorem fo8_3 : fieldOff Try.prog 8 3 = some 3 := by kernel_rfl
theorem sz9 : sizeB Try.prog 9 = some 1 := by kernel_rfl
theorem one9 : oneB Try.prog 9 = true := by kernel_rfl
theorem by9 : bytesB Try.prog 9 = some 16 := by kernel_rfl
theorem zo9 : ([.string (ByteArray.mk #[])] : List Value).all (·.oneCell') = true := by kernel_rfl
theorem z9 : zeroB Try.prog 9 = some [.string (ByteArray.mk #[])] := by kernel_rfl
theorem sz10 : sizeB Try.prog 10 = some 1 := by kernel_rfl
theorem one10 : oneB Try.prog 10 = true := by kernel_rfl
theorem by10 : bytesB Try.prog 10 = some 16 := by kernel_rfl
theorem zo10 : ([.string (ByteArray.mk #[])] : List Value).all (·.oneCell') = true := by kernel_rfl
theorem z10 : zeroB Try.prog 10 = some [.string (ByteArray.mk #[])] := by kernel_rfl
theorem sz11 : sizeB Try.prog 11 = some 1 := by kernel_rfl
theorem one11 : oneB Try.prog 11 = true := by kernel_rfl
theorem by11 : bytesB Try.prog 11 = some 16 := by kernel_rfl
theorem zo11 : ([.string (ByteArray.mk #[])] : List Value).all (·.oneCell') = true := by kernel_rfl
theorem z11 : zeroB Try.prog 11 = some [.string (ByteArray.mk #[])] := by kernel_rfl
theorem sz12 : sizeB Try.prog 12 = some 1 := by kernel_rfl
theorem one12 : oneB Try.prog 12 = true := by kernel_rfl
theorem by12 : bytesB Try.prog 12 = some 8 := by kernel_rfl
theorem zo12 : ([.int .u64 0] : List Value).all (·.oneCell') = true := by kernel_rfl
theorem z12 : zeroB Try.prog 12 = some [.int .u64 0] := by kernel_rfl
theorem sz13 : sizeB Try.prog 13 = some 2 := by kernel_rfl
theorem agg13 : aggB Try.prog 13 = true := by kernel_rfl
theorem by13 : bytesB Try.prog 13 = some 24 := by kernel_rfl
theorem bl13 : ∀ ps, Try.prog.built 13 ps = Instr.fill (fun i => (#[(0, 1), (1, 1)] : Array (Nat × Nat))[i]?) ([.string (ByteArray.mk #[]), .int .u64 0] : List Value).toArray ps := by intro ps; kernel_rfl
theorem zo13 : ([.string (ByteArray.mk #[]), .int .u64 0] : List Value).all (·.oneCell') = true := by kernel_rfl
theorem z13 : zeroB Try.prog 13 = some [.string (ByteArray.mk #[]), .int .u64 0] := by kernel_rfl
theorem fo13_0 : fieldOff Try.prog 13 0 = some 0 := by kernel_rfl
theorem fo13_1 : fieldOff Try.prog 13 1 = some 1 := by kernel_rfl
theorem sz14 : sizeB Try.prog 14 = some 2 := by kernel_rfl
theorem agg14 : aggB Try.prog 14 = true := by kernel_rfl
theorem by14 : bytesB Try.prog 14 = some 24 := by kernel_rfl
theorem bl14 : ∀ ps, Try.prog.built 14 ps = Instr.fill (fun i => (#[(0, 1), (1, 1)] : Array (Nat × Nat))[i]?) ([.string (ByteArray.mk #[]), .int .u64 0] : List Value).toArray ps := by intro ps; kernel_rfl
theorem zo14 : ([.string (ByteArray.mk #[]), .int .u64 0] : List Value).all (·.oneCell') = true := by kernel_rfl
theorem z14 : zeroB Try.prog 14 = some [.string (ByteArray.mk #[]), .int .u64 0] := by kernel_rfl
theorem fo14_0 : fieldOff Try.prog 14 0 = some 0 := by kernel_rfl
theorem fo14_1 : fieldOff Try.prog 14 1 = some 1 := by kernel_rfl
theorem sz15 : sizeB Try.prog 15 = some 1 := by kernel_rfl
theorem one15 : oneB Try.prog 15 = true := by kernel_rfl
theorem by15 : bytesB Try.prog 15 = some 8 := by kernel_rfl
theorem zo15 : ([.pointer none] : List Value).all (·.oneCell') = true := by kernel_rfl
theorem z15 : zeroB Try.prog 15 = some [.pointer none] := by kernel_rfl
theorem sz16 : sizeB Try.prog 16 = some 1 := by kernel_rfl
theorem one16 : oneB Try.prog 16 = true := by kernel_rfl
theorem by16 : bytesB Try.prog 16 = some 8 := by kernel_rfl
theorem zo16 : ([.pointer none] : List Value).all (·.oneCell') = true := by kernel_rfl
theorem z16 : zeroB Try.prog 16 = some [.pointer none] := by kernel_rfl
theorem sz17 : sizeB Try.prog 17 = some 1 := by kernel_rfl
theorem one17 : oneB Try.prog 17 = true := by kernel_rfl
theorem by17 : bytesB Try.prog 17 = some 8 := by kernel_rfl
theorem zo17 : ([.pointer none] : List Value).all (·.oneCell') = true := by kernel_rfl
theorem z17 : zeroB Try.prog 17 = some [.pointer none] := by kernel_rfl
theorem sz18 : sizeB Try.prog 18 = some 1 := by kernel_rfl
theorem agg18 : aggB Try.prog 18 = true := by kernel_rfl
theorem by18 : bytesB Try.prog 18 = some 8 := by kernel_rfl
theorem bl18 : ∀ ps, Try.prog.built 18 ps = Instr.fill (fun i => (#[(0, 1)] : Array (Nat × Nat))[i]?) ([.pointer none] : List Value).toArray ps := by intro ps; kernel_rfl
theorem zo18 : ([.pointer none] : List Value).all (·.oneCell') = true := by kernel_rfl
theorem z18 : zeroB Try.prog 18 = some [.pointer none] := by kernel_rfl
theorem fo18_0 : fieldOff Try.prog 18 0 = some 0 := by kernel_rfl
theorem sz19 : sizeB Try.prog 19 = some 1 := by kernel_rfl
theorem agg19 : aggB Try.prog 19 = true := by kernel_rfl
theorem by19 : bytesB Try.prog 19 = some 8 := by kernel_rfl
theorem bl19 : ∀ ps, Try.prog.built 19 ps = Instr.fill (fun i => (#[(0, 1)] : Array (Nat × Nat))[i]?) ([.pointer none] : List Value).toArray ps := by intro ps; kernel_rfl
theorem zo19 : ([.pointer none] : List Value).all (·.oneCell') = true := by kernel_rfl
theorem z19 : zeroB Try.prog 19 = some [.pointer none] := by kernel_rfl
theorem fo19_0 : fieldOff Try.prog 19 0 = some 0 := by kernel_rfl
theorem sz20 : sizeB Try.prog 20 = some 1 := by kernel_rfl
theorem one20 : oneB Try.prog 20 = true := by kernel_rfl
theorem by20 : bytesB Try.prog 20 = some 16 := by kernel_rfl
theorem zo20 : ([.nilIface] : List Value).all (·.oneCell') = true := by kernel_rfl
theorem z20 : zeroB Try.prog 20 = some [.nilIface] := by kernel_rfl
theorem sz21 : sizeB Try.prog 21 = some 1 := by kernel_rfl
theorem one21 : oneB Try.prog 21 = true := by kernel_rfl
theorem by21 : bytesB Try.prog 21 = some 4 := by kernel_rfl
theorem zo21 : ([.int .i32 0] : List Value).all (·.oneCell') = true := by kernel_rfl
theorem z21 : zeroB Try.prog 21 = some [.int .i32 0] := by kernel_rfl
theorem sz22 : sizeB Try.prog 22 = some 1 := by kernel_rfl
theorem one22 : oneB Try.prog 22 = true := by kernel_rfl
theorem by22 : bytesB Try.prog 22 = some 24 := by kernel_rfl
theorem zo22 : ([.slice none 0 0] : List Value).all (·.oneCell') = true := by kernel_rfl
theorem z22 : zeroB Try.prog 22 = some [.slice none 0 0] := by kernel_rfl
theorem sz23 : sizeB Try.prog 23 = some 1 := by kernel_rfl
theorem one23 : oneB Try.prog 23 = true := by kernel_rfl
theorem by23 : bytesB Try.prog 23 = some 8 := by kernel_rfl
theorem zo23 : ([.nilFunc] : List Value).all (·.oneCell') = true := by kernel_rfl
theorem z23 : zeroB Try.prog 23 = some [.nilFunc] := by kernel_rfl
theorem sz24 : sizeB Try.prog 24 = some 1 := by kernel_rfl
theorem one24 : oneB Try.prog 24 = true := by kernel_rfl
theorem by24 : bytesB Try.prog 24 = some 8 := by kernel_rfl
theorem zo24 : ([.nilFunc] : List Value).all (·.oneCell') = true := by kernel_rfl
theorem z24 : zeroB Try.prog 24 = some [.nilFunc] := by kernel_rfl
theorem sz25 : sizeB Try.prog 25 = some 1 := by kernel_rfl
theorem one25 : oneB Try.prog 25 = true := by kernel_rfl
theorem by25 : bytesB Try.prog 25 = some 24 := by kernel_rfl
theorem zo25 : ([.slice none 0 0] : List Value).all (·.oneCell') = true := by kernel_rfl
theorem z25 : zeroB Try.prog 25 = some [.slice none 0 0] := by kernel_rfl
theorem sz26 : sizeB Try.prog 26 = some 3 := by kernel_rfl
theorem agg26 : aggB Try.prog 26 = true := by kernel_rfl
theorem by26 : bytesB Try.prog 26 = some 72 := by kernel_rfl
theorem bl26 : ∀ ps, Try.prog.built 26 ps = Instr.fill (fun i => (#[(0, 1), (1, 1), (2, 1)] : Array (Nat × Nat))[i]?) ((List.replicate 3 (.slice none 0 0)) : List Value).toArray ps := by intro ps; kernel_rfl
theorem zo26 : ((List.replicate 3 (.slice none 0 0)) : List Value).all (·.oneCell') = true := by kernel_rfl
theorem z26 : zeroB Try.prog 26 = some (List.replicate 3 (.slice none 0 0)) := by kernel_rfl
theorem fo26_0 : fieldOff Try.prog 26 0 = some 0 := by kernel_rfl
theorem fo26_1 : fieldOff Try.prog 26 1 = some 1 := by kernel_rfl
theorem fo26_2 : fieldOff Try.prog 26 2 = some 2 := by kernel_rfl
theorem sz27 : sizeB Try.prog 27 = some 3 := by kernel_rfl
theorem agg27 : aggB Try.prog 27 = true := by kernel_rfl
theorem by27 : bytesB Try.prog 27 = some 72 := by kernel_rfl
theorem bl27 : ∀ ps, Try.prog.built 27 ps = Instr.fill (fun i => (#[(0, 1), (1, 1), (2, 1)] : Array (Nat × Nat))[i]?) ((List.replicate 3 (.slice none 0 0)) : List Value).toArray ps := by intro ps; kernel_rfl
theorem zo27 : ((List.replicate 3 (.slice none 0 0)) : List Value).all (·.oneCell') = true := by kernel_rfl
theorem z27 : zeroB Try.prog 27 = some (List.replicate 3 (.slice none 0 0)) := by kernel_rfl
theorem fo27_0 : fieldOff Try.prog 27 0 = some 0 := by kernel_rfl
theorem fo27_1 : fieldOff Try.prog 27 1 = some 1 := by kernel_rfl
theorem fo27_2 : fieldOff Try.prog 27 2 = some 2 := by kernel_rfl
theorem sz29 : sizeB Try.prog 29 = some 1 := by kernel_rfl
theorem one29 : oneB Try.prog 29 = true := by kernel_rfl
theorem by29 : bytesB Try.prog 29 = some 8 := by kernel_rfl
theorem zo29 : ([.nilFunc] : List Value).all (·.oneCell') = true := by kernel_rfl
theorem z29 : zeroB Try.prog 29 = some [.nilFunc] := by kernel_rfl
theorem sz30 : sizeB Try.prog 30 = some 1 := by kernel_rfl
theorem one30 : oneB Try.prog 30 = true := by kernel_rfl
theorem by30 : bytesB Try.prog 30 = some 8 := by kernel_rfl
theorem zo30 : ([.pointer none] : List Value).all (·.oneCell') = true := by kernel_rfl
theorem z30 : zeroB Try.prog 30 = some [.pointer none] := by kernel_rfl
theorem sz31 : sizeB Try.prog 31 = some 1 := by kernel_rfl
theorem one31 : oneB Try.prog 31 = true := by kernel_rfl
theorem by31 : bytesB Try.prog 31 = some 8 := by kernel_rfl
theorem zo31 : ([.nilFunc] : List Value).all (·.oneCell') = true := by kernel_rfl
theorem z31 : zeroB Try.prog 31 = some [.nilFunc] := by kernel_rfl
theorem sz32 : sizeB Try.prog 32 = some 1 := by kernel_rfl
theorem one32 : oneB Try.prog 32 = true := by kernel_rfl
theorem by32 : bytesB Try.prog 32 = some 24 := by kernel_rfl
theorem zo32 : ([.slice none 0 0] : List Value).all (·.oneCell') = true := by kernel_rfl
theorem z32 : zeroB Try.prog 32 = some [.slice none 0 0] := by kernel_rfl
theorem sz33 : sizeB Try.prog 33 = some 1 := by kernel_rfl
theorem one33 : oneB Try.prog 33 = true := by kernel_rfl
theorem by33 : bytesB Try.prog 33 = some 8 := by kernel_rfl
theorem zo33 : ([.int .i64 0] : List Value).all (·.oneCell') = true := by kernel_rfl
theorem z33 : zeroB Try.prog 33 = some [.int .i64 0] := by kernel_rfl
theorem sz35 : sizeB Try.prog 35 = some 1 := by kernel_rfl
theorem one35 : oneB Try.prog 35 = true := by kernel_rfl
theorem by35 : bytesB Try.prog 35 = some 8 := by kernel_rfl
theorem zo35 : ([.nilFunc] : List Value).all (·.oneCell') = true := by kernel_rfl
theorem z35 : zeroB Try.prog 35 = some [.nilFunc] := by kernel_rfl
theorem sz36 : sizeB Try.prog 36 = some 1 := by kernel_rfl
theorem one36 : oneB Try.prog 36 = true := by kernel_rfl
theorem by36 : bytesB Try.prog 36 = some 8 := by kernel_rfl
theorem zo36 : ([.nilFunc] : List Value).all (·.oneCell') = true := by kernel_rfl
theorem z36 : zeroB Try.prog 36 = some [.nilFunc] := by kernel_rfl
theorem sz38 : sizeB Try.prog 38 = some 1 := by kernel_rfl
theorem one38 : oneB Try.prog 38 = true := by kernel_rfl
theorem by38 : bytesB Try.prog 38 = some 8 := by kernel_rfl
theorem zo38 : ([.nilFunc] : List Value).all (·.oneCell') = true := by kernel_rfl
theorem z38 : zeroB Try.prog 38 = some [.nilFunc] := by kernel_rfl
theorem sz39 : sizeB Try.prog 39 = some 1 := by kernel_rfl
theorem one39 : oneB Try.prog 39 = true := by kernel_rfl
theorem by39 : bytesB Try.prog 39 = some 8 := by kernel_rfl
theorem zo39 : ([.nilFunc] : List Value).all (·.oneCell') = true := by kernel_rfl
theorem z39 : zeroB Try.prog 39 = some [.nilFunc] := by kernel_rfl
theorem sz40 : sizeB Try.prog 40 = some 1 := by kernel_rfl
theorem one40 : oneB Try.prog 40 = true := by kernel_rfl
theorem by40 : bytesB Try.prog 40 = some 8 := by kernel_rfl
theorem zo40 : ([.nilFunc] : List Value).all (·.oneCell') = true := by kernel_rfl
theorem z40 : zeroB Try.prog 40 = some [.nilFunc] := by kernel_rfl
theorem sz41 : sizeB Try.prog 41 = some 1 := by kernel_rfl
theorem one41 : oneB Try.prog 41 = true := by kernel_rfl
theorem by41 : bytesB Try.prog 41 = some 8 := by kernel_rfl
theorem zo41 : ([.nilFunc] : List Value).all (·.oneCell') = true := by kernel_rfl
theorem z41 : zeroB Try.prog 41 = some [.nilFunc] := by kernel_rfl
theorem sz42 : sizeB Try.prog 42 = some 2 := by kernel_rfl
theorem agg42 : aggB Try.prog 42 = true := by kernel_rfl
theorem by42 : bytesB Try.prog 42 = some 16 := by kernel_rfl
theorem bl42 : ∀ ps, Try.prog.built 42 ps = Instr.fill (fun i => (#[(0, 1), (1, 1)] : Array (Nat × Nat))[i]?) ((List.replicate 2 (.int .i64 0)) : List Value).toArray ps := by intro ps; kernel_rfl
theorem zo42 : ((List.replicate 2 (.int .i64 0)) : List Value).all (·.oneCell') = true := by kernel_rfl
theorem z42 : zeroB Try.prog 42 = some (List.replicate 2 (.int .i64 0)) := by kernel_rfl
theorem fo42_0 : fieldOff Try.prog 42 0 = some 0 := by kernel_rfl
theorem fo42_1 : fieldOff Try.prog 42 1 = some 1 := by kernel_rfl
theorem sz43 : sizeB Try.prog 43 = some 2 := by kernel_rfl
theorem agg43 : aggB Try.prog 43 = true := by kernel_rfl
theorem by43 : bytesB Try.prog 43 = some 16 := by kernel_rfl
theorem bl43 : ∀ ps, Try.prog.built 43 ps = Instr.fill (fun i => (#[(0, 1), (1, 1)] : Array (Nat × Nat))[i]?) ((List.replicate 2 (.int .i64 0)) : List Value).toArray ps := by intro ps; kernel_rfl
theorem zo43 : ((List.replicate 2 (.int .i64 0)) : List Value).all (·.oneCell') = true := by kernel_rfl
theorem z43 : zeroB Try.prog 43 = some (List.replicate 2 (.int .i64 0)) := by kernel_rfl
theorem fo43_0 : fieldOff Try.prog 43 0 = some 0 := by kernel_rfl
theorem fo43_1 : fieldOff Try.prog 43 1 = some 1 := by kernel_rfl
theorem sz44 : sizeB Try.prog 44 = some 3 := by kernel_rfl
theorem agg44 : aggB Try.prog 44 = true := by kernel_rfl
theorem by44 : bytesB Try.prog 44 = some 40 := by kernel_rfl
theorem bl44 : ∀ ps, Try.prog.built 44 ps = Instr.fill (fun i => (#[(0, 2), (2, 1)] : Array (Nat × Nat))[i]?) ([.int .i64 0, .int .i64 0, .slice none 0 0] : List Value).toArray ps := by intro ps; kernel_rfl
theorem zo44 : ([.int .i64 0, .int .i64 0, .slice none 0 0] : List Value).all (·.oneCell') = true := by kernel_rfl
theorem z44 : zeroB Try.prog 44 = some [.int .i64 0, .int .i64 0, .slice none 0 0] := by kernel_rfl
theorem fo44_0 : fieldOff Try.prog 44 0 = some 0 := by kernel_rfl
theorem fo44_1 : fieldOff Try.prog 44 1 = some 2 := by kernel_rfl
theorem sz45 : sizeB Try.prog 45 = some 3 := by kernel_rfl
theorem agg45 : aggB Try.prog 45 = true := by kernel_rfl
theorem by45 : bytesB Try.prog 45 = some 40 := by kernel_rfl
theorem bl45 : ∀ ps, Try.prog.built 45 ps = Instr.fill (fun i => (#[(0, 2), (2, 1)] : Array (Nat × Nat))[i]?) ([.int .i64 0, .int .i64 0, .slice none 0 0] : List Value).toArray ps := by intro ps; kernel_rfl
theorem zo45 : ([.int .i64 0, .int .i64 0, .slice none 0 0] : List Value).all (·.oneCell') = true := by kernel_rfl
theorem z45 : zeroB Try.prog 45 = some [.int .i64 0, .int .i64 0, .slice none 0 0] := by kernel_rfl
theorem fo45_0 : fieldOff Try.prog 45 0 = some 0 := by kernel_rfl
theorem fo45_1 : fieldOff Try.prog 45 1 = some 2 := by kernel_rfl
theorem sz46 : sizeB Try.prog 46 = some 1 := by kernel_rfl
theorem one46 : oneB Try.prog 46 = true := by kernel_rfl
theorem by46 : bytesB Try.prog 46 = some 8 := by kernel_rfl
theorem zo46 : ([.nilFunc] : List Value).all (·.oneCell') = true := by kernel_rfl
theorem z46 : zeroB Try.prog 46 = some [.nilFunc] := by kernel_rfl
theorem sz47 : sizeB Try.prog 47 = some 1 := by kernel_rfl
theorem one47 : oneB Try.prog 47 = true := by kernel_rfl
theorem by47 : bytesB Try.prog 47 = some 8 := by kernel_rfl
theorem zo47 : ([.nilFunc] : List Value).all (·.oneCell') = true := by kernel_rfl
theorem z47 : zeroB Try.prog 47 = some [.nilFunc] := by kernel_rfl
theorem sz48 : sizeB Try.prog 48 = some 1 := by kernel_rfl
theorem one48 : oneB Try.prog 48 = true := by kernel_rfl
theorem by48 : bytesB Try.prog 48 = some 8 := by kernel_rfl
theorem zo48 : ([.nilFunc] : List Value).all (·.oneCell') = true := by kernel_rfl
theorem z48 : zeroB Try.prog 48 = some [.nilFunc] := by kernel_rfl
theorem sz50 : sizeB Try.prog 50 = some 1 := by kernel_rfl
theorem one50 : oneB Try.prog 50 = true := by kernel_rfl
theorem by50 : bytesB Try.prog 50 = some 8 := by kernel_rfl
theorem zo50 : ([.nilFunc] : List Value).all (·.oneCell') = true := by kernel_rfl
theorem z50 : zeroB Try.prog 50 = some [.nilFunc] := by kernel_rfl
theorem sz51 : sizeB Try.prog 51 = some 1 := by kernel_rfl
theorem one51 : oneB Try.prog 51 = true := by kernel_rfl
theorem by51 : bytesB Try.prog 51 = some 8 := by kernel_rfl
theorem zo51 : ([.nilFunc] : List Value).all (·.oneCell') = true := by kernel_rfl
theorem z51 : zeroB Try.prog 51 = some [.nilFunc] := by kernel_rfl
theorem sz52 : sizeB Try.prog 52 = some 1 := by kernel_rfl
theorem one52 : oneB Try.prog 52 = true := by kernel_rfl
theorem by52 : bytesB Try.prog 52 = some 8 := by kernel_rfl
theorem zo52 : ([.nilFunc] : List Value).all (·.oneCell') = true := by kernel_rfl
theorem z52 : zeroB Try.prog 52 = some [.nilFunc] := by kernel_rfl
theorem sz53 : sizeB Try.prog 53 = some 1 := by kernel_rfl
theorem one53 : oneB Try.prog 53 = true := by kernel_rfl
theorem by53 : bytesB Try.prog 53 = some 24 := by kernel_rfl
theorem zo53 : ([.slice none 0 0] : List Value).all (·.oneCell') = true := by kernel_rfl
theorem z53 : zeroB Try.prog 53 = some [.slice none 0 0] := by kernel_rfl
theorem sz54 : sizeB Try.prog 54 = some 1 := by kernel_rfl
theorem one54 : oneB Try.prog 54 = true := by kernel_rfl
theorem by54 : bytesB Try.prog 54 = some 8 := by kernel_rfl
theorem zo54 : ([.nilFunc] : List Value).all (·.oneCell') = true := by kernel_rfl
theorem z54 : zeroB Try.prog 54 = some [.nilFunc] := by kernel_rfl
theorem sz55 : sizeB Try.prog 55 = some 1 := by kernel_rfl
theorem one55 : oneB Try.prog 55 = true := by kernel_rfl
theorem by55 : bytesB Try.prog 55 = some 8 := by kernel_rfl
theorem zo55 : ([.nilFunc] : List Value).all (·.oneCell') = true := by kernel_rfl
theorem z55 : zeroB Try.prog 55 = some [.nilFunc] := by kernel_rfl
theorem sz56 : sizeB Try.prog 56 = some 2 := by kernel_rfl
theorem agg56 : aggB Try.prog 56 = true := by kernel_rfl
theorem by56 : bytesB Try.prog 56 = some 48 := by kernel_rfl
theorem bl56 : ∀ ps, Try.prog.built 56 ps = Instr.fill (fun i => some (i * 1, 1)) ((List.replicate 2 (.slice none 0 0)) : List Value).toArray ps := by intro ps; kernel_rfl
theorem zo56 : ((List.replicate 2 (.slice none 0 0)) : List Value).all (·.oneCell') = true := by kernel_rfl
theorem z56 : zeroB Try.prog 56 = some (List.replicate 2 (.slice none 0 0)) := by kernel_rfl
theorem sz57 : sizeB Try.prog 57 = some 1 := by kernel_rfl
theorem one57 : oneB Try.prog 57 = true := by kernel_rfl
theorem by57 : bytesB Try.prog 57 = some 24 := by kernel_rfl
theorem zo57 : ([.slice none 0 0] : List Value).all (·.oneCell') = true := by kernel_rfl
theorem z57 : zeroB Try.prog 57 = some [.slice none 0 0] := by kernel_rfl
theorem sz58 : sizeB Try.prog 58 = some 1 := by kernel_rfl
theorem one58 : oneB Try.prog 58 = true := by kernel_rfl
theorem by58 : bytesB Try.prog 58 = some 8 := by kernel_rfl
theorem zo58 : ([.nilFunc] : List Value).all (·.oneCell') = true := by kernel_rfl
theorem z58 : zeroB Try.prog 58 = some [.nilFunc] := by kernel_rfl
theorem sz59 : sizeB Try.prog 59 = some 1 := by kernel_rfl
theorem one59 : oneB Try.prog 59 = true := by kernel_rfl
theorem by59 : bytesB Try.prog 59 = some 8 := by kernel_rfl
theorem zo59 : ([.nilFunc] : List Value).all (·.oneCell') = true := by kernel_rfl
theorem z59 : zeroB Try.prog 59 = some [.nilFunc] := by kernel_rfl
theorem sz60 : sizeB Try.prog 60 = some 2 := by kernel_rfl
theorem agg60 : aggB Try.prog 60 = true := by kernel_rfl
theorem by60 : bytesB Try.prog 60 = some 32 := by kernel_rfl
theorem bl60 : ∀ ps, Try.prog.built 60 ps = Instr.fill (fun i => (#[(0, 1), (1, 1)] : Array (Nat × Nat))[i]?) ([.slice none 0 0, .int .i64 0] : List Value).toArray ps := by intro ps; kernel_rfl
theorem zo60 : ([.slice none 0 0, .int .i64 0] : List Value).all (·.oneCell') = true := by kernel_rfl
theorem z60 : zeroB Try.prog 60 = some [.slice none 0 0, .int .i64 0] := by kernel_rfl
theorem fo60_0 : fieldOff Try.prog 60 0 = some 0 := by kernel_rfl
theorem fo60_1 : fieldOff Try.prog 60 1 = some 1 := by kernel_rfl
theorem sz61 : sizeB Try.prog 61 = some 2 := by kernel_rfl
theorem agg61 : aggB Try.prog 61 = true := by kernel_rfl
theorem by61 : bytesB Try.prog 61 = some 32 := by kernel_rfl
theorem bl61 : ∀ ps, Try.prog.built 61 ps = Instr.fill (fun i => (#[(0, 1), (1, 1)] : Array (Nat × Nat))[i]?) ([.slice none 0 0, .int .i64 0] : List Value).toArray ps := by intro ps; kernel_rfl
theorem zo61 : ([.slice none 0 0, .int .i64 0] : List Value).all (·.oneCell') = true := by kernel_rfl
theorem z61 : zeroB Try.prog 61 = some [.slice none 0 0, .int .i64 0] := by kernel_rfl
theorem fo61_0 : fieldOff Try.prog 61 0 = some 0 := by kernel_rfl
theorem fo61_1 : fieldOff Try.prog 61 1 = some 1 := by kernel_rfl
theorem sz62 : sizeB Try.prog 62 = some 1 := by kernel_rfl
theorem one62 : oneB Try.prog 62 = true := by kernel_rfl
theorem by62 : bytesB Try.prog 62 = some 8 := by kernel_rfl
theorem zo62 : ([.pointer none] : List Value).all (·.oneCell') = true := by kernel_rfl
theorem z62 : zeroB Try.prog 62 = some [.pointer none] := by kernel_rfl
theorem sz64 : sizeB Try.prog 64 = some 1 := by kernel_rfl
theorem one64 : oneB Try.prog 64 = true := by kernel_rfl
theorem by64 : bytesB Try.prog 64 = some 8 := by kernel_rfl
theorem zo64 : ([.nilFunc] : List Value).all (·.oneCell') = true := by kernel_rfl
theorem z64 : zeroB Try.prog 64 = some [.nilFunc] := by kernel_rfl
theorem sz65 : sizeB Try.prog 65 = some 1 := by kernel_rfl
theorem one65 : oneB Try.prog 65 = true := by kernel_rfl
theorem by65 : bytesB Try.prog 65 = some 8 := by kernel_rfl
theorem zo65 : ([.nilFunc] : List Value).all (·.oneCell') = true := by kernel_rfl
theorem z65 : zeroB Try.prog 65 = some [.nilFunc] := by kernel_rfl
theorem sz66 : sizeB Try.prog 66 = some 8 := by kernel_rfl
theorem agg66 : aggB Try.prog 66 = true := by kernel_rfl
theorem by66 : bytesB Try.prog 66 = some 64 := by kernel_rfl
theorem bl66 : ∀ ps, Try.prog.built 66 ps = Instr.fill (fun i => some (i * 1, 1)) ((List.replicate 8 (.int .i64 0)) : List Value).toArray ps := by intro ps; kernel_rfl
theorem zo66 : ((List.replicate 8 (.int .i64 0)) : List Value).all (·.oneCell') = true := by kernel_rfl
theorem z66 : zeroB Try.prog 66 = some (List.replicate 8 (.int .i64 0)) := by kernel_rfl
theorem sz67 : sizeB Try.prog 67 = some 1 := by kernel_rfl
theorem one67 : oneB Try.prog 67 = true := by kernel_rfl
theorem by67 : bytesB Try.prog 67 = some 8 := by kernel_rfl
theorem zo67 : ([.nilFunc] : List Value).all (·.oneCell') = true := by kernel_rfl
theorem z67 : zeroB Try.prog 67 = some [.nilFunc] := by kernel_rfl
theorem sz68 : sizeB Try.prog 68 = some 1 := by kernel_rfl
theorem one68 : oneB Try.prog 68 = true := by kernel_rfl
theorem by68 : bytesB Try.prog 68 = some 8 := by kernel_rfl
theorem zo68 : ([.nilFunc] : List Value).all (·.oneCell') = true := by kernel_rfl
theorem z68 : zeroB Try.prog 68 = some [.nilFunc] := by kernel_rfl
theorem sz70 : sizeB Try.prog 70 = some 1 := by kernel_rfl
theorem one70 : oneB Try.prog 70 = true := by kernel_rfl
theorem by70 : bytesB Try.prog 70 = some 8 := by kernel_rfl
theorem zo70 : ([.nilFunc] : List Value).all (·.oneCell') = true := by kernel_rfl
theorem z70 : zeroB Try.prog 70 = some [.nilFunc] := by kernel_rfl
theorem sz71 : sizeB Try.prog 71 = some 1 := by kernel_rfl
theorem one71 : oneB Try.prog 71 = true := by kernel_rfl
theorem by71 : bytesB Try.prog 71 = some 8 := by kernel_rfl
theorem zo71 : ([.nilFunc] : List Value).all (·.oneCell') = true := by kernel_rfl
theorem z71 : zeroB Try.prog 71 = some [.nilFunc] := by kernel_rfl
theorem sz72 : sizeB Try.prog 72 = some 1 := by kernel_rfl
theorem one72 : oneB Try.prog 72 = true := by kernel_rfl
theorem by72 : bytesB Try.prog 72 = some 8 := by kernel_rfl
theorem zo72 : ([.nilFunc] : List Value).all (·.oneCell') = true := by kernel_rfl
theorem z72 : zeroB Try.prog 72 = some [.nilFunc] := by kernel_rfl
theorem sz73 : sizeB Try.prog 73 = some 1 := by kernel_rfl
theorem one73 : oneB Try.prog 73 = true := by kernel_rfl
theorem by73 : bytesB Try.prog 73 = some 8 := by kernel_rfl
theorem zo73 : ([.nilFunc] : List Value).all (·.oneCell') = true := by kernel_rfl
theorem z73 : zeroB Try.prog 73 = some [.nilFunc] := by kernel_rfl
theorem sz74 : sizeB Try.prog 74 = some 1 := by kernel_rfl
theorem one74 : oneB Try.prog 74 = true := by kernel_rfl
theorem by74 : bytesB Try.prog 74 = some 8 := by kernel_rfl
theorem zo74 : ([.nilFunc] : List Value).all (·.oneCell') = true := by kernel_rfl
theorem z74 : zeroB Try.prog 74 = some [.nilFunc] := by kernel_rfl
theorem sz75 : sizeB Try.prog 75 = some 1 := by kernel_rfl
theorem one75 : oneB Try.prog 75 = true := by kernel_rfl
theorem by75 : bytesB Try.prog 75 = some 8 := by kernel_rfl
theorem zo75 : ([.nilFunc] : List Value).all (·.oneCell') = true := by kernel_rfl
theorem z75 : zeroB Try.prog 75 = some [.nilFunc] := by kernel_rfl
theorem sz76 : sizeB Try.prog 76 = some 1 := by kernel_rfl
theorem one76 : oneB Try.prog 76 = true := by kernel_rfl
theorem by76 : bytesB Try.prog 76 = some 8 := by kernel_rfl
theorem zo76 : ([.nilFunc] : List Value).all (·.oneCell') = true := by kernel_rfl
theorem z76 : zeroB Try.prog 76 = some [.nilFunc] := by kernel_rfl
theorem sz77 : sizeB Try.prog 77 = some 1 := by kernel_rfl
theorem one77 : oneB Try.prog 77 = true := by kernel_rfl
theorem by77 : bytesB Try.prog 77 = some 8 := by kernel_rfl
theorem zo77 : ([.nilFunc] : List Value).all (·.oneCell') = true := by kernel_rfl
theorem z77 : zeroB Try.prog 77 = some [.nilFunc] := by kernel_rfl
theorem sz78 : sizeB Try.prog 78 = some 1 := by kernel_rfl
theorem one78 : oneB Try.prog 78 = true := by kernel_rfl
theorem by78 : bytesB Try.prog 78 = some 8 := by kernel_rfl
theorem zo78 : ([.nilFunc] : List Value).all (·.oneCell') = true := by kernel_rfl
theorem z78 : zeroB Try.prog 78 = some [.nilFunc] := by kernel_rfl
theorem sz79 : sizeB Try.prog 79 = some 256 := by kernel_rfl
theorem agg79 : aggB Try.prog 79 = true := by kernel_rfl
theorem by79 : bytesB Try.prog 79 = some 2048 := by kernel_rfl
theorem bl79 : ∀ ps, Try.prog.built 79 ps = Instr.fill (fun i => some (i * 8, 8)) ((List.replicate 256 (.int .i64 0)) : List Value).toArray ps := by intro ps; kernel_rfl
theorem zo79 : ((List.replicate 256 (.int .i64 0)) : List Value).all (·.oneCell') = true := by kernel_rfl
theorem z79 : zeroB Try.prog 79 = some (List.replicate 256 (.int .i64 0)) := by kernel_rfl
theorem sz80 : sizeB Try.prog 80 = some 256 := by kernel_rfl
theorem agg80 : aggB Try.prog 80 = true := by kernel_rfl
theorem by80 : bytesB Try.prog 80 = some 2048 := by kernel_rfl
theorem bl80 : ∀ ps, Try.prog.built 80 ps = Instr.fill (fun i => some (i * 8, 8)) ((List.replicate 256 (.int .i64 0)) : List Value).toArray ps := by intro ps; kernel_rfl
theorem zo80 : ((List.replicate 256 (.int .i64 0)) : List Value).all (·.oneCell') = true := by kernel_rfl
theorem z80 : zeroB Try.prog 80 = some (List.replicate 256 (.int .i64 0)) := by kernel_rfl
theorem sz81 : sizeB Try.prog 81 = some 1 := by kernel_rfl
theorem one81 : oneB Try.prog 81 = true := by kernel_rfl
theorem by81 : bytesB Try.prog 81 = some 8 := by kernel_rfl
theorem zo81 : ([.nilFunc] : List Value).all (·.oneCell') = true := by kernel_rfl
theorem z81 : zeroB Try.prog 81 = some [.nilFunc] := by kernel_rfl
theorem sz82 : sizeB Try.prog 82 = some 1 := by kernel_rfl
theorem one82 : oneB Try.prog 82 = true := by kernel_rfl
theorem by82 : bytesB Try.prog 82 = some 8 := by kernel_rfl
theorem zo82 : ([.nilFunc] : List Value).all (·.oneCell') = true := by kernel_rfl
theorem z82 : zeroB Try.prog 82 = some [.nilFunc] := by kernel_rfl
theorem sz83 : sizeB Try.prog 83 = some 1 := by kernel_rfl
theorem one83 : oneB Try.prog 83 = true := by kernel_rfl
theorem by83 : bytesB Try.prog 83 = some 8 := by kernel_rfl
theorem zo83 : ([.nilFunc] : List Value).all (·.oneCell') = true := by kernel_rfl
theorem z83 : zeroB Try.prog 83 = some [.nilFunc] := by kernel_rfl
theorem sz84 : sizeB Try.prog 84 = some 1 := by kernel_rfl
theorem one84 : oneB Try.prog 84 = true := by kernel_rfl
theorem by84 : bytesB Try.prog 84 = some 8 := by kernel_rfl
theorem zo84 : ([.nilFunc] : List Value).all (·.oneCell') = true := by kernel_rfl
theorem z84 : zeroB Try.prog 84 = some [.nilFunc] := by kernel_rfl
theorem sz85 : sizeB Try.prog 85 = some 4 := by kernel_rfl
theorem agg85 : aggB Try.prog 85 = true := by kernel_rfl
theorem by85 : bytesB Try.prog 85 = some 40 := by kernel_rfl
theorem bl85 : ∀ ps, Try.prog.built 85 ps = Instr.fill (fun i => (#[(0, 1), (1, 1), (2, 1), (3, 1)] : Array (Nat × Nat))[i]?) ([.pointer none, .pointer none, .pointer none, .string (ByteArray.mk #[])] : List Value).toArray ps := by intro ps; kernel_rfl
theorem zo85 : ([.pointer none, .pointer none, .pointer none, .string (ByteArray.mk #[])] : List Value).all (·.oneCell') = true := by kernel_rfl
theorem z85 : zeroB Try.prog 85 = some [.pointer none, .pointer none, .pointer none, .string (ByteArray.mk #[])] := by kernel_rfl
theorem fo85_0 : fieldOff Try.prog 85 0 = some 0 := by kernel_rfl
theorem fo85_1 : fieldOff Try.prog 85 1 = some 1 := by kernel_rfl
theorem fo85_2 : fieldOff Try.prog 85 2 = some 2 := by kernel_rfl
theorem fo85_3 : fieldOff Try.prog 85 3 = some 3 := by kernel_rfl
theorem sz86 : sizeB Try.prog 86 = some 4 := by kernel_rfl
theorem agg86 : aggB Try.prog 86 = true := by kernel_rfl
theorem by86 : bytesB Try.prog 86 = some 40 := by kernel_rfl
theorem bl86 : ∀ ps, Try.prog.built 86 ps = Instr.fill (fun i => (#[(0, 1), (1, 1), (2, 1), (3, 1)] : Array (Nat × Nat))[i]?) ([.pointer none, .pointer none, .pointer none, .string (ByteArray.mk #[])] : List Value).toArray ps := by intro ps; kernel_rfl
theorem zo86 : ([.pointer none, .pointer none, .pointer none, .string (ByteArray.mk #[])] : List Value).all (·.oneCell') = true := by kernel_rfl
theorem z86 : zeroB Try.prog 86 = some [.pointer none, .pointer none, .pointer none, .string (ByteArray.mk #[])] := by kernel_rfl
theorem fo86_0 : fieldOff Try.prog 86 0 = some 0 := by kernel_rfl
theorem fo86_1 : fieldOff Try.prog 86 1 = some 1 := by kernel_rfl
theorem fo86_2 : fieldOff Try.prog 86 2 = some 2 := by kernel_rfl
theorem fo86_3 : fieldOff Try.prog 86 3 = some 3 := by kernel_rfl
theorem sz87 : sizeB Try.prog 87 = some 0 := by kernel_rfl
theorem agg87 : aggB Try.prog 87 = true := by kernel_rfl
theorem by87 : bytesB Try.prog 87 = some 0 := by kernel_rfl
theorem bl87 : ∀ ps, Try.prog.built 87 ps = Instr.fill (fun i => some (i * 1, 1)) ([] : List Value).toArray ps := by intro ps; kernel_rfl
theorem zo87 : ([] : List Value).all (·.oneCell') = true := by kernel_rfl
theorem z87 : zeroB Try.prog 87 = some [] := by kernel_rfl
theorem sz88 : sizeB Try.prog 88 = some 0 := by kernel_rfl
theorem agg88 : aggB Try.prog 88 = true := by kernel_rfl
theorem by88 : bytesB Try.prog 88 = some 0 := by kernel_rfl
theorem bl88 : ∀ ps, Try.prog.built 88 ps = Instr.fill (fun i => (#[(0, 0)] : Array (Nat × Nat))[i]?) ([] : List Value).toArray ps := by intro ps; kernel_rfl
theorem zo88 : ([] : List Value).all (·.oneCell') = true := by kernel_rfl
theorem z88 : zeroB Try.prog 88 = some [] := by kernel_rfl
theorem sz89 : sizeB Try.prog 89 = some 0 := by kernel_rfl
theorem agg89 : aggB Try.prog 89 = true := by kernel_rfl
theorem by89 : bytesB Try.prog 89 = some 0 := by kernel_rfl
theorem bl89 : ∀ ps, Try.prog.built 89 ps = Instr.fill (fun i => (#[(0, 0)] : Array (Nat × Nat))[i]?) ([] : List Value).toArray ps := by intro ps; kernel_rfl
theorem zo89 : ([] : List Value).all (·.oneCell') = true := by kernel_rfl
theorem z89 : zeroB Try.prog 89 = some [] := by kernel_rfl
theorem sz90 : sizeB Try.prog 90 = some 1 := by kernel_rfl
theorem one90 : oneB Try.prog 90 = true := by kernel_rfl
theorem by90 : bytesB Try.prog 90 = some 8 := by kernel_rfl
theorem zo90 : ([.nilFunc] : List Value).all (·.oneCell') = true := by kernel_rfl
theorem z90 : zeroB Try.prog 90 = some [.nilFunc] := by kernel_rfl
theorem sz91 : sizeB Try.prog 91 = some 1 := by kernel_rfl
theorem one91 : oneB Try.prog 91 = true := by kernel_rfl
theorem by91 : bytesB Try.prog 91 = some 4 := by kernel_rfl
theorem zo91 : ([.int .u32 0] : List Value).all (·.oneCell') = true := by kernel_rfl
theorem z91 : zeroB Try.prog 91 = some [.int .u32 0] := by kernel_rfl
theorem sz92 : sizeB Try.prog 92 = some 1 := by kernel_rfl
theorem one92 : oneB Try.prog 92 = true := by kernel_rfl
theorem by92 : bytesB Try.prog 92 = some 1 := by kernel_rfl
theorem zo92 : ([.int .u8 0] : List Value).all (·.oneCell') = true := by kernel_rfl
theorem z92 : zeroB Try.prog 92 = some [.int .u8 0] := by kernel_rfl
theorem sz93 : sizeB Try.prog 93 = some 1 := by kernel_rfl
theorem one93 : oneB Try.prog 93 = true := by kernel_rfl
theorem by93 : bytesB Try.prog 93 = some 1 := by kernel_rfl
theorem zo93 : ([.int .u8 0] : List Value).all (·.oneCell') = true := by kernel_rfl
theorem z93 : zeroB Try.prog 93 = some [.int .u8 0] := by kernel_rfl
theorem sz94 : sizeB Try.prog 94 = some 1 := by kernel_rfl
theorem one94 : oneB Try.prog 94 = true := by kernel_rfl
theorem by94 : bytesB Try.prog 94 = some 8 := by kernel_rfl
theorem zo94 : ([.nilFunc] : List Value).all (·.oneCell') = true := by kernel_rfl
theorem z94 : zeroB Try.prog 94 = some [.nilFunc] := by kernel_rfl
theorem sz95 : sizeB Try.prog 95 = some 1 := by kernel_rfl
theorem one95 : oneB Try.prog 95 = true := by kernel_rfl
theorem by95 : bytesB Try.prog 95 = some 8 := by kernel_rfl
theorem zo95 : ([.pointer none] : List Value).all (·.oneCell') = true := by kernel_rfl
theorem z95 : zeroB Try.prog 95 = some [.pointer none] := by kernel_rfl
theorem sz96 : sizeB Try.prog 96 = some 1 := by kernel_rfl
theorem one96 : oneB Try.prog 96 = true := by kernel_rfl
theorem by96 : bytesB Try.prog 96 = some 4 := by kernel_rfl
theorem zo96 : ([.int .i32 0] : List Value).all (·.oneCell') = true := by kernel_rfl
theorem z96 : zeroB Try.prog 96 = some [.int .i32 0] := by kernel_rfl
theorem sz97 : sizeB Try.prog 97 = some 1 := by kernel_rfl
theorem one97 : oneB Try.prog 97 = true := by kernel_rfl
theorem by97 : bytesB Try.prog 97 = some 4 := by kernel_rfl
theorem zo97 : ([.int .i32 0] : List Value).all (·.oneCell') = true := by kernel_rfl
theorem z97 : zeroB Try.prog 97 = some [.int .i32 0] := by kernel_rfl
theorem sz98 : sizeB Try.prog 98 = some 11 := by kernel_rfl
theorem agg98 : aggB Try.prog 98 = true := by kernel_rfl
theorem by98 : bytesB Try.prog 98 = some 48 := by kernel_rfl
theorem bl98 : ∀ ps, Try.prog.built 98 ps = Instr.fill (fun i => (#[(0, 1), (1, 1), (2, 1), (3, 1), (4, 1), (5, 1), (6, 1), (7, 1), (8, 1), (9, 1), (10, 1)] : Array (Nat × Nat))[i]?) ([.int .u64 0, .int .u64 0, .int .u32 0, .int .u8 0, .int .u8 0, .int .u8 0, .int .u8 0, .nilFunc, .pointer none, .int .i32 0, .int .i32 0] : List Value).toArray ps := by intro ps; kernel_rfl
theorem zo98 : ([.int .u64 0, .int .u64 0, .int .u32 0, .int .u8 0, .int .u8 0, .int .u8 0, .int .u8 0, .nilFunc, .pointer none, .int .i32 0, .int .i32 0] : List Value).all (·.oneCell') = true := by kernel_rfl
theorem z98 : zeroB Try.prog 98 = some [.int .u64 0, .int .u64 0, .int .u32 0, .int .u8 0, .int .u8 0, .int .u8 0, .int .u8 0, .nilFunc, .pointer none, .int .i32 0, .int .i32 0] := by kernel_rfl
theorem fo98_0 : fieldOff Try.prog 98 0 = some 0 := by kernel_rfl
theorem fo98_1 : fieldOff Try.prog 98 1 = some 1 := by kernel_rfl
theorem fo98_2 : fieldOff Try.prog 98 2 = some 2 := by kernel_rfl
theorem fo98_3 : fieldOff Try.prog 98 3 = some 3 := by kernel_rfl
theorem fo98_4 : fieldOff Try.prog 98 4 = some 4 := by kernel_rfl
theorem fo98_5 : fieldOff Try.prog 98 5 = some 5 := by kernel_rfl
theorem fo98_6 : fieldOff Try.prog 98 6 = some 6 := by kernel_rfl
theorem fo98_7 : fieldOff Try.prog 98 7 = some 7 := by kernel_rfl
theorem fo98_8 : fieldOff Try.prog 98 8 = some 8 := by kernel_rfl
theorem fo98_9 : fieldOff Try.prog 98 9 = some 9 := by kernel_rfl
theorem fo98_10 : fieldOff Try.prog 98 10 = some 10 := by kernel_rfl
theorem sz99 : sizeB Try.prog 99 = some 11 := by kernel_rfl
theorem agg99 : aggB Try.prog 99 = true := by kernel_rfl
theorem by99 : bytesB Try.prog 99 = some 48 := by kernel_rfl
theorem bl99 : ∀ ps, Try.prog.built 99 ps = Instr.fill (fun i => (#[(0, 1), (1, 1), (2, 1), (3, 1), (4, 1), (5, 1), (6, 1), (7, 1), (8, 1), (9, 1), (10, 1)] : Array (Nat × Nat))[i]?) ([.int .u64 0, .int .u64 0, .int .u32 0, .int .u8 0, .int .u8 0, .int .u8 0, .int .u8 0, .nilFunc, .pointer none, .int .i32 0, .int .i32 0] : List Value).toArray ps := by intro ps; kernel_rfl
theorem zo99 : ([.int .u64 0, .int .u64 0, .int .u32 0, .int .u8 0, .int .u8 0, .int .u8 0, .int .u8 0, .nilFunc, .pointer none, .int .i32 0, .int .i32 0] : List Value).all (·.oneCell') = true := by kernel_rfl
theorem z99 : zeroB Try.prog 99 = some [.int .u64 0, .int .u64 0, .int .u32 0, .int .u8 0, .int .u8 0, .int .u8 0, .int .u8 0, .nilFunc, .pointer none, .int .i32 0, .int .i32 0] := by kernel_rfl
theorem fo99_0 : fieldOff Try.prog 99 0 = some 0 := by kernel_rfl
theorem fo99_1 : fieldOff Try.prog 99 1 = some 1 := by kernel_rfl
theorem fo99_2 : fieldOff Try.prog 99 2 = some 2 := by kernel_rfl
theorem fo99_3 : fieldOff Try.prog 99 3 = some 3 := by kernel_rfl
theorem fo99_4 : fieldOff Try.prog 99 4 = some 4 := by kernel_rfl
theorem fo99_5 : fieldOff Try.prog 99 5 = some 5 := by kernel_rfl
theorem fo99_6 : fieldOff Try.prog 99 6 = some 6 := by kernel_rfl
theorem fo99_7 : fieldOff Try.prog 99 7 = some 7 := by kernel_rfl
theorem fo99_8 : fieldOff Try.prog 99 8 = some 8 := by kernel_rfl
theorem fo99_9 : fieldOff Try.prog 99 9 = some 9 := by kernel_rfl
theorem fo99_10 : fieldOff Try.prog 99 10 = some 10 := by kernel_rfl
theorem sz100 : sizeB Try.prog 100 = some 1 := by kernel_rfl
theorem one100 : oneB Try.prog 100 = true := by kernel_rfl
theorem by100 : bytesB Try.prog 100 = some 8 := by kernel_rfl
end Go.Proofs.Ytacifhfelijekaa
