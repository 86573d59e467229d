/-
  Closed facts on the types of this seat.
-/
import Derived.Test.YthmnoekgicggnaaGreatProg
import Derived.Test.YthmnoekgicggnaaGreatCoreQ
import Derived.KernelRfl
namespace Go.Proofs.YthmnoekgicggnaaGreat
open Go Cp
theorem mixed : Tryz.prog.follows .mixedOrders = true := by kernel_rfl
theorem sz1 : sizeB Tryz.prog 1 = some 1 := by kernel_rfl
theorem one1 : oneB Tryz.prog 1 = true := by kernel_rfl
theorem by1 : bytesB Tryz.prog 1 = some 8 := by kernel_rfl
theorem zo1 : ([.nilFunc] : List Value).all (·.oneCell') = true := by kernel_rfl
theorem z1 : zeroB Tryz.prog 1 = some [.nilFunc] := by kernel_rfl
theorem sz2 : sizeB Tryz.prog 2 = some 1 := by kernel_rfl
theorem one2 : oneB Tryz.prog 2 = true := by kernel_rfl
theorem by2 : bytesB Tryz.prog 2 = some 8 := by kernel_rfl
theorem zo2 : ([.int .i64 0] : List Value).all (·.oneCell') = true := by kernel_rfl
theorem z2 : zeroB Tryz.prog 2 = some [.int .i64 0] := by kernel_rfl
theorem sz3 : sizeB Tryz.prog 3 = some 1 := by kernel_rfl
theorem one3 : oneB Tryz.prog 3 = true := by kernel_rfl
theorem by3 : bytesB Tryz.prog 3 = some 8 := by kernel_rfl
theorem zo3 : ([.int .i64 0] : List Value).all (·.oneCell') = true := by kernel_rfl
theorem z3 : zeroB Tryz.prog 3 = some [.int .i64 0] := by kernel_rfl
theorem sz4 : sizeB Tryz.prog 4 = some 1 := by kernel_rfl
theorem one4 : oneB Tryz.prog 4 = true := by kernel_rfl
theorem by4 : bytesB Tryz.prog 4 = some 1 := by kernel_rfl
theorem zo4 : ([.bool false] : List Value).all (·.oneCell') = true := by kernel_rfl
theorem z4 : zeroB Tryz.prog 4 = some [.bool false] := by kernel_rfl
theorem sz5 : sizeB Tryz.prog 5 = some 1 := by kernel_rfl
theorem one5 : oneB Tryz.prog 5 = true := by kernel_rfl
theorem by5 : bytesB Tryz.prog 5 = some 1 := by kernel_rfl
theorem zo5 : ([.int .u8 0] : List Value).all (·.oneCell') = true := by kernel_rfl
theorem z5 : zeroB Tryz.prog 5 = some [.int .u8 0] := by kernel_rfl
theorem sz6 : sizeB Tryz.prog 6 = some 1 := by kernel_rfl
theorem one6 : oneB Tryz.prog 6 = true := by kernel_rfl
theorem by6 : bytesB Tryz.prog 6 = some 1 := by kernel_rfl
theorem zo6 : ([.int .u8 0] : List Value).all (·.oneCell') = true := by kernel_rfl
theorem z6 : zeroB Tryz.prog 6 = some [.int .u8 0] := by kernel_rfl
theorem sz7 : sizeB Tryz.prog 7 = some 4 := by kernel_rfl
theorem agg7 : aggB Tryz.prog 7 = true := by kernel_rfl
theorem by7 : bytesB Tryz.prog 7 = some 24 := by kernel_rfl
theorem bl7 : ∀ ps, Tryz.prog.built 7 ps = Instr.fill (fun i => (#[(0, 1), (1, 1), (2, 1), (3, 1)] : Array (Nat × Nat))[i]?) ([.int .i64 0, .int .i64 0, .bool false, .int .u8 0] : List Value).toArray ps := by intro ps; kernel_rfl
theorem zo7 : ([.int .i64 0, .int .i64 0, .bool false, .int .u8 0] : List Value).all (·.oneCell') = true := by kernel_rfl
theorem z7 : zeroB Tryz.prog 7 = some [.int .i64 0, .int .i64 0, .bool false, .int .u8 0] := by kernel_rfl
theorem fo7_0 : fieldOff Tryz.prog 7 0 = some 0 := by kernel_rfl
theorem fo7_1 : fieldOff Tryz.prog 7 1 = some 1 := by kernel_rfl
theorem fo7_2 : fieldOff Tryz.prog 7 2 = some 2 := by kernel_rfl
theorem fo7_3 : fieldOff Tryz.prog 7 3 = some 3 := by kernel_rfl
theorem sz8 : sizeB Tryz.prog 8 = some 4 := by kernel_rfl
theorem agg8 : aggB Tryz.prog 8 = true := by kernel_rfl
theorem by8 : bytesB Tryz.prog 8 = some 24 := by kernel_rfl
theorem bl8 : ∀ ps, Tryz.prog.built 8 ps = Instr.fill (fun i => (#[(0, 1), (1, 1), (2, 1), (3, 1)] : Array (Nat × Nat))[i]?) ([.int .i64 0, .int .i64 0, .bool false, .int .u8 0] : List Value).toArray ps := by intro ps; kernel_rfl
theorem zo8 : ([.int .i64 0, .int .i64 0, .bool false, .int .u8 0] : List Value).all (·.oneCell') = true := by kernel_rfl
theorem z8 : zeroB Tryz.prog 8 = some [.int .i64 0, .int .i64 0, .bool false, .int .u8 0] := by kernel_rfl
theorem fo8_0 : fieldOff Tryz.prog 8 0 = some 0 := by kernel_rfl
theorem fo8_1 : fieldOff Tryz.prog 8 1 = some 1 := by kernel_rfl
theorem fo8_2 : fieldOff Tryz.prog 8 2 = some 2 := by kernel_rfl
theorem fo8_3 : fieldOff Tryz.prog 8 3 = some 3 := by kernel_rfl
theorem sz9 : sizeB Tryz.prog 9 = some 1 := by kernel_rfl
theorem one9 : oneB Tryz.prog 9 = true := by kernel_rfl
theorem by9 : bytesB Tryz.prog 9 = some 16 := by kernel_rfl
theorem zo9 : ([.string (ByteArray.mk #[])] : List Value).all (·.oneCell') = true := by kernel_rfl
theorem z9 : zeroB Tryz.prog 9 = some [.string (ByteArray.mk #[])] := by kernel_rfl
theorem sz10 : sizeB Tryz.prog 10 = some 1 := by kernel_rfl
theorem one10 : oneB Tryz.prog 10 = true := by kernel_rfl
theorem by10 : bytesB Tryz.prog 10 = some 16 := by kernel_rfl
theorem zo10 : ([.string (ByteArray.mk #[])] : List Value).all (·.oneCell') = true := by kernel_rfl
theorem z10 : zeroB Tryz.prog 10 = some [.string (ByteArray.mk #[])] := by kernel_rfl
theorem sz11 : sizeB Tryz.prog 11 = some 1 := by kernel_rfl
theorem one11 : oneB Tryz.prog 11 = true := by kernel_rfl
theorem by11 : bytesB Tryz.prog 11 = some 16 := by kernel_rfl
theorem zo11 : ([.string (ByteArray.mk #[])] : List Value).all (·.oneCell') = true := by kernel_rfl
theorem z11 : zeroB Tryz.prog 11 = some [.string (ByteArray.mk #[])] := by kernel_rfl
theorem sz12 : sizeB Tryz.prog 12 = some 1 := by kernel_rfl
theorem one12 : oneB Tryz.prog 12 = true := by kernel_rfl
theorem by12 : bytesB Tryz.prog 12 = some 8 := by kernel_rfl
theorem zo12 : ([.int .u64 0] : List Value).all (·.oneCell') = true := by kernel_rfl
theorem z12 : zeroB Tryz.prog 12 = some [.int .u64 0] := by kernel_rfl
theorem sz13 : sizeB Tryz.prog 13 = some 2 := by kernel_rfl
theorem agg13 : aggB Tryz.prog 13 = true := by kernel_rfl
theorem by13 : bytesB Tryz.prog 13 = some 24 := by kernel_rfl
theorem bl13 : ∀ ps, Tryz.prog.built 13 ps = Instr.fill (fun i => (#[(0, 1), (1, 1)] : Array (Nat × Nat))[i]?) ([.string (ByteArray.mk #[]), .int .u64 0] : List Value).toArray ps := by intro ps; kernel_rfl
theorem zo13 : ([.string (ByteArray.mk #[]), .int .u64 0] : List Value).all (·.oneCell') = true := by kernel_rfl
theorem z13 : zeroB Tryz.prog 13 = some [.string (ByteArray.mk #[]), .int .u64 0] := by kernel_rfl
theorem fo13_0 : fieldOff Tryz.prog 13 0 = some 0 := by kernel_rfl
theorem fo13_1 : fieldOff Tryz.prog 13 1 = some 1 := by kernel_rfl
theorem sz14 : sizeB Tryz.prog 14 = some 2 := by kernel_rfl
theorem agg14 : aggB Tryz.prog 14 = true := by kernel_rfl
theorem by14 : bytesB Tryz.prog 14 = some 24 := by kernel_rfl
theorem bl14 : ∀ ps, Tryz.prog.built 14 ps = Instr.fill (fun i => (#[(0, 1), (1, 1)] : Array (Nat × Nat))[i]?) ([.string (ByteArray.mk #[]), .int .u64 0] : List Value).toArray ps := by intro ps; kernel_rfl
theorem zo14 : ([.string (ByteArray.mk #[]), .int .u64 0] : List Value).all (·.oneCell') = true := by kernel_rfl
theorem z14 : zeroB Tryz.prog 14 = some [.string (ByteArray.mk #[]), .int .u64 0] := by kernel_rfl
theorem fo14_0 : fieldOff Tryz.prog 14 0 = some 0 := by kernel_rfl
theorem fo14_1 : fieldOff Tryz.prog 14 1 = some 1 := by kernel_rfl
theorem sz15 : sizeB Tryz.prog 15 = some 1 := by kernel_rfl
theorem one15 : oneB Tryz.prog 15 = true := by kernel_rfl
theorem by15 : bytesB Tryz.prog 15 = some 8 := by kernel_rfl
theorem zo15 : ([.pointer none] : List Value).all (·.oneCell') = true := by kernel_rfl
theorem z15 : zeroB Tryz.prog 15 = some [.pointer none] := by kernel_rfl
theorem sz16 : sizeB Tryz.prog 16 = some 1 := by kernel_rfl
theorem one16 : oneB Tryz.prog 16 = true := by kernel_rfl
theorem by16 : bytesB Tryz.prog 16 = some 8 := by kernel_rfl
theorem zo16 : ([.pointer none] : List Value).all (·.oneCell') = true := by kernel_rfl
theorem z16 : zeroB Tryz.prog 16 = some [.pointer none] := by kernel_rfl
theorem sz17 : sizeB Tryz.prog 17 = some 1 := by kernel_rfl
theorem one17 : oneB Tryz.prog 17 = true := by kernel_rfl
theorem by17 : bytesB Tryz.prog 17 = some 8 := by kernel_rfl
theorem zo17 : ([.pointer none] : List Value).all (·.oneCell') = true := by kernel_rfl
theorem z17 : zeroB Tryz.prog 17 = some [.pointer none] := by kernel_rfl
theorem sz18 : sizeB Tryz.prog 18 = some 1 := by kernel_rfl
theorem agg18 : aggB Tryz.prog 18 = true := by kernel_rfl
theorem by18 : bytesB Tryz.prog 18 = some 8 := by kernel_rfl
theorem bl18 : ∀ ps, Tryz.prog.built 18 ps = Instr.fill (fun i => (#[(0, 1)] : Array (Nat × Nat))[i]?) ([.pointer none] : List Value).toArray ps := by intro ps; kernel_rfl
theorem zo18 : ([.pointer none] : List Value).all (·.oneCell') = true := by kernel_rfl
theorem z18 : zeroB Tryz.prog 18 = some [.pointer none] := by kernel_rfl
theorem fo18_0 : fieldOff Tryz.prog 18 0 = some 0 := by kernel_rfl
theorem sz19 : sizeB Tryz.prog 19 = some 1 := by kernel_rfl
theorem agg19 : aggB Tryz.prog 19 = true := by kernel_rfl
theorem by19 : bytesB Tryz.prog 19 = some 8 := by kernel_rfl
theorem bl19 : ∀ ps, Tryz.prog.built 19 ps = Instr.fill (fun i => (#[(0, 1)] : Array (Nat × Nat))[i]?) ([.pointer none] : List Value).toArray ps := by intro ps; kernel_rfl
theorem zo19 : ([.pointer none] : List Value).all (·.oneCell') = true := by kernel_rfl
theorem z19 : zeroB Tryz.prog 19 = some [.pointer none] := by kernel_rfl
theorem fo19_0 : fieldOff Tryz.prog 19 0 = some 0 := by kernel_rfl
theorem sz20 : sizeB Tryz.prog 20 = some 1 := by kernel_rfl
theorem one20 : oneB Tryz.prog 20 = true := by kernel_rfl
theorem by20 : bytesB Tryz.prog 20 = some 16 := by kernel_rfl
theorem zo20 : ([.nilIface] : List Value).all (·.oneCell') = true := by kernel_rfl
theorem z20 : zeroB Tryz.prog 20 = some [.nilIface] := by kernel_rfl
theorem sz21 : sizeB Tryz.prog 21 = some 1 := by kernel_rfl
theorem one21 : oneB Tryz.prog 21 = true := by kernel_rfl
theorem by21 : bytesB Tryz.prog 21 = some 4 := by kernel_rfl
theorem zo21 : ([.int .i32 0] : List Value).all (·.oneCell') = true := by kernel_rfl
theorem z21 : zeroB Tryz.prog 21 = some [.int .i32 0] := by kernel_rfl
theorem sz22 : sizeB Tryz.prog 22 = some 1 := by kernel_rfl
theorem one22 : oneB Tryz.prog 22 = true := by kernel_rfl
theorem by22 : bytesB Tryz.prog 22 = some 24 := by kernel_rfl
theorem zo22 : ([.slice none 0 0] : List Value).all (·.oneCell') = true := by kernel_rfl
theorem z22 : zeroB Tryz.prog 22 = some [.slice none 0 0] := by kernel_rfl
theorem sz23 : sizeB Tryz.prog 23 = some 1 := by kernel_rfl
theorem one23 : oneB Tryz.prog 23 = true := by kernel_rfl
theorem by23 : bytesB Tryz.prog 23 = some 8 := by kernel_rfl
theorem zo23 : ([.nilFunc] : List Value).all (·.oneCell') = true := by kernel_rfl
theorem z23 : zeroB Tryz.prog 23 = some [.nilFunc] := by kernel_rfl
theorem sz24 : sizeB Tryz.prog 24 = some 1 := by kernel_rfl
theorem one24 : oneB Tryz.prog 24 = true := by kernel_rfl
theorem by24 : bytesB Tryz.prog 24 = some 8 := by kernel_rfl
theorem zo24 : ([.nilFunc] : List Value).all (·.oneCell') = true := by kernel_rfl
theorem z24 : zeroB Tryz.prog 24 = some [.nilFunc] := by kernel_rfl
theorem sz25 : sizeB Tryz.prog 25 = some 1 := by kernel_rfl
theorem one25 : oneB Tryz.prog 25 = true := by kernel_rfl
theorem by25 : bytesB Tryz.prog 25 = some 8 := by kernel_rfl
theorem zo25 : ([.pointer none] : List Value).all (·.oneCell') = true := by kernel_rfl
theorem z25 : zeroB Tryz.prog 25 = some [.pointer none] := by kernel_rfl
theorem sz26 : sizeB Tryz.prog 26 = some 1 := by kernel_rfl
theorem one26 : oneB Tryz.prog 26 = true := by kernel_rfl
theorem by26 : bytesB Tryz.prog 26 = some 8 := by kernel_rfl
theorem zo26 : ([.nilFunc] : List Value).all (·.oneCell') = true := by kernel_rfl
theorem z26 : zeroB Tryz.prog 26 = some [.nilFunc] := by kernel_rfl
theorem sz27 : sizeB Tryz.prog 27 = some 1 := by kernel_rfl
theorem one27 : oneB Tryz.prog 27 = true := by kernel_rfl
theorem by27 : bytesB Tryz.prog 27 = some 24 := by kernel_rfl
theorem zo27 : ([.slice none 0 0] : List Value).all (·.oneCell') = true := by kernel_rfl
theorem z27 : zeroB Tryz.prog 27 = some [.slice none 0 0] := by kernel_rfl
theorem sz28 : sizeB Tryz.prog 28 = some 1 := by kernel_rfl
theorem one28 : oneB Tryz.prog 28 = true := by kernel_rfl
theorem by28 : bytesB Tryz.prog 28 = some 8 := by kernel_rfl
theorem zo28 : ([.nilFunc] : List Value).all (·.oneCell') = true := by kernel_rfl
theorem z28 : zeroB Tryz.prog 28 = some [.nilFunc] := by kernel_rfl
theorem sz29 : sizeB Tryz.prog 29 = some 1 := by kernel_rfl
theorem one29 : oneB Tryz.prog 29 = true := by kernel_rfl
theorem by29 : bytesB Tryz.prog 29 = some 24 := by kernel_rfl
theorem zo29 : ([.slice none 0 0] : List Value).all (·.oneCell') = true := by kernel_rfl
theorem z29 : zeroB Tryz.prog 29 = some [.slice none 0 0] := by kernel_rfl
theorem sz30 : sizeB Tryz.prog 30 = some 1 := by kernel_rfl
theorem one30 : oneB Tryz.prog 30 = true := by kernel_rfl
theorem by30 : bytesB Tryz.prog 30 = some 8 := by kernel_rfl
theorem zo30 : ([.int .i64 0] : List Value).all (·.oneCell') = true := by kernel_rfl
theorem z30 : zeroB Tryz.prog 30 = some [.int .i64 0] := by kernel_rfl
theorem sz32 : sizeB Tryz.prog 32 = some 1 := by kernel_rfl
theorem one32 : oneB Tryz.prog 32 = true := by kernel_rfl
theorem by32 : bytesB Tryz.prog 32 = some 8 := by kernel_rfl
theorem zo32 : ([.nilFunc] : List Value).all (·.oneCell') = true := by kernel_rfl
theorem z32 : zeroB Tryz.prog 32 = some [.nilFunc] := by kernel_rfl
theorem sz33 : sizeB Tryz.prog 33 = some 1 := by kernel_rfl
theorem one33 : oneB Tryz.prog 33 = true := by kernel_rfl
theorem by33 : bytesB Tryz.prog 33 = some 24 := by kernel_rfl
theorem zo33 : ([.slice none 0 0] : List Value).all (·.oneCell') = true := by kernel_rfl
theorem z33 : zeroB Tryz.prog 33 = some [.slice none 0 0] := by kernel_rfl
theorem sz34 : sizeB Tryz.prog 34 = some 4 := by kernel_rfl
theorem agg34 : aggB Tryz.prog 34 = true := by kernel_rfl
theorem by34 : bytesB Tryz.prog 34 = some 80 := by kernel_rfl
theorem bl34 : ∀ ps, Tryz.prog.built 34 ps = Instr.fill (fun i => (#[(0, 1), (1, 1), (2, 1), (3, 1)] : Array (Nat × Nat))[i]?) ([.int .i64 0, .slice none 0 0, .slice none 0 0, .slice none 0 0] : List Value).toArray ps := by intro ps; kernel_rfl
theorem zo34 : ([.int .i64 0, .slice none 0 0, .slice none 0 0, .slice none 0 0] : List Value).all (·.oneCell') = true := by kernel_rfl
theorem z34 : zeroB Tryz.prog 34 = some [.int .i64 0, .slice none 0 0, .slice none 0 0, .slice none 0 0] := by kernel_rfl
theorem fo34_0 : fieldOff Tryz.prog 34 0 = some 0 := by kernel_rfl
theorem fo34_1 : fieldOff Tryz.prog 34 1 = some 1 := by kernel_rfl
theorem fo34_2 : fieldOff Tryz.prog 34 2 = some 2 := by kernel_rfl
theorem fo34_3 : fieldOff Tryz.prog 34 3 = some 3 := by kernel_rfl
theorem sz35 : sizeB Tryz.prog 35 = some 4 := by kernel_rfl
theorem agg35 : aggB Tryz.prog 35 = true := by kernel_rfl
theorem by35 : bytesB Tryz.prog 35 = some 80 := by kernel_rfl
theorem bl35 : ∀ ps, Tryz.prog.built 35 ps = Instr.fill (fun i => (#[(0, 1), (1, 1), (2, 1), (3, 1)] : Array (Nat × Nat))[i]?) ([.int .i64 0, .slice none 0 0, .slice none 0 0, .slice none 0 0] : List Value).toArray ps := by intro ps; kernel_rfl
theorem zo35 : ([.int .i64 0, .slice none 0 0, .slice none 0 0, .slice none 0 0] : List Value).all (·.oneCell') = true := by kernel_rfl
theorem z35 : zeroB Tryz.prog 35 = some [.int .i64 0, .slice none 0 0, .slice none 0 0, .slice none 0 0] := by kernel_rfl
theorem fo35_0 : fieldOff Tryz.prog 35 0 = some 0 := by kernel_rfl
theorem fo35_1 : fieldOff Tryz.prog 35 1 = some 1 := by kernel_rfl
theorem fo35_2 : fieldOff Tryz.prog 35 2 = some 2 := by kernel_rfl
theorem fo35_3 : fieldOff Tryz.prog 35 3 = some 3 := by kernel_rfl
theorem sz36 : sizeB Tryz.prog 36 = some 1 := by kernel_rfl
theorem one36 : oneB Tryz.prog 36 = true := by kernel_rfl
theorem by36 : bytesB Tryz.prog 36 = some 8 := by kernel_rfl
theorem zo36 : ([.nilFunc] : List Value).all (·.oneCell') = true := by kernel_rfl
theorem z36 : zeroB Tryz.prog 36 = some [.nilFunc] := by kernel_rfl
theorem sz37 : sizeB Tryz.prog 37 = some 2 := by kernel_rfl
theorem agg37 : aggB Tryz.prog 37 = true := by kernel_rfl
theorem by37 : bytesB Tryz.prog 37 = some 16 := by kernel_rfl
theorem bl37 : ∀ ps, Tryz.prog.built 37 ps = Instr.fill (fun i => (#[(0, 1), (1, 1)] : Array (Nat × Nat))[i]?) ((List.replicate 2 (.int .i64 0)) : List Value).toArray ps := by intro ps; kernel_rfl
theorem zo37 : ((List.replicate 2 (.int .i64 0)) : List Value).all (·.oneCell') = true := by kernel_rfl
theorem z37 : zeroB Tryz.prog 37 = some (List.replicate 2 (.int .i64 0)) := by kernel_rfl
theorem fo37_0 : fieldOff Tryz.prog 37 0 = some 0 := by kernel_rfl
theorem fo37_1 : fieldOff Tryz.prog 37 1 = some 1 := by kernel_rfl
theorem sz38 : sizeB Tryz.prog 38 = some 2 := by kernel_rfl
theorem agg38 : aggB Tryz.prog 38 = true := by kernel_rfl
theorem by38 : bytesB Tryz.prog 38 = some 16 := by kernel_rfl
theorem bl38 : ∀ ps, Tryz.prog.built 38 ps = Instr.fill (fun i => (#[(0, 1), (1, 1)] : Array (Nat × Nat))[i]?) ((List.replicate 2 (.int .i64 0)) : List Value).toArray ps := by intro ps; kernel_rfl
theorem zo38 : ((List.replicate 2 (.int .i64 0)) : List Value).all (·.oneCell') = true := by kernel_rfl
theorem z38 : zeroB Tryz.prog 38 = some (List.replicate 2 (.int .i64 0)) := by kernel_rfl
theorem fo38_0 : fieldOff Tryz.prog 38 0 = some 0 := by kernel_rfl
theorem fo38_1 : fieldOff Tryz.prog 38 1 = some 1 := by kernel_rfl
theorem sz39 : sizeB Tryz.prog 39 = some 8 := by kernel_rfl
theorem agg39 : aggB Tryz.prog 39 = true := by kernel_rfl
theorem by39 : bytesB Tryz.prog 39 = some 80 := by kernel_rfl
theorem bl39 : ∀ ps, Tryz.prog.built 39 ps = Instr.fill (fun i => (#[(0, 1), (1, 1), (2, 1), (3, 2), (5, 1), (6, 1), (7, 1)] : Array (Nat × Nat))[i]?) ([.int .i64 0, .string (ByteArray.mk #[]), .int .i64 0, .int .i64 0, .int .i64 0, .int .i64 0, .string (ByteArray.mk #[]), .int .i64 0] : List Value).toArray ps := by intro ps; kernel_rfl
theorem zo39 : ([.int .i64 0, .string (ByteArray.mk #[]), .int .i64 0, .int .i64 0, .int .i64 0, .int .i64 0, .string (ByteArray.mk #[]), .int .i64 0] : List Value).all (·.oneCell') = true := by kernel_rfl
theorem z39 : zeroB Tryz.prog 39 = some [.int .i64 0, .string (ByteArray.mk #[]), .int .i64 0, .int .i64 0, .int .i64 0, .int .i64 0, .string (ByteArray.mk #[]), .int .i64 0] := by kernel_rfl
theorem fo39_0 : fieldOff Tryz.prog 39 0 = some 0 := by kernel_rfl
theorem fo39_1 : fieldOff Tryz.prog 39 1 = some 1 := by kernel_rfl
theorem fo39_2 : fieldOff Tryz.prog 39 2 = some 2 := by kernel_rfl
theorem fo39_3 : fieldOff Tryz.prog 39 3 = some 3 := by kernel_rfl
theorem fo39_4 : fieldOff Tryz.prog 39 4 = some 5 := by kernel_rfl
theorem fo39_5 : fieldOff Tryz.prog 39 5 = some 6 := by kernel_rfl
theorem fo39_6 : fieldOff Tryz.prog 39 6 = some 7 := by kernel_rfl
theorem sz40 : sizeB Tryz.prog 40 = some 8 := by kernel_rfl
theorem agg40 : aggB Tryz.prog 40 = true := by kernel_rfl
theorem by40 : bytesB Tryz.prog 40 = some 80 := by kernel_rfl
theorem bl40 : ∀ ps, Tryz.prog.built 40 ps = Instr.fill (fun i => (#[(0, 1), (1, 1), (2, 1), (3, 2), (5, 1), (6, 1), (7, 1)] : Array (Nat × Nat))[i]?) ([.int .i64 0, .string (ByteArray.mk #[]), .int .i64 0, .int .i64 0, .int .i64 0, .int .i64 0, .string (ByteArray.mk #[]), .int .i64 0] : List Value).toArray ps := by intro ps; kernel_rfl
theorem zo40 : ([.int .i64 0, .string (ByteArray.mk #[]), .int .i64 0, .int .i64 0, .int .i64 0, .int .i64 0, .string (ByteArray.mk #[]), .int .i64 0] : List Value).all (·.oneCell') = true := by kernel_rfl
theorem z40 : zeroB Tryz.prog 40 = some [.int .i64 0, .string (ByteArray.mk #[]), .int .i64 0, .int .i64 0, .int .i64 0, .int .i64 0, .string (ByteArray.mk #[]), .int .i64 0] := by kernel_rfl
theorem fo40_0 : fieldOff Tryz.prog 40 0 = some 0 := by kernel_rfl
theorem fo40_1 : fieldOff Tryz.prog 40 1 = some 1 := by kernel_rfl
theorem fo40_2 : fieldOff Tryz.prog 40 2 = some 2 := by kernel_rfl
theorem fo40_3 : fieldOff Tryz.prog 40 3 = some 3 := by kernel_rfl
theorem fo40_4 : fieldOff Tryz.prog 40 4 = some 5 := by kernel_rfl
theorem fo40_5 : fieldOff Tryz.prog 40 5 = some 6 := by kernel_rfl
theorem fo40_6 : fieldOff Tryz.prog 40 6 = some 7 := by kernel_rfl
theorem sz41 : sizeB Tryz.prog 41 = some 11 := by kernel_rfl
theorem agg41 : aggB Tryz.prog 41 = true := by kernel_rfl
theorem by41 : bytesB Tryz.prog 41 = some 112 := by kernel_rfl
theorem bl41 : ∀ ps, Tryz.prog.built 41 ps = Instr.fill (fun i => (#[(0, 1), (1, 1), (2, 1), (3, 1), (4, 1), (5, 1), (6, 1), (7, 2), (9, 1), (10, 1)] : Array (Nat × Nat))[i]?) ([.int .i64 0, .string (ByteArray.mk #[]), .int .i64 0, .int .i64 0, .int .i64 0, .int .i64 0, .string (ByteArray.mk #[]), .int .i64 0, .int .i64 0, .int .i64 0, .string (ByteArray.mk #[])] : List Value).toArray ps := by intro ps; kernel_rfl
theorem zo41 : ([.int .i64 0, .string (ByteArray.mk #[]), .int .i64 0, .int .i64 0, .int .i64 0, .int .i64 0, .string (ByteArray.mk #[]), .int .i64 0, .int .i64 0, .int .i64 0, .string (ByteArray.mk #[])] : List Value).all (·.oneCell') = true := by kernel_rfl
theorem z41 : zeroB Tryz.prog 41 = some [.int .i64 0, .string (ByteArray.mk #[]), .int .i64 0, .int .i64 0, .int .i64 0, .int .i64 0, .string (ByteArray.mk #[]), .int .i64 0, .int .i64 0, .int .i64 0, .string (ByteArray.mk #[])] := by kernel_rfl
theorem fo41_0 : fieldOff Tryz.prog 41 0 = some 0 := by kernel_rfl
theorem fo41_1 : fieldOff Tryz.prog 41 1 = some 1 := by kernel_rfl
theorem fo41_2 : fieldOff Tryz.prog 41 2 = some 2 := by kernel_rfl
theorem fo41_3 : fieldOff Tryz.prog 41 3 = some 3 := by kernel_rfl
theorem fo41_4 : fieldOff Tryz.prog 41 4 = some 4 := by kernel_rfl
theorem fo41_5 : fieldOff Tryz.prog 41 5 = some 5 := by kernel_rfl
theorem fo41_6 : fieldOff Tryz.prog 41 6 = some 6 := by kernel_rfl
theorem fo41_7 : fieldOff Tryz.prog 41 7 = some 7 := by kernel_rfl
theorem fo41_8 : fieldOff Tryz.prog 41 8 = some 9 := by kernel_rfl
theorem fo41_9 : fieldOff Tryz.prog 41 9 = some 10 := by kernel_rfl
theorem sz42 : sizeB Tryz.prog 42 = some 11 := by kernel_rfl
theorem agg42 : aggB Tryz.prog 42 = true := by kernel_rfl
theorem by42 : bytesB Tryz.prog 42 = some 112 := by kernel_rfl
theorem bl42 : ∀ ps, Tryz.prog.built 42 ps = Instr.fill (fun i => (#[(0, 1), (1, 1), (2, 1), (3, 1), (4, 1), (5, 1), (6, 1), (7, 2), (9, 1), (10, 1)] : Array (Nat × Nat))[i]?) ([.int .i64 0, .string (ByteArray.mk #[]), .int .i64 0, .int .i64 0, .int .i64 0, .int .i64 0, .string (ByteArray.mk #[]), .int .i64 0, .int .i64 0, .int .i64 0, .string (ByteArray.mk #[])] : List Value).toArray ps := by intro ps; kernel_rfl
theorem zo42 : ([.int .i64 0, .string (ByteArray.mk #[]), .int .i64 0, .int .i64 0, .int .i64 0, .int .i64 0, .string (ByteArray.mk #[]), .int .i64 0, .int .i64 0, .int .i64 0, .string (ByteArray.mk #[])] : List Value).all (·.oneCell') = true := by kernel_rfl
theorem z42 : zeroB Tryz.prog 42 = some [.int .i64 0, .string (ByteArray.mk #[]), .int .i64 0, .int .i64 0, .int .i64 0, .int .i64 0, .string (ByteArray.mk #[]), .int .i64 0, .int .i64 0, .int .i64 0, .string (ByteArray.mk #[])] := by kernel_rfl
theorem fo42_0 : fieldOff Tryz.prog 42 0 = some 0 := by kernel_rfl
theorem fo42_1 : fieldOff Tryz.prog 42 1 = some 1 := by kernel_rfl
theorem fo42_2 : fieldOff Tryz.prog 42 2 = some 2 := by kernel_rfl
theorem fo42_3 : fieldOff Tryz.prog 42 3 = some 3 := by kernel_rfl
theorem fo42_4 : fieldOff Tryz.prog 42 4 = some 4 := by kernel_rfl
theorem fo42_5 : fieldOff Tryz.prog 42 5 = some 5 := by kernel_rfl
theorem fo42_6 : fieldOff Tryz.prog 42 6 = some 6 := by kernel_rfl
theorem fo42_7 : fieldOff Tryz.prog 42 7 = some 7 := by kernel_rfl
theorem fo42_8 : fieldOff Tryz.prog 42 8 = some 9 := by kernel_rfl
theorem fo42_9 : fieldOff Tryz.prog 42 9 = some 10 := by kernel_rfl
theorem sz43 : sizeB Tryz.prog 43 = some 1 := by kernel_rfl
theorem one43 : oneB Tryz.prog 43 = true := by kernel_rfl
theorem by43 : bytesB Tryz.prog 43 = some 8 := by kernel_rfl
theorem zo43 : ([.nilFunc] : List Value).all (·.oneCell') = true := by kernel_rfl
theorem z43 : zeroB Tryz.prog 43 = some [.nilFunc] := by kernel_rfl
theorem sz44 : sizeB Tryz.prog 44 = some 1 := by kernel_rfl
theorem one44 : oneB Tryz.prog 44 = true := by kernel_rfl
theorem by44 : bytesB Tryz.prog 44 = some 8 := by kernel_rfl
theorem zo44 : ([.nilFunc] : List Value).all (·.oneCell') = true := by kernel_rfl
theorem z44 : zeroB Tryz.prog 44 = some [.nilFunc] := by kernel_rfl
theorem sz46 : sizeB Tryz.prog 46 = some 1 := by kernel_rfl
theorem one46 : oneB Tryz.prog 46 = true := by kernel_rfl
theorem by46 : bytesB Tryz.prog 46 = some 8 := by kernel_rfl
theorem zo46 : ([.nilFunc] : List Value).all (·.oneCell') = true := by kernel_rfl
theorem z46 : zeroB Tryz.prog 46 = some [.nilFunc] := by kernel_rfl
theorem sz48 : sizeB Tryz.prog 48 = some 1 := by kernel_rfl
theorem one48 : oneB Tryz.prog 48 = true := by kernel_rfl
theorem by48 : bytesB Tryz.prog 48 = some 8 := by kernel_rfl
theorem zo48 : ([.nilFunc] : List Value).all (·.oneCell') = true := by kernel_rfl
theorem z48 : zeroB Tryz.prog 48 = some [.nilFunc] := by kernel_rfl
theorem sz49 : sizeB Tryz.prog 49 = some 1 := by kernel_rfl
theorem one49 : oneB Tryz.prog 49 = true := by kernel_rfl
theorem by49 : bytesB Tryz.prog 49 = some 8 := by kernel_rfl
theorem zo49 : ([.nilFunc] : List Value).all (·.oneCell') = true := by kernel_rfl
theorem z49 : zeroB Tryz.prog 49 = some [.nilFunc] := by kernel_rfl
theorem sz50 : sizeB Tryz.prog 50 = some 1 := by kernel_rfl
theorem one50 : oneB Tryz.prog 50 = true := by kernel_rfl
theorem by50 : bytesB Tryz.prog 50 = some 24 := by kernel_rfl
theorem zo50 : ([.slice none 0 0] : List Value).all (·.oneCell') = true := by kernel_rfl
theorem z50 : zeroB Tryz.prog 50 = some [.slice none 0 0] := by kernel_rfl
theorem sz51 : sizeB Tryz.prog 51 = some 1 := by kernel_rfl
theorem one51 : oneB Tryz.prog 51 = true := by kernel_rfl
theorem by51 : bytesB Tryz.prog 51 = some 8 := by kernel_rfl
theorem zo51 : ([.nilFunc] : List Value).all (·.oneCell') = true := by kernel_rfl
theorem z51 : zeroB Tryz.prog 51 = some [.nilFunc] := by kernel_rfl
theorem sz52 : sizeB Tryz.prog 52 = some 1 := by kernel_rfl
theorem one52 : oneB Tryz.prog 52 = true := by kernel_rfl
theorem by52 : bytesB Tryz.prog 52 = some 8 := by kernel_rfl
theorem zo52 : ([.nilFunc] : List Value).all (·.oneCell') = true := by kernel_rfl
theorem z52 : zeroB Tryz.prog 52 = some [.nilFunc] := by kernel_rfl
theorem sz53 : sizeB Tryz.prog 53 = some 1 := by kernel_rfl
theorem one53 : oneB Tryz.prog 53 = true := by kernel_rfl
theorem by53 : bytesB Tryz.prog 53 = some 8 := by kernel_rfl
theorem zo53 : ([.nilFunc] : List Value).all (·.oneCell') = true := by kernel_rfl
theorem z53 : zeroB Tryz.prog 53 = some [.nilFunc] := by kernel_rfl
theorem sz54 : sizeB Tryz.prog 54 = some 1 := by kernel_rfl
theorem one54 : oneB Tryz.prog 54 = true := by kernel_rfl
theorem by54 : bytesB Tryz.prog 54 = some 24 := by kernel_rfl
theorem zo54 : ([.slice none 0 0] : List Value).all (·.oneCell') = true := by kernel_rfl
theorem z54 : zeroB Tryz.prog 54 = some [.slice none 0 0] := by kernel_rfl
theorem sz56 : sizeB Tryz.prog 56 = some 1 := by kernel_rfl
theorem one56 : oneB Tryz.prog 56 = true := by kernel_rfl
theorem by56 : bytesB Tryz.prog 56 = some 8 := by kernel_rfl
theorem zo56 : ([.nilFunc] : List Value).all (·.oneCell') = true := by kernel_rfl
theorem z56 : zeroB Tryz.prog 56 = some [.nilFunc] := by kernel_rfl
theorem sz57 : sizeB Tryz.prog 57 = some 2 := by kernel_rfl
theorem agg57 : aggB Tryz.prog 57 = true := by kernel_rfl
theorem by57 : bytesB Tryz.prog 57 = some 16 := by kernel_rfl
theorem bl57 : ∀ ps, Tryz.prog.built 57 ps = Instr.fill (fun i => (#[(0, 1), (1, 1)] : Array (Nat × Nat))[i]?) ((List.replicate 2 (.int .i64 0)) : List Value).toArray ps := by intro ps; kernel_rfl
theorem zo57 : ((List.replicate 2 (.int .i64 0)) : List Value).all (·.oneCell') = true := by kernel_rfl
theorem z57 : zeroB Tryz.prog 57 = some (List.replicate 2 (.int .i64 0)) := by kernel_rfl
theorem fo57_0 : fieldOff Tryz.prog 57 0 = some 0 := by kernel_rfl
theorem fo57_1 : fieldOff Tryz.prog 57 1 = some 1 := by kernel_rfl
theorem sz58 : sizeB Tryz.prog 58 = some 2 := by kernel_rfl
theorem agg58 : aggB Tryz.prog 58 = true := by kernel_rfl
theorem by58 : bytesB Tryz.prog 58 = some 16 := by kernel_rfl
theorem bl58 : ∀ ps, Tryz.prog.built 58 ps = Instr.fill (fun i => (#[(0, 1), (1, 1)] : Array (Nat × Nat))[i]?) ((List.replicate 2 (.int .i64 0)) : List Value).toArray ps := by intro ps; kernel_rfl
theorem zo58 : ((List.replicate 2 (.int .i64 0)) : List Value).all (·.oneCell') = true := by kernel_rfl
theorem z58 : zeroB Tryz.prog 58 = some (List.replicate 2 (.int .i64 0)) := by kernel_rfl
theorem fo58_0 : fieldOff Tryz.prog 58 0 = some 0 := by kernel_rfl
theorem fo58_1 : fieldOff Tryz.prog 58 1 = some 1 := by kernel_rfl
theorem sz59 : sizeB Tryz.prog 59 = some 1 := by kernel_rfl
theorem one59 : oneB Tryz.prog 59 = true := by kernel_rfl
theorem by59 : bytesB Tryz.prog 59 = some 24 := by kernel_rfl
theorem zo59 : ([.slice none 0 0] : List Value).all (·.oneCell') = true := by kernel_rfl
theorem z59 : zeroB Tryz.prog 59 = some [.slice none 0 0] := by kernel_rfl
theorem sz61 : sizeB Tryz.prog 61 = some 1 := by kernel_rfl
theorem one61 : oneB Tryz.prog 61 = true := by kernel_rfl
theorem by61 : bytesB Tryz.prog 61 = some 8 := by kernel_rfl
theorem zo61 : ([.nilFunc] : List Value).all (·.oneCell') = true := by kernel_rfl
theorem z61 : zeroB Tryz.prog 61 = some [.nilFunc] := by kernel_rfl
theorem sz62 : sizeB Tryz.prog 62 = some 1 := by kernel_rfl
theorem one62 : oneB Tryz.prog 62 = true := by kernel_rfl
theorem by62 : bytesB Tryz.prog 62 = some 8 := by kernel_rfl
theorem zo62 : ([.nilFunc] : List Value).all (·.oneCell') = true := by kernel_rfl
theorem z62 : zeroB Tryz.prog 62 = some [.nilFunc] := by kernel_rfl
theorem sz63 : sizeB Tryz.prog 63 = some 1 := by kernel_rfl
theorem one63 : oneB Tryz.prog 63 = true := by kernel_rfl
theorem by63 : bytesB Tryz.prog 63 = some 8 := by kernel_rfl
theorem zo63 : ([.nilFunc] : List Value).all (·.oneCell') = true := by kernel_rfl
theorem z63 : zeroB Tryz.prog 63 = some [.nilFunc] := by kernel_rfl
theorem sz64 : sizeB Tryz.prog 64 = some 1 := by kernel_rfl
theorem one64 : oneB Tryz.prog 64 = true := by kernel_rfl
theorem by64 : bytesB Tryz.prog 64 = some 8 := by kernel_rfl
theorem zo64 : ([.nilFunc] : List Value).all (·.oneCell') = true := by kernel_rfl
theorem z64 : zeroB Tryz.prog 64 = some [.nilFunc] := by kernel_rfl
theorem sz65 : sizeB Tryz.prog 65 = some 1 := by kernel_rfl
theorem one65 : oneB Tryz.prog 65 = true := by kernel_rfl
theorem by65 : bytesB Tryz.prog 65 = some 8 := by kernel_rfl
theorem zo65 : ([.nilFunc] : List Value).all (·.oneCell') = true := by kernel_rfl
theorem z65 : zeroB Tryz.prog 65 = some [.nilFunc] := by kernel_rfl
theorem sz66 : sizeB Tryz.prog 66 = some 1 := by kernel_rfl
theorem one66 : oneB Tryz.prog 66 = true := by kernel_rfl
theorem by66 : bytesB Tryz.prog 66 = some 8 := by kernel_rfl
theorem zo66 : ([.nilFunc] : List Value).all (·.oneCell') = true := by kernel_rfl
theorem z66 : zeroB Tryz.prog 66 = some [.nilFunc] := by kernel_rfl
theorem sz67 : sizeB Tryz.prog 67 = some 1 := by kernel_rfl
theorem one67 : oneB Tryz.prog 67 = true := by kernel_rfl
theorem by67 : bytesB Tryz.prog 67 = some 8 := by kernel_rfl
theorem zo67 : ([.nilFunc] : List Value).all (·.oneCell') = true := by kernel_rfl
theorem z67 : zeroB Tryz.prog 67 = some [.nilFunc] := by kernel_rfl
theorem sz68 : sizeB Tryz.prog 68 = some 1 := by kernel_rfl
theorem one68 : oneB Tryz.prog 68 = true := by kernel_rfl
theorem by68 : bytesB Tryz.prog 68 = some 8 := by kernel_rfl
theorem zo68 : ([.nilFunc] : List Value).all (·.oneCell') = true := by kernel_rfl
theorem z68 : zeroB Tryz.prog 68 = some [.nilFunc] := by kernel_rfl
theorem sz70 : sizeB Tryz.prog 70 = some 1 := by kernel_rfl
theorem one70 : oneB Tryz.prog 70 = true := by kernel_rfl
theorem by70 : bytesB Tryz.prog 70 = some 8 := by kernel_rfl
theorem zo70 : ([.nilFunc] : List Value).all (·.oneCell') = true := by kernel_rfl
theorem z70 : zeroB Tryz.prog 70 = some [.nilFunc] := by kernel_rfl
theorem sz71 : sizeB Tryz.prog 71 = some 1 := by kernel_rfl
theorem one71 : oneB Tryz.prog 71 = true := by kernel_rfl
theorem by71 : bytesB Tryz.prog 71 = some 8 := by kernel_rfl
theorem zo71 : ([.nilFunc] : List Value).all (·.oneCell') = true := by kernel_rfl
theorem z71 : zeroB Tryz.prog 71 = some [.nilFunc] := by kernel_rfl
theorem sz72 : sizeB Tryz.prog 72 = some 1 := by kernel_rfl
theorem one72 : oneB Tryz.prog 72 = true := by kernel_rfl
theorem by72 : bytesB Tryz.prog 72 = some 8 := by kernel_rfl
theorem zo72 : ([.nilFunc] : List Value).all (·.oneCell') = true := by kernel_rfl
theorem z72 : zeroB Tryz.prog 72 = some [.nilFunc] := by kernel_rfl
theorem sz73 : sizeB Tryz.prog 73 = some 2 := by kernel_rfl
theorem agg73 : aggB Tryz.prog 73 = true := by kernel_rfl
theorem by73 : bytesB Tryz.prog 73 = some 32 := by kernel_rfl
theorem bl73 : ∀ ps, Tryz.prog.built 73 ps = Instr.fill (fun i => (#[(0, 1), (1, 1)] : Array (Nat × Nat))[i]?) ([.slice none 0 0, .int .i64 0] : List Value).toArray ps := by intro ps; kernel_rfl
theorem zo73 : ([.slice none 0 0, .int .i64 0] : List Value).all (·.oneCell') = true := by kernel_rfl
theorem z73 : zeroB Tryz.prog 73 = some [.slice none 0 0, .int .i64 0] := by kernel_rfl
theorem fo73_0 : fieldOff Tryz.prog 73 0 = some 0 := by kernel_rfl
theorem fo73_1 : fieldOff Tryz.prog 73 1 = some 1 := by kernel_rfl
theorem sz74 : sizeB Tryz.prog 74 = some 2 := by kernel_rfl
theorem agg74 : aggB Tryz.prog 74 = true := by kernel_rfl
theorem by74 : bytesB Tryz.prog 74 = some 32 := by kernel_rfl
theorem bl74 : ∀ ps, Tryz.prog.built 74 ps = Instr.fill (fun i => (#[(0, 1), (1, 1)] : Array (Nat × Nat))[i]?) ([.slice none 0 0, .int .i64 0] : List Value).toArray ps := by intro ps; kernel_rfl
theorem zo74 : ([.slice none 0 0, .int .i64 0] : List Value).all (·.oneCell') = true := by kernel_rfl
theorem z74 : zeroB Tryz.prog 74 = some [.slice none 0 0, .int .i64 0] := by kernel_rfl
theorem fo74_0 : fieldOff Tryz.prog 74 0 = some 0 := by kernel_rfl
theorem fo74_1 : fieldOff Tryz.prog 74 1 = some 1 := by kernel_rfl
theorem sz76 : sizeB Tryz.prog 76 = some 1 := by kernel_rfl
theorem one76 : oneB Tryz.prog 76 = true := by kernel_rfl
theorem by76 : bytesB Tryz.prog 76 = some 8 := by kernel_rfl
theorem zo76 : ([.nilFunc] : List Value).all (·.oneCell') = true := by kernel_rfl
theorem z76 : zeroB Tryz.prog 76 = some [.nilFunc] := by kernel_rfl
theorem sz77 : sizeB Tryz.prog 77 = some 1 := by kernel_rfl
theorem one77 : oneB Tryz.prog 77 = true := by kernel_rfl
theorem by77 : bytesB Tryz.prog 77 = some 8 := by kernel_rfl
theorem zo77 : ([.nilFunc] : List Value).all (·.oneCell') = true := by kernel_rfl
theorem z77 : zeroB Tryz.prog 77 = some [.nilFunc] := by kernel_rfl
theorem sz78 : sizeB Tryz.prog 78 = some 1 := by kernel_rfl
theorem one78 : oneB Tryz.prog 78 = true := by kernel_rfl
theorem by78 : bytesB Tryz.prog 78 = some 8 := by kernel_rfl
theorem zo78 : ([.map none] : List Value).all (·.oneCell') = true := by kernel_rfl
theorem z78 : zeroB Tryz.prog 78 = some [.map none] := by kernel_rfl
theorem sz79 : sizeB Tryz.prog 79 = some 6 := by kernel_rfl
theorem agg79 : aggB Tryz.prog 79 = true := by kernel_rfl
theorem by79 : bytesB Tryz.prog 79 = some 64 := by kernel_rfl
theorem bl79 : ∀ ps, Tryz.prog.built 79 ps = Instr.fill (fun i => (#[(0, 1), (1, 1), (2, 1), (3, 1), (4, 2)] : Array (Nat × Nat))[i]?) ([.string (ByteArray.mk #[]), .string (ByteArray.mk #[]), .int .i64 0, .int .i64 0, .int .i64 0, .int .i64 0] : List Value).toArray ps := by intro ps; kernel_rfl
theorem zo79 : ([.string (ByteArray.mk #[]), .string (ByteArray.mk #[]), .int .i64 0, .int .i64 0, .int .i64 0, .int .i64 0] : List Value).all (·.oneCell') = true := by kernel_rfl
theorem z79 : zeroB Tryz.prog 79 = some [.string (ByteArray.mk #[]), .string (ByteArray.mk #[]), .int .i64 0, .int .i64 0, .int .i64 0, .int .i64 0] := by kernel_rfl
theorem fo79_0 : fieldOff Tryz.prog 79 0 = some 0 := by kernel_rfl
theorem fo79_1 : fieldOff Tryz.prog 79 1 = some 1 := by kernel_rfl
theorem fo79_2 : fieldOff Tryz.prog 79 2 = some 2 := by kernel_rfl
theorem fo79_3 : fieldOff Tryz.prog 79 3 = some 3 := by kernel_rfl
theorem fo79_4 : fieldOff Tryz.prog 79 4 = some 4 := by kernel_rfl
theorem sz80 : sizeB Tryz.prog 80 = some 6 := by kernel_rfl
theorem agg80 : aggB Tryz.prog 80 = true := by kernel_rfl
theorem by80 : bytesB Tryz.prog 80 = some 64 := by kernel_rfl
theorem bl80 : ∀ ps, Tryz.prog.built 80 ps = Instr.fill (fun i => (#[(0, 1), (1, 1), (2, 1), (3, 1), (4, 2)] : Array (Nat × Nat))[i]?) ([.string (ByteArray.mk #[]), .string (ByteArray.mk #[]), .int .i64 0, .int .i64 0, .int .i64 0, .int .i64 0] : List Value).toArray ps := by intro ps; kernel_rfl
theorem zo80 : ([.string (ByteArray.mk #[]), .string (ByteArray.mk #[]), .int .i64 0, .int .i64 0, .int .i64 0, .int .i64 0] : List Value).all (·.oneCell') = true := by kernel_rfl
theorem z80 : zeroB Tryz.prog 80 = some [.string (ByteArray.mk #[]), .string (ByteArray.mk #[]), .int .i64 0, .int .i64 0, .int .i64 0, .int .i64 0] := by kernel_rfl
theorem fo80_0 : fieldOff Tryz.prog 80 0 = some 0 := by kernel_rfl
theorem fo80_1 : fieldOff Tryz.prog 80 1 = some 1 := by kernel_rfl
theorem fo80_2 : fieldOff Tryz.prog 80 2 = some 2 := by kernel_rfl
theorem fo80_3 : fieldOff Tryz.prog 80 3 = some 3 := by kernel_rfl
theorem fo80_4 : fieldOff Tryz.prog 80 4 = some 4 := by kernel_rfl
theorem sz81 : sizeB Tryz.prog 81 = some 1 := by kernel_rfl
theorem one81 : oneB Tryz.prog 81 = true := by kernel_rfl
theorem by81 : bytesB Tryz.prog 81 = some 8 := by kernel_rfl
theorem zo81 : ([.nilFunc] : List Value).all (·.oneCell') = true := by kernel_rfl
theorem z81 : zeroB Tryz.prog 81 = some [.nilFunc] := by kernel_rfl
theorem sz82 : sizeB Tryz.prog 82 = some 1 := by kernel_rfl
theorem one82 : oneB Tryz.prog 82 = true := by kernel_rfl
theorem by82 : bytesB Tryz.prog 82 = some 8 := by kernel_rfl
theorem zo82 : ([.nilFunc] : List Value).all (·.oneCell') = true := by kernel_rfl
theorem z82 : zeroB Tryz.prog 82 = some [.nilFunc] := by kernel_rfl
theorem sz83 : sizeB Tryz.prog 83 = some 1 := by kernel_rfl
theorem one83 : oneB Tryz.prog 83 = true := by kernel_rfl
theorem by83 : bytesB Tryz.prog 83 = some 8 := by kernel_rfl
theorem zo83 : ([.nilFunc] : List Value).all (·.oneCell') = true := by kernel_rfl
theorem z83 : zeroB Tryz.prog 83 = some [.nilFunc] := by kernel_rfl
theorem sz84 : sizeB Tryz.prog 84 = some 1 := by kernel_rfl
theorem one84 : oneB Tryz.prog 84 = true := by kernel_rfl
theorem by84 : bytesB Tryz.prog 84 = some 8 := by kernel_rfl
theorem zo84 : ([.nilFunc] : List Value).all (·.oneCell') = true := by kernel_rfl
theorem z84 : zeroB Tryz.prog 84 = some [.nilFunc] := by kernel_rfl
theorem sz85 : sizeB Tryz.prog 85 = some 1 := by kernel_rfl
theorem one85 : oneB Tryz.prog 85 = true := by kernel_rfl
theorem by85 : bytesB Tryz.prog 85 = some 8 := by kernel_rfl
theorem zo85 : ([.nilFunc] : List Value).all (·.oneCell') = true := by kernel_rfl
theorem z85 : zeroB Tryz.prog 85 = some [.nilFunc] := by kernel_rfl
theorem sz86 : sizeB Tryz.prog 86 = some 1 := by kernel_rfl
theorem one86 : oneB Tryz.prog 86 = true := by kernel_rfl
theorem by86 : bytesB Tryz.prog 86 = some 8 := by kernel_rfl
theorem zo86 : ([.nilFunc] : List Value).all (·.oneCell') = true := by kernel_rfl
theorem z86 : zeroB Tryz.prog 86 = some [.nilFunc] := by kernel_rfl
theorem sz87 : sizeB Tryz.prog 87 = some 1 := by kernel_rfl
theorem one87 : oneB Tryz.prog 87 = true := by kernel_rfl
theorem by87 : bytesB Tryz.prog 87 = some 8 := by kernel_rfl
theorem zo87 : ([.nilFunc] : List Value).all (·.oneCell') = true := by kernel_rfl
theorem z87 : zeroB Tryz.prog 87 = some [.nilFunc] := by kernel_rfl
theorem sz88 : sizeB Tryz.prog 88 = some 1 := by kernel_rfl
theorem one88 : oneB Tryz.prog 88 = true := by kernel_rfl
theorem by88 : bytesB Tryz.prog 88 = some 8 := by kernel_rfl
theorem zo88 : ([.nilFunc] : List Value).all (·.oneCell') = true := by kernel_rfl
theorem z88 : zeroB Tryz.prog 88 = some [.nilFunc] := by kernel_rfl
theorem sz89 : sizeB Tryz.prog 89 = some 1 := by kernel_rfl
theorem one89 : oneB Tryz.prog 89 = true := by kernel_rfl
theorem by89 : bytesB Tryz.prog 89 = some 8 := by kernel_rfl
theorem zo89 : ([.nilFunc] : List Value).all (·.oneCell') = true := by kernel_rfl
theorem z89 : zeroB Tryz.prog 89 = some [.nilFunc] := by kernel_rfl
theorem sz90 : sizeB Tryz.prog 90 = some 1 := by kernel_rfl
theorem one90 : oneB Tryz.prog 90 = true := by kernel_rfl
theorem by90 : bytesB Tryz.prog 90 = some 8 := by kernel_rfl
theorem zo90 : ([.nilFunc] : List Value).all (·.oneCell') = true := by kernel_rfl
theorem z90 : zeroB Tryz.prog 90 = some [.nilFunc] := by kernel_rfl
theorem sz91 : sizeB Tryz.prog 91 = some 1 := by kernel_rfl
theorem one91 : oneB Tryz.prog 91 = true := by kernel_rfl
theorem by91 : bytesB Tryz.prog 91 = some 8 := by kernel_rfl
theorem zo91 : ([.nilFunc] : List Value).all (·.oneCell') = true := by kernel_rfl
theorem z91 : zeroB Tryz.prog 91 = some [.nilFunc] := by kernel_rfl
theorem sz92 : sizeB Tryz.prog 92 = some 1 := by kernel_rfl
theorem one92 : oneB Tryz.prog 92 = true := by kernel_rfl
theorem by92 : bytesB Tryz.prog 92 = some 8 := by kernel_rfl
theorem zo92 : ([.nilFunc] : List Value).all (·.oneCell') = true := by kernel_rfl
theorem z92 : zeroB Tryz.prog 92 = some [.nilFunc] := by kernel_rfl
theorem sz93 : sizeB Tryz.prog 93 = some 1 := by kernel_rfl
theorem one93 : oneB Tryz.prog 93 = true := by kernel_rfl
theorem by93 : bytesB Tryz.prog 93 = some 8 := by kernel_rfl
theorem zo93 : ([.nilFunc] : List Value).all (·.oneCell') = true := by kernel_rfl
theorem z93 : zeroB Tryz.prog 93 = some [.nilFunc] := by kernel_rfl
theorem sz94 : sizeB Tryz.prog 94 = some 1 := by kernel_rfl
theorem one94 : oneB Tryz.prog 94 = true := by kernel_rfl
theorem by94 : bytesB Tryz.prog 94 = some 8 := by kernel_rfl
theorem zo94 : ([.nilFunc] : List Value).all (·.oneCell') = true := by kernel_rfl
theorem z94 : zeroB Tryz.prog 94 = some [.nilFunc] := by kernel_rfl
theorem sz95 : sizeB Tryz.prog 95 = some 1 := by kernel_rfl
theorem one95 : oneB Tryz.prog 95 = true := by kernel_rfl
theorem by95 : bytesB Tryz.prog 95 = some 24 := by kernel_rfl
theorem zo95 : ([.slice none 0 0] : List Value).all (·.oneCell') = true := by kernel_rfl
theorem z95 : zeroB Tryz.prog 95 = some [.slice none 0 0] := by kernel_rfl
theorem sz96 : sizeB Tryz.prog 96 = some 1 := by kernel_rfl
theorem one96 : oneB Tryz.prog 96 = true := by kernel_rfl
theorem by96 : bytesB Tryz.prog 96 = some 8 := by kernel_rfl
theorem zo96 : ([.nilFunc] : List Value).all (·.oneCell') = true := by kernel_rfl
theorem z96 : zeroB Tryz.prog 96 = some [.nilFunc] := by kernel_rfl
theorem sz97 : sizeB Tryz.prog 97 = some 1 := by kernel_rfl
theorem one97 : oneB Tryz.prog 97 = true := by kernel_rfl
theorem by97 : bytesB Tryz.prog 97 = some 8 := by kernel_rfl
theorem zo97 : ([.nilFunc] : List Value).all (·.oneCell') = true := by kernel_rfl
theorem z97 : zeroB Tryz.prog 97 = some [.nilFunc] := by kernel_rfl
theorem sz98 : sizeB Tryz.prog 98 = some 1 := by kernel_rfl
theorem one98 : oneB Tryz.prog 98 = true := by kernel_rfl
theorem by98 : bytesB Tryz.prog 98 = some 8 := by kernel_rfl
theorem zo98 : ([.nilFunc] : List Value).all (·.oneCell') = true := by kernel_rfl
theorem z98 : zeroB Tryz.prog 98 = some [.nilFunc] := by kernel_rfl
theorem sz99 : sizeB Tryz.prog 99 = some 1 := by kernel_rfl
theorem one99 : oneB Tryz.prog 99 = true := by kernel_rfl
theorem by99 : bytesB Tryz.prog 99 = some 8 := by kernel_rfl
theorem zo99 : ([.nilFunc] : List Value).all (·.oneCell') = true := by kernel_rfl
theorem z99 : zeroB Tryz.prog 99 = some [.nilFunc] := by kernel_rfl
theorem sz100 : sizeB Tryz.prog 100 = some 1 := by kernel_rfl
theorem one100 : oneB Tryz.prog 100 = true := by kernel_rfl
theorem by100 : bytesB Tryz.prog 100 = some 8 := by kernel_rfl
theorem zo100 : ([.nilFunc] : List Value).all (·.oneCell') = true := by kernel_rfl
theorem z100 : zeroB Tryz.prog 100 = some [.nilFunc] := by kernel_rfl
theorem sz101 : sizeB Tryz.prog 101 = some 1 := by kernel_rfl
theorem one101 : oneB Tryz.prog 101 = true := by kernel_rfl
theorem by101 : bytesB Tryz.prog 101 = some 8 := by kernel_rfl
theorem zo101 : ([.nilFunc] : List Value).all (·.oneCell') = true := by kernel_rfl
theorem z101 : zeroB Tryz.prog 101 = some [.nilFunc] := by kernel_rfl
theorem sz102 : sizeB Tryz.prog 102 = some 1 := by kernel_rfl
theorem one102 : oneB Tryz.prog 102 = true := by kernel_rfl
theorem by102 : bytesB Tryz.prog 102 = some 8 := by kernel_rfl
theorem zo102 : ([.nilFunc] : List Value).all (·.oneCell') = true := by kernel_rfl
theorem z102 : zeroB Tryz.prog 102 = some [.nilFunc] := by kernel_rfl
theorem sz103 : sizeB Tryz.prog 103 = some 1 := by kernel_rfl
theorem one103 : oneB Tryz.prog 103 = true := by kernel_rfl
theorem by103 : bytesB Tryz.prog 103 = some 8 := by kernel_rfl
theorem zo103 : ([.nilFunc] : List Value).all (·.oneCell') = true := by kernel_rfl
theorem z103 : zeroB Tryz.prog 103 = some [.nilFunc] := by kernel_rfl
theorem sz104 : sizeB Tryz.prog 104 = some 1 := by kernel_rfl
theorem one104 : oneB Tryz.prog 104 = true := by kernel_rfl
theorem by104 : bytesB Tryz.prog 104 = some 8 := by kernel_rfl
theorem zo104 : ([.nilFunc] : List Value).all (·.oneCell') = true := by kernel_rfl
theorem z104 : zeroB Tryz.prog 104 = some [.nilFunc] := by kernel_rfl
theorem sz105 : sizeB Tryz.prog 105 = some 1 := by kernel_rfl
theorem one105 : oneB Tryz.prog 105 = true := by kernel_rfl
theorem by105 : bytesB Tryz.prog 105 = some 8 := by kernel_rfl
theorem zo105 : ([.int .u64 0] : List Value).all (·.oneCell') = true := by kernel_rfl
theorem z105 : zeroB Tryz.prog 105 = some [.int .u64 0] := by kernel_rfl
theorem sz106 : sizeB Tryz.prog 106 = some 1 := by kernel_rfl
theorem one106 : oneB Tryz.prog 106 = true := by kernel_rfl
theorem by106 : bytesB Tryz.prog 106 = some 8 := by kernel_rfl
theorem zo106 : ([.nilFunc] : List Value).all (·.oneCell') = true := by kernel_rfl
theorem z106 : zeroB Tryz.prog 106 = some [.nilFunc] := by kernel_rfl
theorem sz107 : sizeB Tryz.prog 107 = some 1 := by kernel_rfl
theorem one107 : oneB Tryz.prog 107 = true := by kernel_rfl
theorem by107 : bytesB Tryz.prog 107 = some 8 := by kernel_rfl
theorem zo107 : ([.nilFunc] : List Value).all (·.oneCell') = true := by kernel_rfl
theorem z107 : zeroB Tryz.prog 107 = some [.nilFunc] := by kernel_rfl
theorem sz108 : sizeB Tryz.prog 108 = some 1 := by kernel_rfl
theorem one108 : oneB Tryz.prog 108 = true := by kernel_rfl
theorem by108 : bytesB Tryz.prog 108 = some 8 := by kernel_rfl
theorem zo108 : ([.nilFunc] : List Value).all (·.oneCell') = true := by kernel_rfl
theorem z108 : zeroB Tryz.prog 108 = some [.nilFunc] := by kernel_rfl
theorem sz109 : sizeB Tryz.prog 109 = some 1 := by kernel_rfl
theorem one109 : oneB Tryz.prog 109 = true := by kernel_rfl
theorem by109 : bytesB Tryz.prog 109 = some 8 := by kernel_rfl
theorem zo109 : ([.nilFunc] : List Value).all (·.oneCell') = true := by kernel_rfl
theorem z109 : zeroB Tryz.prog 109 = some [.nilFunc] := by kernel_rfl
theorem sz110 : sizeB Tryz.prog 110 = some 1 := by kernel_rfl
theorem one110 : oneB Tryz.prog 110 = true := by kernel_rfl
theorem by110 : bytesB Tryz.prog 110 = some 8 := by kernel_rfl
theorem zo110 : ([.nilFunc] : List Value).all (·.oneCell') = true := by kernel_rfl
theorem z110 : zeroB Tryz.prog 110 = some [.nilFunc] := by kernel_rfl
theorem sz111 : sizeB Tryz.prog 111 = some 1 := by kernel_rfl
theorem one111 : oneB Tryz.prog 111 = true := by kernel_rfl
theorem by111 : bytesB Tryz.prog 111 = some 8 := by kernel_rfl
theorem zo111 : ([.nilFunc] : List Value).all (·.oneCell') = true := by kernel_rfl
theorem z111 : zeroB Tryz.prog 111 = some [.nilFunc] := by kernel_rfl
theorem sz112 : sizeB Tryz.prog 112 = some 1 := by kernel_rfl
theorem one112 : oneB Tryz.prog 112 = true := by kernel_rfl
theorem by112 : bytesB Tryz.prog 112 = some 8 := by kernel_rfl
theorem zo112 : ([.nilFunc] : List Value).all (·.oneCell') = true := by kernel_rfl
theorem z112 : zeroB Tryz.prog 112 = some [.nilFunc] := by kernel_rfl
theorem sz113 : sizeB Tryz.prog 113 = some 1 := by kernel_rfl
theorem one113 : oneB Tryz.prog 113 = true := by kernel_rfl
theorem by113 : bytesB Tryz.prog 113 = some 8 := by kernel_rfl
theorem zo113 : ([.nilFunc] : List Value).all (·.oneCell') = true := by kernel_rfl
theorem z113 : zeroB Tryz.prog 113 = some [.nilFunc] := by kernel_rfl
theorem sz114 : sizeB Tryz.prog 114 = some 1 := by kernel_rfl
theorem one114 : oneB Tryz.prog 114 = true := by kernel_rfl
theorem by114 : bytesB Tryz.prog 114 = some 8 := by kernel_rfl
theorem zo114 : ([.nilFunc] : List Value).all (·.oneCell') = true := by kernel_rfl
theorem z114 : zeroB Tryz.prog 114 = some [.nilFunc] := by kernel_rfl
theorem sz115 : sizeB Tryz.prog 115 = some 1 := by kernel_rfl
theorem one115 : oneB Tryz.prog 115 = true := by kernel_rfl
theorem by115 : bytesB Tryz.prog 115 = some 8 := by kernel_rfl
theorem zo115 : ([.nilFunc] : List Value).all (·.oneCell') = true := by kernel_rfl
theorem z115 : zeroB Tryz.prog 115 = some [.nilFunc] := by kernel_rfl
theorem sz116 : sizeB Tryz.prog 116 = some 1 := by kernel_rfl
theorem one116 : oneB Tryz.prog 116 = true := by kernel_rfl
theorem by116 : bytesB Tryz.prog 116 = some 24 := by kernel_rfl
theorem zo116 : ([.slice none 0 0] : List Value).all (·.oneCell') = true := by kernel_rfl
theorem z116 : zeroB Tryz.prog 116 = some [.slice none 0 0] := by kernel_rfl
theorem sz117 : sizeB Tryz.prog 117 = some 1 := by kernel_rfl
theorem one117 : oneB Tryz.prog 117 = true := by kernel_rfl
theorem by117 : bytesB Tryz.prog 117 = some 8 := by kernel_rfl
theorem zo117 : ([.nilFunc] : List Value).all (·.oneCell') = true := by kernel_rfl
theorem z117 : zeroB Tryz.prog 117 = some [.nilFunc] := by kernel_rfl
theorem sz118 : sizeB Tryz.prog 118 = some 1 := by kernel_rfl
theorem one118 : oneB Tryz.prog 118 = true := by kernel_rfl
theorem by118 : bytesB Tryz.prog 118 = some 8 := by kernel_rfl
theorem zo118 : ([.nilFunc] : List Value).all (·.oneCell') = true := by kernel_rfl
theorem z118 : zeroB Tryz.prog 118 = some [.nilFunc] := by kernel_rfl
theorem sz119 : sizeB Tryz.prog 119 = some 1 := by kernel_rfl
theorem one119 : oneB Tryz.prog 119 = true := by kernel_rfl
theorem by119 : bytesB Tryz.prog 119 = some 8 := by kernel_rfl
theorem zo119 : ([.nilFunc] : List Value).all (·.oneCell') = true := by kernel_rfl
theorem z119 : zeroB Tryz.prog 119 = some [.nilFunc] := by kernel_rfl
theorem sz120 : sizeB Tryz.prog 120 = some 1 := by kernel_rfl
theorem one120 : oneB Tryz.prog 120 = true := by kernel_rfl
theorem by120 : bytesB Tryz.prog 120 = some 8 := by kernel_rfl
theorem zo120 : ([.nilFunc] : List Value).all (·.oneCell') = true := by kernel_rfl
theorem z120 : zeroB Tryz.prog 120 = some [.nilFunc] := by kernel_rfl
theorem sz121 : sizeB Tryz.prog 121 = some 1 := by kernel_rfl
theorem one121 : oneB Tryz.prog 121 = true := by kernel_rfl
theorem by121 : bytesB Tryz.prog 121 = some 8 := by kernel_rfl
theorem zo121 : ([.nilFunc] : List Value).all (·.oneCell') = true := by kernel_rfl
theorem z121 : zeroB Tryz.prog 121 = some [.nilFunc] := by kernel_rfl
theorem sz122 : sizeB Tryz.prog 122 = some 1 := by kernel_rfl
theorem one122 : oneB Tryz.prog 122 = true := by kernel_rfl
theorem by122 : bytesB Tryz.prog 122 = some 8 := by kernel_rfl
theorem zo122 : ([.nilFunc] : List Value).all (·.oneCell') = true := by kernel_rfl
theorem z122 : zeroB Tryz.prog 122 = some [.nilFunc] := by kernel_rfl
theorem sz123 : sizeB Tryz.prog 123 = some 1 := by kernel_rfl
theorem one123 : oneB Tryz.prog 123 = true := by kernel_rfl
theorem by123 : bytesB Tryz.prog 123 = some 8 := by kernel_rfl
theorem zo123 : ([.nilFunc] : List Value).all (·.oneCell') = true := by kernel_rfl
theorem z123 : zeroB Tryz.prog 123 = some [.nilFunc] := by kernel_rfl
theorem sz124 : sizeB Tryz.prog 124 = some 1 := by kernel_rfl
theorem one124 : oneB Tryz.prog 124 = true := by kernel_rfl
theorem by124 : bytesB Tryz.prog 124 = some 8 := by kernel_rfl
theorem zo124 : ([.nilFunc] : List Value).all (·.oneCell') = true := by kernel_rfl
theorem z124 : zeroB Tryz.prog 124 = some [.nilFunc] := by kernel_rfl
theorem sz125 : sizeB Tryz.prog 125 = some 1 := by kernel_rfl
theorem one125 : oneB Tryz.prog 125 = true := by kernel_rfl
theorem by125 : bytesB Tryz.prog 125 = some 8 := by kernel_rfl
theorem zo125 : ([.nilFunc] : List Value).all (·.oneCell') = true := by kernel_rfl
theorem z125 : zeroB Tryz.prog 125 = some [.nilFunc] := by kernel_rfl
theorem sz126 : sizeB Tryz.prog 126 = some 1 := by kernel_rfl
theorem one126 : oneB Tryz.prog 126 = true := by kernel_rfl
theorem by126 : bytesB Tryz.prog 126 = some 8 := by kernel_rfl
theorem zo126 : ([.nilFunc] : List Value).all (·.oneCell') = true := by kernel_rfl
theorem z126 : zeroB Tryz.prog 126 = some [.nilFunc] := by kernel_rfl
theorem sz127 : sizeB Tryz.prog 127 = some 1 := by kernel_rfl
theorem one127 : oneB Tryz.prog 127 = true := by kernel_rfl
theorem by127 : bytesB Tryz.prog 127 = some 24 := by kernel_rfl
theorem zo127 : ([.slice none 0 0] : List Value).all (·.oneCell') = true := by kernel_rfl
theorem z127 : zeroB Tryz.prog 127 = some [.slice none 0 0] := by kernel_rfl
theorem sz128 : sizeB Tryz.prog 128 = some 1 := by kernel_rfl
theorem one128 : oneB Tryz.prog 128 = true := by kernel_rfl
theorem by128 : bytesB Tryz.prog 128 = some 8 := by kernel_rfl
theorem zo128 : ([.nilFunc] : List Value).all (·.oneCell') = true := by kernel_rfl
theorem z128 : zeroB Tryz.prog 128 = some [.nilFunc] := by kernel_rfl
theorem sz129 : sizeB Tryz.prog 129 = some 1 := by kernel_rfl
theorem one129 : oneB Tryz.prog 129 = true := by kernel_rfl
theorem by129 : bytesB Tryz.prog 129 = some 8 := by kernel_rfl
theorem zo129 : ([.int .i64 0] : List Value).all (·.oneCell') = true := by kernel_rfl
theorem z129 : zeroB Tryz.prog 129 = some [.int .i64 0] := by kernel_rfl
theorem sz131 : sizeB Tryz.prog 131 = some 1 := by kernel_rfl
theorem one131 : oneB Tryz.prog 131 = true := by kernel_rfl
theorem by131 : bytesB Tryz.prog 131 = some 8 := by kernel_rfl
theorem zo131 : ([.nilFunc] : List Value).all (·.oneCell') = true := by kernel_rfl
theorem z131 : zeroB Tryz.prog 131 = some [.nilFunc] := by kernel_rfl
theorem sz132 : sizeB Tryz.prog 132 = some 1 := by kernel_rfl
theorem one132 : oneB Tryz.prog 132 = true := by kernel_rfl
theorem by132 : bytesB Tryz.prog 132 = some 8 := by kernel_rfl
theorem zo132 : ([.nilFunc] : List Value).all (·.oneCell') = true := by kernel_rfl
theorem z132 : zeroB Tryz.prog 132 = some [.nilFunc] := by kernel_rfl
theorem sz133 : sizeB Tryz.prog 133 = some 1 := by kernel_rfl
theorem one133 : oneB Tryz.prog 133 = true := by kernel_rfl
theorem by133 : bytesB Tryz.prog 133 = some 8 := by kernel_rfl
theorem zo133 : ([.nilFunc] : List Value).all (·.oneCell') = true := by kernel_rfl
theorem z133 : zeroB Tryz.prog 133 = some [.nilFunc] := by kernel_rfl
theorem sz134 : sizeB Tryz.prog 134 = some 1 := by kernel_rfl
theorem one134 : oneB Tryz.prog 134 = true := by kernel_rfl
theorem by134 : bytesB Tryz.prog 134 = some 8 := by kernel_rfl
theorem zo134 : ([.nilFunc] : List Value).all (·.oneCell') = true := by kernel_rfl
theorem z134 : zeroB Tryz.prog 134 = some [.nilFunc] := by kernel_rfl
theorem sz135 : sizeB Tryz.prog 135 = some 1 := by kernel_rfl
theorem one135 : oneB Tryz.prog 135 = true := by kernel_rfl
theorem by135 : bytesB Tryz.prog 135 = some 8 := by kernel_rfl
theorem zo135 : ([.nilFunc] : List Value).all (·.oneCell') = true := by kernel_rfl
theorem z135 : zeroB Tryz.prog 135 = some [.nilFunc] := by kernel_rfl
theorem sz136 : sizeB Tryz.prog 136 = some 1 := by kernel_rfl
theorem one136 : oneB Tryz.prog 136 = true := by kernel_rfl
theorem by136 : bytesB Tryz.prog 136 = some 4 := by kernel_rfl
theorem zo136 : ([.int .u32 0] : List Value).all (·.oneCell') = true := by kernel_rfl
theorem z136 : zeroB Tryz.prog 136 = some [.int .u32 0] := by kernel_rfl
theorem sz137 : sizeB Tryz.prog 137 = some 1 := by kernel_rfl
theorem one137 : oneB Tryz.prog 137 = true := by kernel_rfl
theorem by137 : bytesB Tryz.prog 137 = some 8 := by kernel_rfl
theorem zo137 : ([.nilFunc] : List Value).all (·.oneCell') = true := by kernel_rfl
theorem z137 : zeroB Tryz.prog 137 = some [.nilFunc] := by kernel_rfl
theorem sz138 : sizeB Tryz.prog 138 = some 1 := by kernel_rfl
theorem one138 : oneB Tryz.prog 138 = true := by kernel_rfl
theorem by138 : bytesB Tryz.prog 138 = some 8 := by kernel_rfl
theorem zo138 : ([.int .u64 0] : List Value).all (·.oneCell') = true := by kernel_rfl
theorem z138 : zeroB Tryz.prog 138 = some [.int .u64 0] := by kernel_rfl
theorem sz139 : sizeB Tryz.prog 139 = some 1 := by kernel_rfl
theorem one139 : oneB Tryz.prog 139 = true := by kernel_rfl
theorem by139 : bytesB Tryz.prog 139 = some 8 := by kernel_rfl
theorem zo139 : ([.nilFunc] : List Value).all (·.oneCell') = true := by kernel_rfl
theorem z139 : zeroB Tryz.prog 139 = some [.nilFunc] := by kernel_rfl
theorem sz140 : sizeB Tryz.prog 140 = some 1 := by kernel_rfl
theorem one140 : oneB Tryz.prog 140 = true := by kernel_rfl
theorem by140 : bytesB Tryz.prog 140 = some 8 := by kernel_rfl
theorem zo140 : ([.nilFunc] : List Value).all (·.oneCell') = true := by kernel_rfl
theorem z140 : zeroB Tryz.prog 140 = some [.nilFunc] := by kernel_rfl
theorem sz141 : sizeB Tryz.prog 141 = some 1 := by kernel_rfl
theorem one141 : oneB Tryz.prog 141 = true := by kernel_rfl
theorem by141 : bytesB Tryz.prog 141 = some 8 := by kernel_rfl
theorem zo141 : ([.nilFunc] : List Value).all (·.oneCell') = true := by kernel_rfl
theorem z141 : zeroB Tryz.prog 141 = some [.nilFunc] := by kernel_rfl
theorem sz142 : sizeB Tryz.prog 142 = some 1 := by kernel_rfl
theorem one142 : oneB Tryz.prog 142 = true := by kernel_rfl
theorem by142 : bytesB Tryz.prog 142 = some 8 := by kernel_rfl
theorem zo142 : ([.nilFunc] : List Value).all (·.oneCell') = true := by kernel_rfl
theorem z142 : zeroB Tryz.prog 142 = some [.nilFunc] := by kernel_rfl
theorem sz143 : sizeB Tryz.prog 143 = some 1 := by kernel_rfl
theorem one143 : oneB Tryz.prog 143 = true := by kernel_rfl
theorem by143 : bytesB Tryz.prog 143 = some 8 := by kernel_rfl
theorem zo143 : ([.nilFunc] : List Value).all (·.oneCell') = true := by kernel_rfl
theorem z143 : zeroB Tryz.prog 143 = some [.nilFunc] := by kernel_rfl
theorem sz144 : sizeB Tryz.prog 144 = some 1 := by kernel_rfl
theorem one144 : oneB Tryz.prog 144 = true := by kernel_rfl
theorem by144 : bytesB Tryz.prog 144 = some 8 := by kernel_rfl
theorem zo144 : ([.nilFunc] : List Value).all (·.oneCell') = true := by kernel_rfl
theorem z144 : zeroB Tryz.prog 144 = some [.nilFunc] := by kernel_rfl
theorem sz145 : sizeB Tryz.prog 145 = some 1 := by kernel_rfl
theorem one145 : oneB Tryz.prog 145 = true := by kernel_rfl
theorem by145 : bytesB Tryz.prog 145 = some 8 := by kernel_rfl
theorem zo145 : ([.nilFunc] : List Value).all (·.oneCell') = true := by kernel_rfl
theorem z145 : zeroB Tryz.prog 145 = some [.nilFunc] := by kernel_rfl
theorem sz146 : sizeB Tryz.prog 146 = some 1 := by kernel_rfl
theorem one146 : oneB Tryz.prog 146 = true := by kernel_rfl
theorem by146 : bytesB Tryz.prog 146 = some 8 := by kernel_rfl
theorem zo146 : ([.nilFunc] : List Value).all (·.oneCell') = true := by kernel_rfl
theorem z146 : zeroB Tryz.prog 146 = some [.nilFunc] := by kernel_rfl
theorem sz147 : sizeB Tryz.prog 147 = some 1 := by kernel_rfl
theorem one147 : oneB Tryz.prog 147 = true := by kernel_rfl
theorem by147 : bytesB Tryz.prog 147 = some 8 := by kernel_rfl
theorem zo147 : ([.nilFunc] : List Value).all (·.oneCell') = true := by kernel_rfl
theorem z147 : zeroB Tryz.prog 147 = some [.nilFunc] := by kernel_rfl
theorem sz148 : sizeB Tryz.prog 148 = some 1 := by kernel_rfl
theorem one148 : oneB Tryz.prog 148 = true := by kernel_rfl
theorem by148 : bytesB Tryz.prog 148 = some 8 := by kernel_rfl
theorem zo148 : ([.nilFunc] : List Value).all (·.oneCell') = true := by kernel_rfl
theorem z148 : zeroB Tryz.prog 148 = some [.nilFunc] := by kernel_rfl
theorem sz149 : sizeB Tryz.prog 149 = some 1 := by kernel_rfl
theorem one149 : oneB Tryz.prog 149 = true := by kernel_rfl
theorem by149 : bytesB Tryz.prog 149 = some 8 := by kernel_rfl
theorem zo149 : ([.nilFunc] : List Value).all (·.oneCell') = true := by kernel_rfl
theorem z149 : zeroB Tryz.prog 149 = some [.nilFunc] := by kernel_rfl
theorem sz150 : sizeB Tryz.prog 150 = some 1 := by kernel_rfl
theorem one150 : oneB Tryz.prog 150 = true := by kernel_rfl
theorem by150 : bytesB Tryz.prog 150 = some 24 := by kernel_rfl
theorem zo150 : ([.slice none 0 0] : List Value).all (·.oneCell') = true := by kernel_rfl
theorem z150 : zeroB Tryz.prog 150 = some [.slice none 0 0] := by kernel_rfl
theorem sz151 : sizeB Tryz.prog 151 = some 1 := by kernel_rfl
theorem one151 : oneB Tryz.prog 151 = true := by kernel_rfl
theorem by151 : bytesB Tryz.prog 151 = some 8 := by kernel_rfl
theorem zo151 : ([.int .u64 0] : List Value).all (·.oneCell') = true := by kernel_rfl
theorem z151 : zeroB Tryz.prog 151 = some [.int .u64 0] := by kernel_rfl
theorem sz152 : sizeB Tryz.prog 152 = some 1 := by kernel_rfl
theorem one152 : oneB Tryz.prog 152 = true := by kernel_rfl
theorem by152 : bytesB Tryz.prog 152 = some 8 := by kernel_rfl
theorem zo152 : ([.nilFunc] : List Value).all (·.oneCell') = true := by kernel_rfl
theorem z152 : zeroB Tryz.prog 152 = some [.nilFunc] := by kernel_rfl
theorem sz153 : sizeB Tryz.prog 153 = some 1 := by kernel_rfl
theorem one153 : oneB Tryz.prog 153 = true := by kernel_rfl
theorem by153 : bytesB Tryz.prog 153 = some 8 := by kernel_rfl
theorem zo153 : ([.nilFunc] : List Value).all (·.oneCell') = true := by kernel_rfl
theorem z153 : zeroB Tryz.prog 153 = some [.nilFunc] := by kernel_rfl
theorem sz154 : sizeB Tryz.prog 154 = some 1 := by kernel_rfl
theorem one154 : oneB Tryz.prog 154 = true := by kernel_rfl
theorem by154 : bytesB Tryz.prog 154 = some 8 := by kernel_rfl
theorem zo154 : ([.nilFunc] : List Value).all (·.oneCell') = true := by kernel_rfl
theorem z154 : zeroB Tryz.prog 154 = some [.nilFunc] := by kernel_rfl
theorem sz155 : sizeB Tryz.prog 155 = some 1 := by kernel_rfl
theorem one155 : oneB Tryz.prog 155 = true := by kernel_rfl
theorem by155 : bytesB Tryz.prog 155 = some 8 := by kernel_rfl
theorem zo155 : ([.pointer none] : List Value).all (·.oneCell') = true := by kernel_rfl
theorem z155 : zeroB Tryz.prog 155 = some [.pointer none] := by kernel_rfl
theorem sz156 : sizeB Tryz.prog 156 = some 1 := by kernel_rfl
theorem one156 : oneB Tryz.prog 156 = true := by kernel_rfl
theorem by156 : bytesB Tryz.prog 156 = some 8 := by kernel_rfl
theorem zo156 : ([.nilFunc] : List Value).all (·.oneCell') = true := by kernel_rfl
theorem z156 : zeroB Tryz.prog 156 = some [.nilFunc] := by kernel_rfl
theorem sz157 : sizeB Tryz.prog 157 = some 1 := by kernel_rfl
theorem one157 : oneB Tryz.prog 157 = true := by kernel_rfl
theorem by157 : bytesB Tryz.prog 157 = some 8 := by kernel_rfl
theorem zo157 : ([.nilFunc] : List Value).all (·.oneCell') = true := by kernel_rfl
theorem z157 : zeroB Tryz.prog 157 = some [.nilFunc] := by kernel_rfl
theorem sz158 : sizeB Tryz.prog 158 = some 1 := by kernel_rfl
theorem one158 : oneB Tryz.prog 158 = true := by kernel_rfl
theorem by158 : bytesB Tryz.prog 158 = some 8 := by kernel_rfl
theorem zo158 : ([.nilFunc] : List Value).all (·.oneCell') = true := by kernel_rfl
theorem z158 : zeroB Tryz.prog 158 = some [.nilFunc] := by kernel_rfl
theorem sz159 : sizeB Tryz.prog 159 = some 1 := by kernel_rfl
theorem one159 : oneB Tryz.prog 159 = true := by kernel_rfl
theorem by159 : bytesB Tryz.prog 159 = some 8 := by kernel_rfl
theorem zo159 : ([.nilFunc] : List Value).all (·.oneCell') = true := by kernel_rfl
theorem z159 : zeroB Tryz.prog 159 = some [.nilFunc] := by kernel_rfl
theorem sz160 : sizeB Tryz.prog 160 = some 1 := by kernel_rfl
theorem one160 : oneB Tryz.prog 160 = true := by kernel_rfl
theorem by160 : bytesB Tryz.prog 160 = some 8 := by kernel_rfl
theorem zo160 : ([.nilFunc] : List Value).all (·.oneCell') = true := by kernel_rfl
theorem z160 : zeroB Tryz.prog 160 = some [.nilFunc] := by kernel_rfl
theorem sz161 : sizeB Tryz.prog 161 = some 1 := by kernel_rfl
theorem one161 : oneB Tryz.prog 161 = true := by kernel_rfl
theorem by161 : bytesB Tryz.prog 161 = some 8 := by kernel_rfl
theorem zo161 : ([.nilFunc] : List Value).all (·.oneCell') = true := by kernel_rfl
theorem z161 : zeroB Tryz.prog 161 = some [.nilFunc] := by kernel_rfl
theorem sz162 : sizeB Tryz.prog 162 = some 1 := by kernel_rfl
theorem one162 : oneB Tryz.prog 162 = true := by kernel_rfl
theorem by162 : bytesB Tryz.prog 162 = some 8 := by kernel_rfl
theorem zo162 : ([.nilFunc] : List Value).all (·.oneCell') = true := by kernel_rfl
theorem z162 : zeroB Tryz.prog 162 = some [.nilFunc] := by kernel_rfl
theorem sz163 : sizeB Tryz.prog 163 = some 2 := by kernel_rfl
theorem agg163 : aggB Tryz.prog 163 = true := by kernel_rfl
theorem by163 : bytesB Tryz.prog 163 = some 24 := by kernel_rfl
theorem bl163 : ∀ ps, Tryz.prog.built 163 ps = Instr.fill (fun i => (#[(0, 1), (1, 1)] : Array (Nat × Nat))[i]?) ([.string (ByteArray.mk #[]), .int .i64 0] : List Value).toArray ps := by intro ps; kernel_rfl
theorem zo163 : ([.string (ByteArray.mk #[]), .int .i64 0] : List Value).all (·.oneCell') = true := by kernel_rfl
theorem z163 : zeroB Tryz.prog 163 = some [.string (ByteArray.mk #[]), .int .i64 0] := by kernel_rfl
theorem fo163_0 : fieldOff Tryz.prog 163 0 = some 0 := by kernel_rfl
theorem fo163_1 : fieldOff Tryz.prog 163 1 = some 1 := by kernel_rfl
theorem sz164 : sizeB Tryz.prog 164 = some 2 := by kernel_rfl
theorem agg164 : aggB Tryz.prog 164 = true := by kernel_rfl
theorem by164 : bytesB Tryz.prog 164 = some 24 := by kernel_rfl
theorem bl164 : ∀ ps, Tryz.prog.built 164 ps = Instr.fill (fun i => (#[(0, 1), (1, 1)] : Array (Nat × Nat))[i]?) ([.string (ByteArray.mk #[]), .int .i64 0] : List Value).toArray ps := by intro ps; kernel_rfl
theorem zo164 : ([.string (ByteArray.mk #[]), .int .i64 0] : List Value).all (·.oneCell') = true := by kernel_rfl
theorem z164 : zeroB Tryz.prog 164 = some [.string (ByteArray.mk #[]), .int .i64 0] := by kernel_rfl
theorem fo164_0 : fieldOff Tryz.prog 164 0 = some 0 := by kernel_rfl
theorem fo164_1 : fieldOff Tryz.prog 164 1 = some 1 := by kernel_rfl
theorem sz165 : sizeB Tryz.prog 165 = some 1 := by kernel_rfl
theorem one165 : oneB Tryz.prog 165 = true := by kernel_rfl
theorem by165 : bytesB Tryz.prog 165 = some 24 := by kernel_rfl
theorem zo165 : ([.slice none 0 0] : List Value).all (·.oneCell') = true := by kernel_rfl
theorem z165 : zeroB Tryz.prog 165 = some [.slice none 0 0] := by kernel_rfl
theorem sz166 : sizeB Tryz.prog 166 = some 1 := by kernel_rfl
theorem one166 : oneB Tryz.prog 166 = true := by kernel_rfl
theorem by166 : bytesB Tryz.prog 166 = some 8 := by kernel_rfl
theorem zo166 : ([.nilFunc] : List Value).all (·.oneCell') = true := by kernel_rfl
theorem z166 : zeroB Tryz.prog 166 = some [.nilFunc] := by kernel_rfl
theorem sz167 : sizeB Tryz.prog 167 = some 1 := by kernel_rfl
theorem one167 : oneB Tryz.prog 167 = true := by kernel_rfl
theorem by167 : bytesB Tryz.prog 167 = some 8 := by kernel_rfl
theorem zo167 : ([.nilFunc] : List Value).all (·.oneCell') = true := by kernel_rfl
theorem z167 : zeroB Tryz.prog 167 = some [.nilFunc] := by kernel_rfl
theorem sz168 : sizeB Tryz.prog 168 = some 1 := by kernel_rfl
theorem one168 : oneB Tryz.prog 168 = true := by kernel_rfl
theorem by168 : bytesB Tryz.prog 168 = some 8 := by kernel_rfl
theorem zo168 : ([.nilFunc] : List Value).all (·.oneCell') = true := by kernel_rfl
theorem z168 : zeroB Tryz.prog 168 = some [.nilFunc] := by kernel_rfl
theorem sz169 : sizeB Tryz.prog 169 = some 5 := by kernel_rfl
theorem agg169 : aggB Tryz.prog 169 = true := by kernel_rfl
theorem by169 : bytesB Tryz.prog 169 = some 80 := by kernel_rfl
theorem bl169 : ∀ ps, Tryz.prog.built 169 ps = Instr.fill (fun i => (#[(0, 1), (1, 1), (2, 1), (3, 1), (4, 1)] : Array (Nat × Nat))[i]?) ([.string (ByteArray.mk #[]), .int .i64 0, .int .i64 0, .slice none 0 0, .slice none 0 0] : List Value).toArray ps := by intro ps; kernel_rfl
theorem zo169 : ([.string (ByteArray.mk #[]), .int .i64 0, .int .i64 0, .slice none 0 0, .slice none 0 0] : List Value).all (·.oneCell') = true := by kernel_rfl
theorem z169 : zeroB Tryz.prog 169 = some [.string (ByteArray.mk #[]), .int .i64 0, .int .i64 0, .slice none 0 0, .slice none 0 0] := by kernel_rfl
theorem fo169_0 : fieldOff Tryz.prog 169 0 = some 0 := by kernel_rfl
theorem fo169_1 : fieldOff Tryz.prog 169 1 = some 1 := by kernel_rfl
theorem fo169_2 : fieldOff Tryz.prog 169 2 = some 2 := by kernel_rfl
theorem fo169_3 : fieldOff Tryz.prog 169 3 = some 3 := by kernel_rfl
theorem fo169_4 : fieldOff Tryz.prog 169 4 = some 4 := by kernel_rfl
theorem sz170 : sizeB Tryz.prog 170 = some 5 := by kernel_rfl
theorem agg170 : aggB Tryz.prog 170 = true := by kernel_rfl
theorem by170 : bytesB Tryz.prog 170 = some 80 := by kernel_rfl
theorem bl170 : ∀ ps, Tryz.prog.built 170 ps = Instr.fill (fun i => (#[(0, 1), (1, 1), (2, 1), (3, 1), (4, 1)] : Array (Nat × Nat))[i]?) ([.string (ByteArray.mk #[]), .int .i64 0, .int .i64 0, .slice none 0 0, .slice none 0 0] : List Value).toArray ps := by intro ps; kernel_rfl
theorem zo170 : ([.string (ByteArray.mk #[]), .int .i64 0, .int .i64 0, .slice none 0 0, .slice none 0 0] : List Value).all (·.oneCell') = true := by kernel_rfl
theorem z170 : zeroB Tryz.prog 170 = some [.string (ByteArray.mk #[]), .int .i64 0, .int .i64 0, .slice none 0 0, .slice none 0 0] := by kernel_rfl
theorem fo170_0 : fieldOff Tryz.prog 170 0 = some 0 := by kernel_rfl
theorem fo170_1 : fieldOff Tryz.prog 170 1 = some 1 := by kernel_rfl
theorem fo170_2 : fieldOff Tryz.prog 170 2 = some 2 := by kernel_rfl
theorem fo170_3 : fieldOff Tryz.prog 170 3 = some 3 := by kernel_rfl
theorem fo170_4 : fieldOff Tryz.prog 170 4 = some 4 := by kernel_rfl
theorem sz172 : sizeB Tryz.prog 172 = some 1 := by kernel_rfl
theorem one172 : oneB Tryz.prog 172 = true := by kernel_rfl
theorem by172 : bytesB Tryz.prog 172 = some 8 := by kernel_rfl
theorem zo172 : ([.nilFunc] : List Value).all (·.oneCell') = true := by kernel_rfl
theorem z172 : zeroB Tryz.prog 172 = some [.nilFunc] := by kernel_rfl
theorem sz173 : sizeB Tryz.prog 173 = some 1 := by kernel_rfl
theorem one173 : oneB Tryz.prog 173 = true := by kernel_rfl
theorem by173 : bytesB Tryz.prog 173 = some 8 := by kernel_rfl
theorem zo173 : ([.pointer none] : List Value).all (·.oneCell') = true := by kernel_rfl
theorem z173 : zeroB Tryz.prog 173 = some [.pointer none] := by kernel_rfl
theorem sz175 : sizeB Tryz.prog 175 = some 1 := by kernel_rfl
theorem one175 : oneB Tryz.prog 175 = true := by kernel_rfl
theorem by175 : bytesB Tryz.prog 175 = some 8 := by kernel_rfl
theorem zo175 : ([.nilFunc] : List Value).all (·.oneCell') = true := by kernel_rfl
theorem z175 : zeroB Tryz.prog 175 = some [.nilFunc] := by kernel_rfl
theorem sz176 : sizeB Tryz.prog 176 = some 1 := by kernel_rfl
theorem one176 : oneB Tryz.prog 176 = true := by kernel_rfl
theorem by176 : bytesB Tryz.prog 176 = some 8 := by kernel_rfl
theorem zo176 : ([.nilFunc] : List Value).all (·.oneCell') = true := by kernel_rfl
theorem z176 : zeroB Tryz.prog 176 = some [.nilFunc] := by kernel_rfl
theorem sz177 : sizeB Tryz.prog 177 = some 1 := by kernel_rfl
theorem one177 : oneB Tryz.prog 177 = true := by kernel_rfl
theorem by177 : bytesB Tryz.prog 177 = some 8 := by kernel_rfl
theorem zo177 : ([.nilFunc] : List Value).all (·.oneCell') = true := by kernel_rfl
theorem z177 : zeroB Tryz.prog 177 = some [.nilFunc] := by kernel_rfl
theorem sz178 : sizeB Tryz.prog 178 = some 1 := by kernel_rfl
theorem one178 : oneB Tryz.prog 178 = true := by kernel_rfl
theorem by178 : bytesB Tryz.prog 178 = some 8 := by kernel_rfl
theorem zo178 : ([.nilFunc] : List Value).all (·.oneCell') = true := by kernel_rfl
theorem z178 : zeroB Tryz.prog 178 = some [.nilFunc] := by kernel_rfl
theorem sz179 : sizeB Tryz.prog 179 = some 1 := by kernel_rfl
theorem one179 : oneB Tryz.prog 179 = true := by kernel_rfl
theorem by179 : bytesB Tryz.prog 179 = some 8 := by kernel_rfl
theorem zo179 : ([.nilFunc] : List Value).all (·.oneCell') = true := by kernel_rfl
theorem z179 : zeroB Tryz.prog 179 = some [.nilFunc] := by kernel_rfl
theorem sz180 : sizeB Tryz.prog 180 = some 115 := by kernel_rfl
theorem agg180 : aggB Tryz.prog 180 = true := by kernel_rfl
theorem by180 : bytesB Tryz.prog 180 = some 1840 := by kernel_rfl
theorem bl180 : ∀ ps, Tryz.prog.built 180 ps = Instr.fill (fun i => some (i * 5, 5)) ([.string (ByteArray.mk #[]), .int .i64 0, .int .i64 0, .slice none 0 0, .slice none 0 0, .string (ByteArray.mk #[]), .int .i64 0, .int .i64 0, .slice none 0 0, .slice none 0 0, .string (ByteArray.mk #[]), .int .i64 0, .int .i64 0, .slice none 0 0, .slice none 0 0, .string (ByteArray.mk #[]), .int .i64 0, .int .i64 0, .slice none 0 0, .slice none 0 0, .string (ByteArray.mk #[]), .int .i64 0, .int .i64 0, .slice none 0 0, .slice none 0 0, .string (ByteArray.mk #[]), .int .i64 0, .int .i64 0, .slice none 0 0, .slice none 0 0, .string (ByteArray.mk #[]), .int .i64 0, .int .i64 0, .slice none 0 0, .slice none 0 0, .string (ByteArray.mk #[]), .int .i64 0, .int .i64 0, .slice none 0 0, .slice none 0 0, .string (ByteArray.mk #[]), .int .i64 0, .int .i64 0, .slice none 0 0, .slice none 0 0, .string (ByteArray.mk #[]), .int .i64 0, .int .i64 0, .slice none 0 0, .slice none 0 0, .string (ByteArray.mk #[]), .int .i64 0, .int .i64 0, .slice none 0 0, .slice none 0 0, .string (ByteArray.mk #[]), .int .i64 0, .int .i64 0, .slice none 0 0, .slice none 0 0, .string (ByteArray.mk #[]), .int .i64 0, .int .i64 0, .slice none 0 0, .slice none 0 0, .string (ByteArray.mk #[]), .int .i64 0, .int .i64 0, .slice none 0 0, .slice none 0 0, .string (ByteArray.mk #[]), .int .i64 0, .int .i64 0, .slice none 0 0, .slice none 0 0, .string (ByteArray.mk #[]), .int .i64 0, .int .i64 0, .slice none 0 0, .slice none 0 0, .string (ByteArray.mk #[]), .int .i64 0, .int .i64 0, .slice none 0 0, .slice none 0 0, .string (ByteArray.mk #[]), .int .i64 0, .int .i64 0, .slice none 0 0, .slice none 0 0, .string (ByteArray.mk #[]), .int .i64 0, .int .i64 0, .slice none 0 0, .slice none 0 0, .string (ByteArray.mk #[]), .int .i64 0, .int .i64 0, .slice none 0 0, .slice none 0 0, .string (ByteArray.mk #[]), .int .i64 0, .int .i64 0, .slice none 0 0, .slice none 0 0, .string (ByteArray.mk #[]), .int .i64 0, .int .i64 0, .slice none 0 0, .slice none 0 0, .string (ByteArray.mk #[]), .int .i64 0, .int .i64 0, .slice none 0 0, .slice none 0 0] : List Value).toArray ps := by intro ps; kernel_rfl
theorem zo180 : ([.string (ByteArray.mk #[]), .int .i64 0, .int .i64 0, .slice none 0 0, .slice none 0 0, .string (ByteArray.mk #[]), .int .i64 0, .int .i64 0, .slice none 0 0, .slice none 0 0, .string (ByteArray.mk #[]), .int .i64 0, .int .i64 0, .slice none 0 0, .slice none 0 0, .string (ByteArray.mk #[]), .int .i64 0, .int .i64 0, .slice none 0 0, .slice none 0 0, .string (ByteArray.mk #[]), .int .i64 0, .int .i64 0, .slice none 0 0, .slice none 0 0, .string (ByteArray.mk #[]), .int .i64 0, .int .i64 0, .slice none 0 0, .slice none 0 0, .string (ByteArray.mk #[]), .int .i64 0, .int .i64 0, .slice none 0 0, .slice none 0 0, .string (ByteArray.mk #[]), .int .i64 0, .int .i64 0, .slice none 0 0, .slice none 0 0, .string (ByteArray.mk #[]), .int .i64 0, .int .i64 0, .slice none 0 0, .slice none 0 0, .string (ByteArray.mk #[]), .int .i64 0, .int .i64 0, .slice none 0 0, .slice none 0 0, .string (ByteArray.mk #[]), .int .i64 0, .int .i64 0, .slice none 0 0, .slice none 0 0, .string (ByteArray.mk #[]), .int .i64 0, .int .i64 0, .slice none 0 0, .slice none 0 0, .string (ByteArray.mk #[]), .int .i64 0, .int .i64 0, .slice none 0 0, .slice none 0 0, .string (ByteArray.mk #[]), .int .i64 0, .int .i64 0, .slice none 0 0, .slice none 0 0, .string (ByteArray.mk #[]), .int .i64 0, .int .i64 0, .slice none 0 0, .slice none 0 0, .string (ByteArray.mk #[]), .int .i64 0, .int .i64 0, .slice none 0 0, .slice none 0 0, .string (ByteArray.mk #[]), .int .i64 0, .int .i64 0, .slice none 0 0, .slice none 0 0, .string (ByteArray.mk #[]), .int .i64 0, .int .i64 0, .slice none 0 0, .slice none 0 0, .string (ByteArray.mk #[]), .int .i64 0, .int .i64 0, .slice none 0 0, .slice none 0 0, .string (ByteArray.mk #[]), .int .i64 0, .int .i64 0, .slice none 0 0, .slice none 0 0, .string (ByteArray.mk #[]), .int .i64 0, .int .i64 0, .slice none 0 0, .slice none 0 0, .string (ByteArray.mk #[]), .int .i64 0, .int .i64 0, .slice none 0 0, .slice none 0 0, .string (ByteArray.mk #[]), .int .i64 0, .int .i64 0, .slice none 0 0, .slice none 0 0] : List Value).all (·.oneCell') = true := by kernel_rfl
theorem z180 : zeroB Tryz.prog 180 = some [.string (ByteArray.mk #[]), .int .i64 0, .int .i64 0, .slice none 0 0, .slice none 0 0, .string (ByteArray.mk #[]), .int .i64 0, .int .i64 0, .slice none 0 0, .slice none 0 0, .string (ByteArray.mk #[]), .int .i64 0, .int .i64 0, .slice none 0 0, .slice none 0 0, .string (ByteArray.mk #[]), .int .i64 0, .int .i64 0, .slice none 0 0, .slice none 0 0, .string (ByteArray.mk #[]), .int .i64 0, .int .i64 0, .slice none 0 0, .slice none 0 0, .string (ByteArray.mk #[]), .int .i64 0, .int .i64 0, .slice none 0 0, .slice none 0 0, .string (ByteArray.mk #[]), .int .i64 0, .int .i64 0, .slice none 0 0, .slice none 0 0, .string (ByteArray.mk #[]), .int .i64 0, .int .i64 0, .slice none 0 0, .slice none 0 0, .string (ByteArray.mk #[]), .int .i64 0, .int .i64 0, .slice none 0 0, .slice none 0 0, .string (ByteArray.mk #[]), .int .i64 0, .int .i64 0, .slice none 0 0, .slice none 0 0, .string (ByteArray.mk #[]), .int .i64 0, .int .i64 0, .slice none 0 0, .slice none 0 0, .string (ByteArray.mk #[]), .int .i64 0, .int .i64 0, .slice none 0 0, .slice none 0 0, .string (ByteArray.mk #[]), .int .i64 0, .int .i64 0, .slice none 0 0, .slice none 0 0, .string (ByteArray.mk #[]), .int .i64 0, .int .i64 0, .slice none 0 0, .slice none 0 0, .string (ByteArray.mk #[]), .int .i64 0, .int .i64 0, .slice none 0 0, .slice none 0 0, .string (ByteArray.mk #[]), .int .i64 0, .int .i64 0, .slice none 0 0, .slice none 0 0, .string (ByteArray.mk #[]), .int .i64 0, .int .i64 0, .slice none 0 0, .slice none 0 0, .string (ByteArray.mk #[]), .int .i64 0, .int .i64 0, .slice none 0 0, .slice none 0 0, .string (ByteArray.mk #[]), .int .i64 0, .int .i64 0, .slice none 0 0, .slice none 0 0, .string (ByteArray.mk #[]), .int .i64 0, .int .i64 0, .slice none 0 0, .slice none 0 0, .string (ByteArray.mk #[]), .int .i64 0, .int .i64 0, .slice none 0 0, .slice none 0 0, .string (ByteArray.mk #[]), .int .i64 0, .int .i64 0, .slice none 0 0, .slice none 0 0, .string (ByteArray.mk #[]), .int .i64 0, .int .i64 0, .slice none 0 0, .slice none 0 0] := by kernel_rfl
theorem sz181 : sizeB Tryz.prog 181 = some 1 := by kernel_rfl
theorem one181 : oneB Tryz.prog 181 = true := by kernel_rfl
theorem by181 : bytesB Tryz.prog 181 = some 8 := by kernel_rfl
theorem zo181 : ([.nilFunc] : List Value).all (·.oneCell') = true := by kernel_rfl
theorem z181 : zeroB Tryz.prog 181 = some [.nilFunc] := by kernel_rfl
theorem sz182 : sizeB Tryz.prog 182 = some 1 := by kernel_rfl
theorem one182 : oneB Tryz.prog 182 = true := by kernel_rfl
theorem by182 : bytesB Tryz.prog 182 = some 8 := by kernel_rfl
theorem zo182 : ([.nilFunc] : List Value).all (·.oneCell') = true := by kernel_rfl
theorem z182 : zeroB Tryz.prog 182 = some [.nilFunc] := by kernel_rfl
theorem sz183 : sizeB Tryz.prog 183 = some 2 := by kernel_rfl
theorem agg183 : aggB Tryz.prog 183 = true := by kernel_rfl
theorem by183 : bytesB Tryz.prog 183 = some 16 := by kernel_rfl
theorem bl183 : ∀ ps, Tryz.prog.built 183 ps = Instr.fill (fun i => some (i * 1, 1)) ((List.replicate 2 (.int .i64 0)) : List Value).toArray ps := by intro ps; kernel_rfl
theorem zo183 : ((List.replicate 2 (.int .i64 0)) : List Value).all (·.oneCell') = true := by kernel_rfl
theorem z183 : zeroB Tryz.prog 183 = some (List.replicate 2 (.int .i64 0)) := by kernel_rfl
theorem sz184 : sizeB Tryz.prog 184 = some 10 := by kernel_rfl
theorem agg184 : aggB Tryz.prog 184 = true := by kernel_rfl
theorem by184 : bytesB Tryz.prog 184 = some 80 := by kernel_rfl
theorem bl184 : ∀ ps, Tryz.prog.built 184 ps = Instr.fill (fun i => some (i * 2, 2)) ((List.replicate 10 (.int .i64 0)) : List Value).toArray ps := by intro ps; kernel_rfl
theorem zo184 : ((List.replicate 10 (.int .i64 0)) : List Value).all (·.oneCell') = true := by kernel_rfl
theorem z184 : zeroB Tryz.prog 184 = some (List.replicate 10 (.int .i64 0)) := by kernel_rfl
theorem sz185 : sizeB Tryz.prog 185 = some 1 := by kernel_rfl
theorem one185 : oneB Tryz.prog 185 = true := by kernel_rfl
theorem by185 : bytesB Tryz.prog 185 = some 8 := by kernel_rfl
theorem zo185 : ([.nilFunc] : List Value).all (·.oneCell') = true := by kernel_rfl
theorem z185 : zeroB Tryz.prog 185 = some [.nilFunc] := by kernel_rfl
theorem sz186 : sizeB Tryz.prog 186 = some 4 := by kernel_rfl
theorem agg186 : aggB Tryz.prog 186 = true := by kernel_rfl
theorem by186 : bytesB Tryz.prog 186 = some 40 := by kernel_rfl
theorem bl186 : ∀ ps, Tryz.prog.built 186 ps = Instr.fill (fun i => (#[(0, 1), (1, 1), (2, 1), (3, 1)] : Array (Nat × Nat))[i]?) ([.pointer none, .pointer none, .pointer none, .string (ByteArray.mk #[])] : List Value).toArray ps := by intro ps; kernel_rfl
theorem zo186 : ([.pointer none, .pointer none, .pointer none, .string (ByteArray.mk #[])] : List Value).all (·.oneCell') = true := by kernel_rfl
theorem z186 : zeroB Tryz.prog 186 = some [.pointer none, .pointer none, .pointer none, .string (ByteArray.mk #[])] := by kernel_rfl
theorem fo186_0 : fieldOff Tryz.prog 186 0 = some 0 := by kernel_rfl
theorem fo186_1 : fieldOff Tryz.prog 186 1 = some 1 := by kernel_rfl
theorem fo186_2 : fieldOff Tryz.prog 186 2 = some 2 := by kernel_rfl
theorem fo186_3 : fieldOff Tryz.prog 186 3 = some 3 := by kernel_rfl
theorem sz187 : sizeB Tryz.prog 187 = some 4 := by kernel_rfl
theorem agg187 : aggB Tryz.prog 187 = true := by kernel_rfl
theorem by187 : bytesB Tryz.prog 187 = some 40 := by kernel_rfl
theorem bl187 : ∀ ps, Tryz.prog.built 187 ps = Instr.fill (fun i => (#[(0, 1), (1, 1), (2, 1), (3, 1)] : Array (Nat × Nat))[i]?) ([.pointer none, .pointer none, .pointer none, .string (ByteArray.mk #[])] : List Value).toArray ps := by intro ps; kernel_rfl
theorem zo187 : ([.pointer none, .pointer none, .pointer none, .string (ByteArray.mk #[])] : List Value).all (·.oneCell') = true := by kernel_rfl
theorem z187 : zeroB Tryz.prog 187 = some [.pointer none, .pointer none, .pointer none, .string (ByteArray.mk #[])] := by kernel_rfl
theorem fo187_0 : fieldOff Tryz.prog 187 0 = some 0 := by kernel_rfl
theorem fo187_1 : fieldOff Tryz.prog 187 1 = some 1 := by kernel_rfl
theorem fo187_2 : fieldOff Tryz.prog 187 2 = some 2 := by kernel_rfl
theorem fo187_3 : fieldOff Tryz.prog 187 3 = some 3 := by kernel_rfl
theorem sz188 : sizeB Tryz.prog 188 = some 0 := by kernel_rfl
theorem agg188 : aggB Tryz.prog 188 = true := by kernel_rfl
theorem by188 : bytesB Tryz.prog 188 = some 0 := by kernel_rfl
theorem bl188 : ∀ ps, Tryz.prog.built 188 ps = Instr.fill (fun i => some (i * 1, 1)) ([] : List Value).toArray ps := by intro ps; kernel_rfl
theorem zo188 : ([] : List Value).all (·.oneCell') = true := by kernel_rfl
theorem z188 : zeroB Tryz.prog 188 = some [] := by kernel_rfl
theorem sz189 : sizeB Tryz.prog 189 = some 0 := by kernel_rfl
theorem agg189 : aggB Tryz.prog 189 = true := by kernel_rfl
theorem by189 : bytesB Tryz.prog 189 = some 0 := by kernel_rfl
theorem bl189 : ∀ ps, Tryz.prog.built 189 ps = Instr.fill (fun i => (#[(0, 0)] : Array (Nat × Nat))[i]?) ([] : List Value).toArray ps := by intro ps; kernel_rfl
theorem zo189 : ([] : List Value).all (·.oneCell') = true := by kernel_rfl
theorem z189 : zeroB Tryz.prog 189 = some [] := by kernel_rfl
theorem sz190 : sizeB Tryz.prog 190 = some 0 := by kernel_rfl
theorem agg190 : aggB Tryz.prog 190 = true := by kernel_rfl
theorem by190 : bytesB Tryz.prog 190 = some 0 := by kernel_rfl
theorem bl190 : ∀ ps, Tryz.prog.built 190 ps = Instr.fill (fun i => (#[(0, 0)] : Array (Nat × Nat))[i]?) ([] : List Value).toArray ps := by intro ps; kernel_rfl
theorem zo190 : ([] : List Value).all (·.oneCell') = true := by kernel_rfl
theorem z190 : zeroB Tryz.prog 190 = some [] := by kernel_rfl
theorem sz191 : sizeB Tryz.prog 191 = some 1 := by kernel_rfl
theorem one191 : oneB Tryz.prog 191 = true := by kernel_rfl
theorem by191 : bytesB Tryz.prog 191 = some 1 := by kernel_rfl
theorem zo191 : ([.int .u8 0] : List Value).all (·.oneCell') = true := by kernel_rfl
theorem z191 : zeroB Tryz.prog 191 = some [.int .u8 0] := by kernel_rfl
theorem sz192 : sizeB Tryz.prog 192 = some 1 := by kernel_rfl
theorem one192 : oneB Tryz.prog 192 = true := by kernel_rfl
theorem by192 : bytesB Tryz.prog 192 = some 1 := by kernel_rfl
theorem zo192 : ([.int .u8 0] : List Value).all (·.oneCell') = true := by kernel_rfl
theorem z192 : zeroB Tryz.prog 192 = some [.int .u8 0] := by kernel_rfl
theorem sz193 : sizeB Tryz.prog 193 = some 1 := by kernel_rfl
theorem one193 : oneB Tryz.prog 193 = true := by kernel_rfl
theorem by193 : bytesB Tryz.prog 193 = some 8 := by kernel_rfl
theorem zo193 : ([.nilFunc] : List Value).all (·.oneCell') = true := by kernel_rfl
theorem z193 : zeroB Tryz.prog 193 = some [.nilFunc] := by kernel_rfl
theorem sz194 : sizeB Tryz.prog 194 = some 1 := by kernel_rfl
theorem one194 : oneB Tryz.prog 194 = true := by kernel_rfl
theorem by194 : bytesB Tryz.prog 194 = some 8 := by kernel_rfl
theorem zo194 : ([.pointer none] : List Value).all (·.oneCell') = true := by kernel_rfl
theorem z194 : zeroB Tryz.prog 194 = some [.pointer none] := by kernel_rfl
theorem sz195 : sizeB Tryz.prog 195 = some 1 := by kernel_rfl
theorem one195 : oneB Tryz.prog 195 = true := by kernel_rfl
theorem by195 : bytesB Tryz.prog 195 = some 4 := by kernel_rfl
theorem zo195 : ([.int .i32 0] : List Value).all (·.oneCell') = true := by kernel_rfl
theorem z195 : zeroB Tryz.prog 195 = some [.int .i32 0] := by kernel_rfl
theorem sz196 : sizeB Tryz.prog 196 = some 1 := by kernel_rfl
theorem one196 : oneB Tryz.prog 196 = true := by kernel_rfl
theorem by196 : bytesB Tryz.prog 196 = some 4 := by kernel_rfl
theorem zo196 : ([.int .i32 0] : List Value).all (·.oneCell') = true := by kernel_rfl
theorem z196 : zeroB Tryz.prog 196 = some [.int .i32 0] := by kernel_rfl
theorem sz197 : sizeB Tryz.prog 197 = some 11 := by kernel_rfl
theorem agg197 : aggB Tryz.prog 197 = true := by kernel_rfl
theorem by197 : bytesB Tryz.prog 197 = some 48 := by kernel_rfl
theorem bl197 : ∀ ps, Tryz.prog.built 197 ps = Instr.fill (fun i => (#[(0, 1), (1, 1), (2, 1), (3, 1), (4, 1), (5, 1), (6, 1), (7, 1), (8, 1), (9, 1), (10, 1)] : Array (Nat × Nat))[i]?) ([.int .u64 0, .int .u64 0, .int .u32 0, .int .u8 0, .int .u8 0, .int .u8 0, .int .u8 0, .nilFunc, .pointer none, .int .i32 0, .int .i32 0] : List Value).toArray ps := by intro ps; kernel_rfl
theorem zo197 : ([.int .u64 0, .int .u64 0, .int .u32 0, .int .u8 0, .int .u8 0, .int .u8 0, .int .u8 0, .nilFunc, .pointer none, .int .i32 0, .int .i32 0] : List Value).all (·.oneCell') = true := by kernel_rfl
theorem z197 : zeroB Tryz.prog 197 = some [.int .u64 0, .int .u64 0, .int .u32 0, .int .u8 0, .int .u8 0, .int .u8 0, .int .u8 0, .nilFunc, .pointer none, .int .i32 0, .int .i32 0] := by kernel_rfl
theorem fo197_0 : fieldOff Tryz.prog 197 0 = some 0 := by kernel_rfl
theorem fo197_1 : fieldOff Tryz.prog 197 1 = some 1 := by kernel_rfl
theorem fo197_2 : fieldOff Tryz.prog 197 2 = some 2 := by kernel_rfl
theorem fo197_3 : fieldOff Tryz.prog 197 3 = some 3 := by kernel_rfl
theorem fo197_4 : fieldOff Tryz.prog 197 4 = some 4 := by kernel_rfl
theorem fo197_5 : fieldOff Tryz.prog 197 5 = some 5 := by kernel_rfl
theorem fo197_6 : fieldOff Tryz.prog 197 6 = some 6 := by kernel_rfl
theorem fo197_7 : fieldOff Tryz.prog 197 7 = some 7 := by kernel_rfl
theorem fo197_8 : fieldOff Tryz.prog 197 8 = some 8 := by kernel_rfl
theorem fo197_9 : fieldOff Tryz.prog 197 9 = some 9 := by kernel_rfl
theorem fo197_10 : fieldOff Tryz.prog 197 10 = some 10 := by kernel_rfl
theorem sz198 : sizeB Tryz.prog 198 = some 11 := by kernel_rfl
theorem agg198 : aggB Tryz.prog 198 = true := by kernel_rfl
theorem by198 : bytesB Tryz.prog 198 = some 48 := by kernel_rfl
theorem bl198 : ∀ ps, Tryz.prog.built 198 ps = Instr.fill (fun i => (#[(0, 1), (1, 1), (2, 1), (3, 1), (4, 1), (5, 1), (6, 1), (7, 1), (8, 1), (9, 1), (10, 1)] : Array (Nat × Nat))[i]?) ([.int .u64 0, .int .u64 0, .int .u32 0, .int .u8 0, .int .u8 0, .int .u8 0, .int .u8 0, .nilFunc, .pointer none, .int .i32 0, .int .i32 0] : List Value).toArray ps := by intro ps; kernel_rfl
theorem zo198 : ([.int .u64 0, .int .u64 0, .int .u32 0, .int .u8 0, .int .u8 0, .int .u8 0, .int .u8 0, .nilFunc, .pointer none, .int .i32 0, .int .i32 0] : List Value).all (·.oneCell') = true := by kernel_rfl
theorem z198 : zeroB Tryz.prog 198 = some [.int .u64 0, .int .u64 0, .int .u32 0, .int .u8 0, .int .u8 0, .int .u8 0, .int .u8 0, .nilFunc, .pointer none, .int .i32 0, .int .i32 0] := by kernel_rfl
theorem fo198_0 : fieldOff Tryz.prog 198 0 = some 0 := by kernel_rfl
theorem fo198_1 : fieldOff Tryz.prog 198 1 = some 1 := by kernel_rfl
theorem fo198_2 : fieldOff Tryz.prog 198 2 = some 2 := by kernel_rfl
theorem fo198_3 : fieldOff Tryz.prog 198 3 = some 3 := by kernel_rfl
theorem fo198_4 : fieldOff Tryz.prog 198 4 = some 4 := by kernel_rfl
theorem fo198_5 : fieldOff Tryz.prog 198 5 = some 5 := by kernel_rfl
theorem fo198_6 : fieldOff Tryz.prog 198 6 = some 6 := by kernel_rfl
theorem fo198_7 : fieldOff Tryz.prog 198 7 = some 7 := by kernel_rfl
theorem fo198_8 : fieldOff Tryz.prog 198 8 = some 8 := by kernel_rfl
theorem fo198_9 : fieldOff Tryz.prog 198 9 = some 9 := by kernel_rfl
theorem fo198_10 : fieldOff Tryz.prog 198 10 = some 10 := by kernel_rfl
theorem sz199 : sizeB Tryz.prog 199 = some 1 := by kernel_rfl
theorem one199 : oneB Tryz.prog 199 = true := by kernel_rfl
theorem by199 : bytesB Tryz.prog 199 = some 8 := by kernel_rfl
end Go.Proofs.YthmnoekgicggnaaGreat
