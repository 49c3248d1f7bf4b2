import Derived.Test.YtjmbbhnpfmblpaaKYield
/- Closed facts of the types, by number; written by a program (ktypes.py). -/
namespace Go.Proofs.Ytjmbbhnpfmblpaa
open Go
theorem mixed : Try.prog.follows .mixedOrders = true := by kernel_rfl
theorem ct2 : cellTy Try.prog 2 = true := by kernel_rfl
theorem cs2 : cellSz Try.prog 2 = some 1 := by kernel_rfl
theorem zc2 : zeroCells Try.prog 2 = some [Value.int .i64 0] := by kernel_rfl
theorem ct3 : cellTy Try.prog 3 = true := by kernel_rfl
theorem cs3 : cellSz Try.prog 3 = some 1 := by kernel_rfl
theorem zc3 : zeroCells Try.prog 3 = some [Value.int .i64 0] := by kernel_rfl
theorem ct4 : cellTy Try.prog 4 = true := by kernel_rfl
theorem cs4 : cellSz Try.prog 4 = some 1 := by kernel_rfl
theorem zc4 : zeroCells Try.prog 4 = some [Value.bool false] := by kernel_rfl
theorem ct5 : cellTy Try.prog 5 = true := by kernel_rfl
theorem cs5 : cellSz Try.prog 5 = some 1 := by kernel_rfl
theorem zc5 : zeroCells Try.prog 5 = some [Value.int .u8 0] := by kernel_rfl
theorem ct9 : cellTy Try.prog 9 = true := by kernel_rfl
theorem cs9 : cellSz Try.prog 9 = some 1 := by kernel_rfl
theorem zc9 : zeroCells Try.prog 9 = some [Value.string .empty] := by kernel_rfl
theorem ct21 : cellTy Try.prog 21 = true := by kernel_rfl
theorem cs21 : cellSz Try.prog 21 = some 1 := by kernel_rfl
theorem zc21 : zeroCells Try.prog 21 = some [Value.int .i32 0] := by kernel_rfl
theorem ct22 : cellTy Try.prog 22 = true := by kernel_rfl
theorem cs22 : cellSz Try.prog 22 = some 1 := by kernel_rfl
theorem zc22 : zeroCells Try.prog 22 = some [Value.slice none 0 0] := by kernel_rfl
theorem el22 : eltOf Try.prog 22 = some 1 := by kernel_rfl
theorem sl22 : SlTy Try.prog 22 29 1 24 := .mk' (by kernel_rfl) (by kernel_rfl)
theorem ct26 : cellTy Try.prog 26 = true := by kernel_rfl
theorem cs26 : cellSz Try.prog 26 = some 1 := by kernel_rfl
theorem zc26 : zeroCells Try.prog 26 = some [Value.pointer none] := by kernel_rfl
theorem ct29 : cellTy Try.prog 29 = true := by kernel_rfl
theorem cs29 : cellSz Try.prog 29 = some 1 := by kernel_rfl
theorem zc29 : zeroCells Try.prog 29 = some [Value.slice none 0 0] := by kernel_rfl
theorem el29 : eltOf Try.prog 29 = some 1 := by kernel_rfl
theorem sl29 : SlTy Try.prog 29 5 1 1 := .mk' (by kernel_rfl) (by kernel_rfl)
theorem rt30 : rowTy Try.prog 30 = some 32 := by kernel_rfl
theorem cs30 : cellSz Try.prog 30 = some 32 := by kernel_rfl
theorem zc30 : zeroCells Try.prog 30 = some (List.replicate 32 (Value.int .u8 0)) := by kernel_rfl
theorem ar30 : arrOf Try.prog 30 = some (32, 1) := by kernel_rfl
theorem bd30 : Bld Try.prog 30 ((List.replicate 32 (Value.int .u8 0))).toArray (fun i => some (i * 1, 1)) := Bld.arr ar30 zc30
theorem rt31 : rowTy Try.prog 31 = some 32 := by kernel_rfl
theorem cs31 : cellSz Try.prog 31 = some 32 := by kernel_rfl
theorem zc31 : zeroCells Try.prog 31 = some (List.replicate 32 (Value.int .u8 0)) := by kernel_rfl
theorem ar31 : arrOf Try.prog 31 = some (32, 1) := by kernel_rfl
theorem bd31 : Bld Try.prog 31 ((List.replicate 32 (Value.int .u8 0))).toArray (fun i => some (i * 1, 1)) := Bld.arr ar31 zc31
theorem ct35 : cellTy Try.prog 35 = true := by kernel_rfl
theorem cs35 : cellSz Try.prog 35 = some 1 := by kernel_rfl
theorem zc35 : zeroCells Try.prog 35 = some [Value.int .u64 0] := by kernel_rfl
theorem ct39 : cellTy Try.prog 39 = true := by kernel_rfl
theorem cs39 : cellSz Try.prog 39 = some 1 := by kernel_rfl
theorem zc39 : zeroCells Try.prog 39 = some [Value.slice none 0 0] := by kernel_rfl
theorem el39 : eltOf Try.prog 39 = some 1 := by kernel_rfl
theorem sl39 : SlTy Try.prog 39 3 1 8 := .mk' (by kernel_rfl) (by kernel_rfl)
theorem ct48 : cellTy Try.prog 48 = true := by kernel_rfl
theorem cs48 : cellSz Try.prog 48 = some 1 := by kernel_rfl
theorem zc48 : zeroCells Try.prog 48 = some [Value.int .u32 0] := by kernel_rfl
theorem rt49 : rowTy Try.prog 49 = some 8 := by kernel_rfl
theorem cs49 : cellSz Try.prog 49 = some 8 := by kernel_rfl
theorem zc49 : zeroCells Try.prog 49 = some (List.replicate 8 (Value.int .u32 0)) := by kernel_rfl
theorem ar49 : arrOf Try.prog 49 = some (8, 1) := by kernel_rfl
theorem bd49 : Bld Try.prog 49 ((List.replicate 8 (Value.int .u32 0))).toArray (fun i => some (i * 1, 1)) := Bld.arr ar49 zc49
theorem rt50 : rowTy Try.prog 50 = some 64 := by kernel_rfl
theorem cs50 : cellSz Try.prog 50 = some 64 := by kernel_rfl
theorem zc50 : zeroCells Try.prog 50 = some (List.replicate 64 (Value.int .u8 0)) := by kernel_rfl
theorem ar50 : arrOf Try.prog 50 = some (64, 1) := by kernel_rfl
theorem bd50 : Bld Try.prog 50 ((List.replicate 64 (Value.int .u8 0))).toArray (fun i => some (i * 1, 1)) := Bld.arr ar50 zc50
theorem rt51 : rowTy Try.prog 51 = some 74 := by kernel_rfl
theorem cs51 : cellSz Try.prog 51 = some 74 := by kernel_rfl
theorem zc51 : zeroCells Try.prog 51 = some ([Value.bool false] ++ (List.replicate 8 (Value.int .u32 0)) ++ (List.replicate 64 (Value.int .u8 0)) ++ [Value.int .u64 0]) := by kernel_rfl
theorem fo51_0 : fieldOff Try.prog 51 0 = some 0 := by kernel_rfl
theorem fo51_1 : fieldOff Try.prog 51 1 = some 1 := by kernel_rfl
theorem fo51_2 : fieldOff Try.prog 51 2 = some 9 := by kernel_rfl
theorem fo51_3 : fieldOff Try.prog 51 3 = some 73 := by kernel_rfl
theorem pl51 : placesOf Try.prog 51 = some #[(0, 1), (1, 8), (9, 64), (73, 1)] := by kernel_rfl
theorem bd51 : Bld Try.prog 51 (([Value.bool false] ++ (List.replicate 8 (Value.int .u32 0)) ++ (List.replicate 64 (Value.int .u8 0)) ++ [Value.int .u64 0])).toArray (fun i => (#[(0, 1), (1, 8), (9, 64), (73, 1)] : Array (Nat × Nat))[i]?) := Bld.str pl51 zc51
theorem rt52 : rowTy Try.prog 52 = some 74 := by kernel_rfl
theorem cs52 : cellSz Try.prog 52 = some 74 := by kernel_rfl
theorem zc52 : zeroCells Try.prog 52 = some ([Value.bool false] ++ (List.replicate 8 (Value.int .u32 0)) ++ (List.replicate 64 (Value.int .u8 0)) ++ [Value.int .u64 0]) := by kernel_rfl
theorem fo52_0 : fieldOff Try.prog 52 0 = some 0 := by kernel_rfl
theorem fo52_1 : fieldOff Try.prog 52 1 = some 1 := by kernel_rfl
theorem fo52_2 : fieldOff Try.prog 52 2 = some 9 := by kernel_rfl
theorem fo52_3 : fieldOff Try.prog 52 3 = some 73 := by kernel_rfl
theorem pl52 : placesOf Try.prog 52 = some #[(0, 1), (1, 8), (9, 64), (73, 1)] := by kernel_rfl
theorem bd52 : Bld Try.prog 52 (([Value.bool false] ++ (List.replicate 8 (Value.int .u32 0)) ++ (List.replicate 64 (Value.int .u8 0)) ++ [Value.int .u64 0])).toArray (fun i => (#[(0, 1), (1, 8), (9, 64), (73, 1)] : Array (Nat × Nat))[i]?) := Bld.str pl52 zc52
theorem ct63 : cellTy Try.prog 63 = true := by kernel_rfl
theorem cs63 : cellSz Try.prog 63 = some 1 := by kernel_rfl
theorem zc63 : zeroCells Try.prog 63 = some [Value.int .i64 0] := by kernel_rfl
theorem ct73 : cellTy Try.prog 73 = true := by kernel_rfl
theorem cs73 : cellSz Try.prog 73 = some 1 := by kernel_rfl
theorem zc73 : zeroCells Try.prog 73 = some [Value.int .u8 0] := by kernel_rfl
theorem ct74 : cellTy Try.prog 74 = true := by kernel_rfl
theorem cs74 : cellSz Try.prog 74 = some 1 := by kernel_rfl
theorem zc74 : zeroCells Try.prog 74 = some [Value.slice none 0 0] := by kernel_rfl
theorem el74 : eltOf Try.prog 74 = some 2 := by kernel_rfl
theorem sl74 : SlTy Try.prog 74 78 2 16 := .mk' (by kernel_rfl) (by kernel_rfl)
theorem rt75 : rowTy Try.prog 75 = some 38 := by kernel_rfl
theorem cs75 : cellSz Try.prog 75 = some 38 := by kernel_rfl
theorem zc75 : zeroCells Try.prog 75 = some ([Value.int .u64 0] ++ [Value.string .empty] ++ [Value.int .u8 0] ++ [Value.int .i64 0] ++ [Value.int .i64 0] ++ [Value.slice none 0 0] ++ (List.replicate 32 (Value.int .u8 0))) := by kernel_rfl
theorem fo75_0 : fieldOff Try.prog 75 0 = some 0 := by kernel_rfl
theorem fo75_1 : fieldOff Try.prog 75 1 = some 1 := by kernel_rfl
theorem fo75_2 : fieldOff Try.prog 75 2 = some 2 := by kernel_rfl
theorem fo75_3 : fieldOff Try.prog 75 3 = some 3 := by kernel_rfl
theorem fo75_4 : fieldOff Try.prog 75 4 = some 4 := by kernel_rfl
theorem fo75_5 : fieldOff Try.prog 75 5 = some 5 := by kernel_rfl
theorem fo75_6 : fieldOff Try.prog 75 6 = some 6 := by kernel_rfl
theorem pl75 : placesOf Try.prog 75 = some #[(0, 1), (1, 1), (2, 1), (3, 1), (4, 1), (5, 1), (6, 32)] := by kernel_rfl
theorem bd75 : Bld Try.prog 75 (([Value.int .u64 0] ++ [Value.string .empty] ++ [Value.int .u8 0] ++ [Value.int .i64 0] ++ [Value.int .i64 0] ++ [Value.slice none 0 0] ++ (List.replicate 32 (Value.int .u8 0)))).toArray (fun i => (#[(0, 1), (1, 1), (2, 1), (3, 1), (4, 1), (5, 1), (6, 32)] : Array (Nat × Nat))[i]?) := Bld.str pl75 zc75
theorem rt76 : rowTy Try.prog 76 = some 38 := by kernel_rfl
theorem cs76 : cellSz Try.prog 76 = some 38 := by kernel_rfl
theorem zc76 : zeroCells Try.prog 76 = some ([Value.int .u64 0] ++ [Value.string .empty] ++ [Value.int .u8 0] ++ [Value.int .i64 0] ++ [Value.int .i64 0] ++ [Value.slice none 0 0] ++ (List.replicate 32 (Value.int .u8 0))) := by kernel_rfl
theorem fo76_0 : fieldOff Try.prog 76 0 = some 0 := by kernel_rfl
theorem fo76_1 : fieldOff Try.prog 76 1 = some 1 := by kernel_rfl
theorem fo76_2 : fieldOff Try.prog 76 2 = some 2 := by kernel_rfl
theorem fo76_3 : fieldOff Try.prog 76 3 = some 3 := by kernel_rfl
theorem fo76_4 : fieldOff Try.prog 76 4 = some 4 := by kernel_rfl
theorem fo76_5 : fieldOff Try.prog 76 5 = some 5 := by kernel_rfl
theorem fo76_6 : fieldOff Try.prog 76 6 = some 6 := by kernel_rfl
theorem pl76 : placesOf Try.prog 76 = some #[(0, 1), (1, 1), (2, 1), (3, 1), (4, 1), (5, 1), (6, 32)] := by kernel_rfl
theorem bd76 : Bld Try.prog 76 (([Value.int .u64 0] ++ [Value.string .empty] ++ [Value.int .u8 0] ++ [Value.int .i64 0] ++ [Value.int .i64 0] ++ [Value.slice none 0 0] ++ (List.replicate 32 (Value.int .u8 0)))).toArray (fun i => (#[(0, 1), (1, 1), (2, 1), (3, 1), (4, 1), (5, 1), (6, 32)] : Array (Nat × Nat))[i]?) := Bld.str pl76 zc76
theorem rt77 : rowTy Try.prog 77 = some 2 := by kernel_rfl
theorem cs77 : cellSz Try.prog 77 = some 2 := by kernel_rfl
theorem zc77 : zeroCells Try.prog 77 = some ([Value.int .u8 0] ++ [Value.int .i64 0]) := by kernel_rfl
theorem fo77_0 : fieldOff Try.prog 77 0 = some 0 := by kernel_rfl
theorem fo77_1 : fieldOff Try.prog 77 1 = some 1 := by kernel_rfl
theorem pl77 : placesOf Try.prog 77 = some #[(0, 1), (1, 1)] := by kernel_rfl
theorem bd77 : Bld Try.prog 77 (([Value.int .u8 0] ++ [Value.int .i64 0])).toArray (fun i => (#[(0, 1), (1, 1)] : Array (Nat × Nat))[i]?) := Bld.str pl77 zc77
theorem rt78 : rowTy Try.prog 78 = some 2 := by kernel_rfl
theorem cs78 : cellSz Try.prog 78 = some 2 := by kernel_rfl
theorem zc78 : zeroCells Try.prog 78 = some ([Value.int .u8 0] ++ [Value.int .i64 0]) := by kernel_rfl
theorem fo78_0 : fieldOff Try.prog 78 0 = some 0 := by kernel_rfl
theorem fo78_1 : fieldOff Try.prog 78 1 = some 1 := by kernel_rfl
theorem pl78 : placesOf Try.prog 78 = some #[(0, 1), (1, 1)] := by kernel_rfl
theorem bd78 : Bld Try.prog 78 (([Value.int .u8 0] ++ [Value.int .i64 0])).toArray (fun i => (#[(0, 1), (1, 1)] : Array (Nat × Nat))[i]?) := Bld.str pl78 zc78
theorem rt94 : rowTy Try.prog 94 = some 38 := by kernel_rfl
theorem cs94 : cellSz Try.prog 94 = some 38 := by kernel_rfl
theorem zc94 : zeroCells Try.prog 94 = some ([Value.int .i64 0] ++ [Value.int .i64 0] ++ [Value.int .u64 0] ++ [Value.string .empty] ++ [Value.int .i64 0] ++ [Value.int .i64 0] ++ (List.replicate 32 (Value.int .u8 0))) := by kernel_rfl
theorem fo94_0 : fieldOff Try.prog 94 0 = some 0 := by kernel_rfl
theorem fo94_1 : fieldOff Try.prog 94 1 = some 1 := by kernel_rfl
theorem fo94_2 : fieldOff Try.prog 94 2 = some 2 := by kernel_rfl
theorem fo94_3 : fieldOff Try.prog 94 3 = some 3 := by kernel_rfl
theorem fo94_4 : fieldOff Try.prog 94 4 = some 4 := by kernel_rfl
theorem fo94_5 : fieldOff Try.prog 94 5 = some 5 := by kernel_rfl
theorem fo94_6 : fieldOff Try.prog 94 6 = some 6 := by kernel_rfl
theorem pl94 : placesOf Try.prog 94 = some #[(0, 1), (1, 1), (2, 1), (3, 1), (4, 1), (5, 1), (6, 32)] := by kernel_rfl
theorem bd94 : Bld Try.prog 94 (([Value.int .i64 0] ++ [Value.int .i64 0] ++ [Value.int .u64 0] ++ [Value.string .empty] ++ [Value.int .i64 0] ++ [Value.int .i64 0] ++ (List.replicate 32 (Value.int .u8 0)))).toArray (fun i => (#[(0, 1), (1, 1), (2, 1), (3, 1), (4, 1), (5, 1), (6, 32)] : Array (Nat × Nat))[i]?) := Bld.str pl94 zc94
theorem rt95 : rowTy Try.prog 95 = some 38 := by kernel_rfl
theorem cs95 : cellSz Try.prog 95 = some 38 := by kernel_rfl
theorem zc95 : zeroCells Try.prog 95 = some ([Value.int .i64 0] ++ [Value.int .i64 0] ++ [Value.int .u64 0] ++ [Value.string .empty] ++ [Value.int .i64 0] ++ [Value.int .i64 0] ++ (List.replicate 32 (Value.int .u8 0))) := by kernel_rfl
theorem fo95_0 : fieldOff Try.prog 95 0 = some 0 := by kernel_rfl
theorem fo95_1 : fieldOff Try.prog 95 1 = some 1 := by kernel_rfl
theorem fo95_2 : fieldOff Try.prog 95 2 = some 2 := by kernel_rfl
theorem fo95_3 : fieldOff Try.prog 95 3 = some 3 := by kernel_rfl
theorem fo95_4 : fieldOff Try.prog 95 4 = some 4 := by kernel_rfl
theorem fo95_5 : fieldOff Try.prog 95 5 = some 5 := by kernel_rfl
theorem fo95_6 : fieldOff Try.prog 95 6 = some 6 := by kernel_rfl
theorem pl95 : placesOf Try.prog 95 = some #[(0, 1), (1, 1), (2, 1), (3, 1), (4, 1), (5, 1), (6, 32)] := by kernel_rfl
theorem bd95 : Bld Try.prog 95 (([Value.int .i64 0] ++ [Value.int .i64 0] ++ [Value.int .u64 0] ++ [Value.string .empty] ++ [Value.int .i64 0] ++ [Value.int .i64 0] ++ (List.replicate 32 (Value.int .u8 0)))).toArray (fun i => (#[(0, 1), (1, 1), (2, 1), (3, 1), (4, 1), (5, 1), (6, 32)] : Array (Nat × Nat))[i]?) := Bld.str pl95 zc95
theorem ct97 : cellTy Try.prog 97 = true := by kernel_rfl
theorem cs97 : cellSz Try.prog 97 = some 1 := by kernel_rfl
theorem zc97 : zeroCells Try.prog 97 = some [Value.slice none 0 0] := by kernel_rfl
theorem el97 : eltOf Try.prog 97 = some 38 := by kernel_rfl
theorem sl97 : SlTy Try.prog 97 95 38 88 := .mk' (by kernel_rfl) (by kernel_rfl)
theorem ct118 : cellTy Try.prog 118 = true := by kernel_rfl
theorem cs118 : cellSz Try.prog 118 = some 1 := by kernel_rfl
theorem zc118 : zeroCells Try.prog 118 = some [Value.int .u64 0] := by kernel_rfl
theorem rt119 : rowTy Try.prog 119 = some 64 := by kernel_rfl
theorem cs119 : cellSz Try.prog 119 = some 64 := by kernel_rfl
theorem zc119 : zeroCells Try.prog 119 = some (List.replicate 64 (Value.int .u64 0)) := by kernel_rfl
theorem ar119 : arrOf Try.prog 119 = some (64, 1) := by kernel_rfl
theorem bd119 : Bld Try.prog 119 ((List.replicate 64 (Value.int .u64 0))).toArray (fun i => some (i * 1, 1)) := Bld.arr ar119 zc119
theorem rt121 : rowTy Try.prog 121 = some 8 := by kernel_rfl
theorem cs121 : cellSz Try.prog 121 = some 8 := by kernel_rfl
theorem zc121 : zeroCells Try.prog 121 = some (List.replicate 8 (Value.int .u64 0)) := by kernel_rfl
theorem ar121 : arrOf Try.prog 121 = some (8, 1) := by kernel_rfl
theorem bd121 : Bld Try.prog 121 ((List.replicate 8 (Value.int .u64 0))).toArray (fun i => some (i * 1, 1)) := Bld.arr ar121 zc121
theorem rt137 : rowTy Try.prog 137 = some 3 := by kernel_rfl
theorem cs137 : cellSz Try.prog 137 = some 3 := by kernel_rfl
theorem zc137 : zeroCells Try.prog 137 = some (List.replicate 3 (Value.int .u64 0)) := by kernel_rfl
theorem ar137 : arrOf Try.prog 137 = some (3, 1) := by kernel_rfl
theorem bd137 : Bld Try.prog 137 ((List.replicate 3 (Value.int .u64 0))).toArray (fun i => some (i * 1, 1)) := Bld.arr ar137 zc137
theorem ct138 : cellTy Try.prog 138 = true := by kernel_rfl
theorem cs138 : cellSz Try.prog 138 = some 1 := by kernel_rfl
theorem zc138 : zeroCells Try.prog 138 = some [Value.slice none 0 0] := by kernel_rfl
theorem el138 : eltOf Try.prog 138 = some 33 := by kernel_rfl
theorem sl138 : SlTy Try.prog 138 141 33 56 := .mk' (by kernel_rfl) (by kernel_rfl)
theorem rt140 : rowTy Try.prog 140 = some 33 := by kernel_rfl
theorem cs140 : cellSz Try.prog 140 = some 33 := by kernel_rfl
theorem zc140 : zeroCells Try.prog 140 = some ((List.replicate 32 (Value.int .u8 0)) ++ [Value.slice none 0 0]) := by kernel_rfl
theorem fo140_0 : fieldOff Try.prog 140 0 = some 0 := by kernel_rfl
theorem fo140_1 : fieldOff Try.prog 140 1 = some 32 := by kernel_rfl
theorem pl140 : placesOf Try.prog 140 = some #[(0, 32), (32, 1)] := by kernel_rfl
theorem bd140 : Bld Try.prog 140 (((List.replicate 32 (Value.int .u8 0)) ++ [Value.slice none 0 0])).toArray (fun i => (#[(0, 32), (32, 1)] : Array (Nat × Nat))[i]?) := Bld.str pl140 zc140
theorem rt141 : rowTy Try.prog 141 = some 33 := by kernel_rfl
theorem cs141 : cellSz Try.prog 141 = some 33 := by kernel_rfl
theorem zc141 : zeroCells Try.prog 141 = some ((List.replicate 32 (Value.int .u8 0)) ++ [Value.slice none 0 0]) := by kernel_rfl
theorem fo141_0 : fieldOff Try.prog 141 0 = some 0 := by kernel_rfl
theorem fo141_1 : fieldOff Try.prog 141 1 = some 32 := by kernel_rfl
theorem pl141 : placesOf Try.prog 141 = some #[(0, 32), (32, 1)] := by kernel_rfl
theorem bd141 : Bld Try.prog 141 (((List.replicate 32 (Value.int .u8 0)) ++ [Value.slice none 0 0])).toArray (fun i => (#[(0, 32), (32, 1)] : Array (Nat × Nat))[i]?) := Bld.str pl141 zc141
theorem ct142 : cellTy Try.prog 142 = true := by kernel_rfl
theorem cs142 : cellSz Try.prog 142 = some 1 := by kernel_rfl
theorem zc142 : zeroCells Try.prog 142 = some [Value.pointer none] := by kernel_rfl
theorem rt143 : rowTy Try.prog 143 = some 2 := by kernel_rfl
theorem cs143 : cellSz Try.prog 143 = some 2 := by kernel_rfl
theorem zc143 : zeroCells Try.prog 143 = some ([Value.slice none 0 0] ++ [Value.bool false]) := by kernel_rfl
theorem fo143_0 : fieldOff Try.prog 143 0 = some 0 := by kernel_rfl
theorem fo143_1 : fieldOff Try.prog 143 1 = some 1 := by kernel_rfl
theorem pl143 : placesOf Try.prog 143 = some #[(0, 1), (1, 1)] := by kernel_rfl
theorem bd143 : Bld Try.prog 143 (([Value.slice none 0 0] ++ [Value.bool false])).toArray (fun i => (#[(0, 1), (1, 1)] : Array (Nat × Nat))[i]?) := Bld.str pl143 zc143
theorem rt144 : rowTy Try.prog 144 = some 2 := by kernel_rfl
theorem cs144 : cellSz Try.prog 144 = some 2 := by kernel_rfl
theorem zc144 : zeroCells Try.prog 144 = some ([Value.slice none 0 0] ++ [Value.bool false]) := by kernel_rfl
theorem fo144_0 : fieldOff Try.prog 144 0 = some 0 := by kernel_rfl
theorem fo144_1 : fieldOff Try.prog 144 1 = some 1 := by kernel_rfl
theorem pl144 : placesOf Try.prog 144 = some #[(0, 1), (1, 1)] := by kernel_rfl
theorem bd144 : Bld Try.prog 144 (([Value.slice none 0 0] ++ [Value.bool false])).toArray (fun i => (#[(0, 1), (1, 1)] : Array (Nat × Nat))[i]?) := Bld.str pl144 zc144
theorem rt149 : rowTy Try.prog 149 = some 64 := by kernel_rfl
theorem cs149 : cellSz Try.prog 149 = some 64 := by kernel_rfl
theorem zc149 : zeroCells Try.prog 149 = some (List.replicate 64 (Value.int .u32 0)) := by kernel_rfl
theorem ar149 : arrOf Try.prog 149 = some (64, 1) := by kernel_rfl
theorem bd149 : Bld Try.prog 149 ((List.replicate 64 (Value.int .u32 0))).toArray (fun i => some (i * 1, 1)) := Bld.arr ar149 zc149
theorem ct152 : cellTy Try.prog 152 = true := by kernel_rfl
theorem cs152 : cellSz Try.prog 152 = some 1 := by kernel_rfl
theorem zc152 : zeroCells Try.prog 152 = some [Value.pointer none] := by kernel_rfl
theorem rt158 : rowTy Try.prog 158 = some 8 := by kernel_rfl
theorem cs158 : cellSz Try.prog 158 = some 8 := by kernel_rfl
theorem zc158 : zeroCells Try.prog 158 = some (List.replicate 8 (Value.bool false)) := by kernel_rfl
theorem ar158 : arrOf Try.prog 158 = some (8, 1) := by kernel_rfl
theorem bd158 : Bld Try.prog 158 ((List.replicate 8 (Value.bool false))).toArray (fun i => some (i * 1, 1)) := Bld.arr ar158 zc158
theorem rt162 : rowTy Try.prog 162 = some 2 := by kernel_rfl
theorem cs162 : cellSz Try.prog 162 = some 2 := by kernel_rfl
theorem zc162 : zeroCells Try.prog 162 = some (List.replicate 2 (Value.int .i64 0)) := by kernel_rfl
theorem ar162 : arrOf Try.prog 162 = some (2, 1) := by kernel_rfl
theorem bd162 : Bld Try.prog 162 ((List.replicate 2 (Value.int .i64 0))).toArray (fun i => some (i * 1, 1)) := Bld.arr ar162 zc162
theorem rt167 : rowTy Try.prog 167 = some 4 := by kernel_rfl
theorem cs167 : cellSz Try.prog 167 = some 4 := by kernel_rfl
theorem zc167 : zeroCells Try.prog 167 = some ([Value.pointer none] ++ [Value.pointer none] ++ [Value.pointer none] ++ [Value.string .empty]) := by kernel_rfl
theorem fo167_0 : fieldOff Try.prog 167 0 = some 0 := by kernel_rfl
theorem fo167_1 : fieldOff Try.prog 167 1 = some 1 := by kernel_rfl
theorem fo167_2 : fieldOff Try.prog 167 2 = some 2 := by kernel_rfl
theorem fo167_3 : fieldOff Try.prog 167 3 = some 3 := by kernel_rfl
theorem pl167 : placesOf Try.prog 167 = some #[(0, 1), (1, 1), (2, 1), (3, 1)] := by kernel_rfl
theorem bd167 : Bld Try.prog 167 (([Value.pointer none] ++ [Value.pointer none] ++ [Value.pointer none] ++ [Value.string .empty])).toArray (fun i => (#[(0, 1), (1, 1), (2, 1), (3, 1)] : Array (Nat × Nat))[i]?) := Bld.str pl167 zc167
theorem rt169 : rowTy Try.prog 169 = some 0 := by kernel_rfl
theorem cs169 : cellSz Try.prog 169 = some 0 := by kernel_rfl
theorem zc169 : zeroCells Try.prog 169 = some (List.replicate 0 (Value.pointer none)) := by kernel_rfl
theorem ar169 : arrOf Try.prog 169 = some (0, 1) := by kernel_rfl
theorem bd169 : Bld Try.prog 169 ((List.replicate 0 (Value.pointer none))).toArray (fun i => some (i * 1, 1)) := Bld.arr ar169 zc169
theorem rt170 : rowTy Try.prog 170 = some 0 := by kernel_rfl
theorem cs170 : cellSz Try.prog 170 = some 0 := by kernel_rfl
theorem zc170 : zeroCells Try.prog 170 = some ((List.replicate 0 (Value.pointer none))) := by kernel_rfl
theorem pl170 : placesOf Try.prog 170 = some #[(0, 0)] := by kernel_rfl
theorem bd170 : Bld Try.prog 170 (((List.replicate 0 (Value.pointer none)))).toArray (fun i => (#[(0, 0)] : Array (Nat × Nat))[i]?) := Bld.str pl170 zc170
theorem rt171 : rowTy Try.prog 171 = some 0 := by kernel_rfl
theorem cs171 : cellSz Try.prog 171 = some 0 := by kernel_rfl
theorem zc171 : zeroCells Try.prog 171 = some ((List.replicate 0 (Value.pointer none))) := by kernel_rfl
theorem pl171 : placesOf Try.prog 171 = some #[(0, 0)] := by kernel_rfl
theorem bd171 : Bld Try.prog 171 (((List.replicate 0 (Value.pointer none)))).toArray (fun i => (#[(0, 0)] : Array (Nat × Nat))[i]?) := Bld.str pl171 zc171
theorem ct176 : cellTy Try.prog 176 = true := by kernel_rfl
theorem cs176 : cellSz Try.prog 176 = some 1 := by kernel_rfl
theorem zc176 : zeroCells Try.prog 176 = some [Value.pointer none] := by kernel_rfl
theorem rt179 : rowTy Try.prog 179 = some 11 := by kernel_rfl
theorem cs179 : cellSz Try.prog 179 = some 11 := by kernel_rfl
theorem zc179 : zeroCells Try.prog 179 = some ([Value.int .u64 0] ++ [Value.int .u64 0] ++ [Value.int .u32 0] ++ [Value.int .u8 0] ++ [Value.int .u8 0] ++ [Value.int .u8 0] ++ [Value.int .u8 0] ++ [Value.nilFunc] ++ [Value.pointer none] ++ [Value.int .i32 0] ++ [Value.int .i32 0]) := by kernel_rfl
theorem fo179_0 : fieldOff Try.prog 179 0 = some 0 := by kernel_rfl
theorem fo179_1 : fieldOff Try.prog 179 1 = some 1 := by kernel_rfl
theorem fo179_2 : fieldOff Try.prog 179 2 = some 2 := by kernel_rfl
theorem fo179_3 : fieldOff Try.prog 179 3 = some 3 := by kernel_rfl
theorem fo179_4 : fieldOff Try.prog 179 4 = some 4 := by kernel_rfl
theorem fo179_5 : fieldOff Try.prog 179 5 = some 5 := by kernel_rfl
theorem fo179_6 : fieldOff Try.prog 179 6 = some 6 := by kernel_rfl
theorem fo179_7 : fieldOff Try.prog 179 7 = some 7 := by kernel_rfl
theorem fo179_8 : fieldOff Try.prog 179 8 = some 8 := by kernel_rfl
theorem fo179_9 : fieldOff Try.prog 179 9 = some 9 := by kernel_rfl
theorem fo179_10 : fieldOff Try.prog 179 10 = some 10 := by kernel_rfl
theorem pl179 : placesOf Try.prog 179 = some #[(0, 1), (1, 1), (2, 1), (3, 1), (4, 1), (5, 1), (6, 1), (7, 1), (8, 1), (9, 1), (10, 1)] := by kernel_rfl
theorem bd179 : Bld Try.prog 179 (([Value.int .u64 0] ++ [Value.int .u64 0] ++ [Value.int .u32 0] ++ [Value.int .u8 0] ++ [Value.int .u8 0] ++ [Value.int .u8 0] ++ [Value.int .u8 0] ++ [Value.nilFunc] ++ [Value.pointer none] ++ [Value.int .i32 0] ++ [Value.int .i32 0])).toArray (fun i => (#[(0, 1), (1, 1), (2, 1), (3, 1), (4, 1), (5, 1), (6, 1), (7, 1), (8, 1), (9, 1), (10, 1)] : Array (Nat × Nat))[i]?) := Bld.str pl179 zc179
theorem ct181 : cellTy Try.prog 181 = true := by kernel_rfl
theorem cs181 : cellSz Try.prog 181 = some 1 := by kernel_rfl
end Go.Proofs.Ytjmbbhnpfmblpaa
