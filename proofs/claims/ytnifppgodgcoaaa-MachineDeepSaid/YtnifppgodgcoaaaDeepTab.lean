/- The functions of the program, run by the evaluator. -/
import Derived.Test.YtnifppgodgcoaaaBin
set_option linter.unusedVariables false
noncomputable section
namespace Go.Ph
/- pluginhost/layout.checkField -/
noncomputable def e76 : Entry := aloneE Go.Proofs.Try.prog fuel 76 [some (.int .i64)] [] [] Go.Proofs.Try.f76
theorem ok76 : EntryOk Go.Proofs.Try.prog e76 := single_ok mixed .nil Go.Proofs.Try.func76 (by kernel_rfl)
/- pluginhost/layout.width -/
noncomputable def e85 : Entry := aloneE Go.Proofs.Try.prog fuel 85 [some (.int .i64)] [] [] Go.Proofs.Try.f85
theorem ok85 : EntryOk Go.Proofs.Try.prog e85 := single_ok mixed .nil Go.Proofs.Try.func85 (by kernel_rfl)
/- pluginhost/layout.alignment -/
noncomputable def e98 : Entry := aloneE Go.Proofs.Try.prog fuel 98 [some (.int .i64)] [e85] [] Go.Proofs.Try.f98
theorem ok98 : EntryOk Go.Proofs.Try.prog e98 := single_ok mixed (.cons ok85 .nil) Go.Proofs.Try.func98 (by kernel_rfl)
/- pluginhost/layout.up -/
noncomputable def e99 : Entry := aloneE Go.Proofs.Try.prog fuel 99 [some (.int .i64)] [] [] Go.Proofs.Try.f99
theorem ok99 : EntryOk Go.Proofs.Try.prog e99 := single_ok mixed .nil Go.Proofs.Try.func99 (by kernel_rfl)
/- pluginhost/layout.places -/
noncomputable def e86 : Entry := aloneE Go.Proofs.Try.prog fuel 86 [some (.pair (.int .i64) (.pair (.int .i64) (.int .i64))), some (.int .i64)] [e98, e99, e85] [] Go.Proofs.Try.f86
theorem ok86 : EntryOk Go.Proofs.Try.prog e86 := single_ok mixed (.cons ok98 (.cons ok99 (.cons ok85 .nil))) Go.Proofs.Try.func86 (by kernel_rfl)
/- pluginhost/layout.size -/
noncomputable def e77 : Entry := aloneE Go.Proofs.Try.prog fuel 77 [some (.int .i64)] [e85, e86] [] Go.Proofs.Try.f77
theorem ok77 : EntryOk Go.Proofs.Try.prog e77 := single_ok mixed (.cons ok85 (.cons ok86 .nil)) Go.Proofs.Try.func77 (by kernel_rfl)
/- pluginhost/layout.Check -/
noncomputable def e67 : Entry := aloneE Go.Proofs.Try.prog fuel 67 [some (.int .i64)] [e76, e77] [] Go.Proofs.Try.f67
theorem ok67 : EntryOk Go.Proofs.Try.prog e67 := single_ok mixed (.cons ok76 (.cons ok77 .nil)) Go.Proofs.Try.func67 (by kernel_rfl)
/- pluginhost/module.checkParts -/
noncomputable def e52 : Entry := aloneE Go.Proofs.Try.prog fuel 52 [some (.int .i64)] [e67] [] Go.Proofs.Try.f52
theorem ok52 : EntryOk Go.Proofs.Try.prog e52 := single_ok mixed (.cons ok67 .nil) Go.Proofs.Try.func52 (by kernel_rfl)
/- pluginhost/module.checkFunc -/
noncomputable def e53 : Entry := aloneE Go.Proofs.Try.prog fuel 53 [some (.int .i64)] [] [] Go.Proofs.Try.f53
theorem ok53 : EntryOk Go.Proofs.Try.prog e53 := single_ok mixed .nil Go.Proofs.Try.func53 (by kernel_rfl)
/- pluginhost/instr.known -/
noncomputable def e41 : Entry := aloneE Go.Proofs.Try.prog fuel 41 [some .bool] [] [] Go.Proofs.Try.f41
theorem ok41 : EntryOk Go.Proofs.Try.prog e41 := single_ok mixed .nil Go.Proofs.Try.func41 (by kernel_rfl)
/- pluginhost/instr.HasArg -/
noncomputable def e68 : Entry := aloneE Go.Proofs.Try.prog fuel 68 [some .bool] [] [] Go.Proofs.Try.f68
theorem ok68 : EntryOk Go.Proofs.Try.prog e68 := single_ok mixed .nil Go.Proofs.Try.func68 (by kernel_rfl)
/- pluginhost/instr.Check -/
noncomputable def e54 : Entry := aloneE Go.Proofs.Try.prog fuel 54 [some (.int .i64)] [e41, e68] [] Go.Proofs.Try.f54
theorem ok54 : EntryOk Go.Proofs.Try.prog e54 := single_ok mixed (.cons ok41 (.cons ok68 .nil)) Go.Proofs.Try.func54 (by kernel_rfl)
/- pluginhost/module.Check -/
noncomputable def e38 : Entry := aloneE Go.Proofs.Try.prog fuel 38 [some (.pair (.int .i64) (.pair (.int .i64) (.int .i64)))] [e52, e53, e54] [] Go.Proofs.Try.f38
theorem ok38 : EntryOk Go.Proofs.Try.prog e38 := single_ok mixed (.cons ok52 (.cons ok53 (.cons ok54 .nil))) Go.Proofs.Try.func38 (by kernel_rfl)
/- pluginhost/flow.fine -/
noncomputable def e59 : Entry := aloneE Go.Proofs.Try.prog fuel 59 [some (.pair (.int .i64) (.pair (.int .i64) (.int .i64)))] [] [] Go.Proofs.Try.f59
theorem ok59 : EntryOk Go.Proofs.Try.prog e59 := single_ok mixed .nil Go.Proofs.Try.func59 (by kernel_rfl)
/- pluginhost/flow.find -/
noncomputable def e69 : Entry := aloneE Go.Proofs.Try.prog fuel 69 [some (.pair (.int .i64) (.pair (.int .i64) (.pair (.int .i64) (.sl (.pair (.int .i64) (.int .u64)))))), some (.pair (.int .i64) (.pair (.int .i64) (.int .i64)))] [e38, e59] [] Go.Proofs.Try.f69
theorem ok69 : EntryOk Go.Proofs.Try.prog e69 := single_ok mixed (.cons ok38 (.cons ok59 .nil)) Go.Proofs.Try.func69 (by kernel_rfl)
/- pluginhost/instr.Arity -/
noncomputable def e61 : Entry := aloneE Go.Proofs.Try.prog fuel 61 [some (.int .i64), some .bool] [] [] Go.Proofs.Try.f61
theorem ok61 : EntryOk Go.Proofs.Try.prog e61 := single_ok mixed .nil Go.Proofs.Try.func61 (by kernel_rfl)
/- pluginhost/flow.arity -/
noncomputable def e82 : Entry := aloneE Go.Proofs.Try.prog fuel 82 [some (.int .i64), some .bool] [e61] [] Go.Proofs.Try.f82
theorem ok82 : EntryOk Go.Proofs.Try.prog e82 := single_ok mixed (.cons ok61 .nil) Go.Proofs.Try.func82 (by kernel_rfl)
/- pluginhost/flow.isHost -/
noncomputable def e78 : Entry := aloneE Go.Proofs.Try.prog fuel 78 [some .bool] [e82] [] Go.Proofs.Try.f78
theorem ok78 : EntryOk Go.Proofs.Try.prog e78 := single_ok mixed (.cons ok82 .nil) Go.Proofs.Try.func78 (by kernel_rfl)
/- pluginhost/instr.Ends -/
noncomputable def e79 : Entry := aloneE Go.Proofs.Try.prog fuel 79 [some .bool] [] [] Go.Proofs.Try.f79
theorem ok79 : EntryOk Go.Proofs.Try.prog e79 := single_ok mixed .nil Go.Proofs.Try.func79 (by kernel_rfl)
/- pluginhost/flow.static -/
noncomputable def e70 : Entry := aloneE Go.Proofs.Try.prog fuel 70 [some (.int .i64)] [e78, e79] [] Go.Proofs.Try.f70
theorem ok70 : EntryOk Go.Proofs.Try.prog e70 := single_ok mixed (.cons ok78 (.cons ok79 .nil)) Go.Proofs.Try.func70 (by kernel_rfl)
/- pluginhost/flow.Static -/
noncomputable def e55 : Entry := aloneE Go.Proofs.Try.prog fuel 55 [some (.pair (.int .i64) (.pair (.int .i64) (.int .i64)))] [e69, e70, e59] [] Go.Proofs.Try.f55
theorem ok55 : EntryOk Go.Proofs.Try.prog e55 := single_ok mixed (.cons ok69 (.cons ok70 (.cons ok59 .nil))) Go.Proofs.Try.func55 (by kernel_rfl)
/- math/bits.Mul32 -/
noncomputable def e80 : Entry := aloneE Go.Proofs.Try.prog fuel 80 [some (.int .u32), some (.int .u32)] [] [] Go.Proofs.Try.f80
theorem ok80 : EntryOk Go.Proofs.Try.prog e80 := single_ok mixed .nil Go.Proofs.Try.func80 (by kernel_rfl)
/- math/bits.Mul64 -/
noncomputable def e81 : Entry := aloneE Go.Proofs.Try.prog fuel 81 [some (.int .u64), some (.int .u64)] [] [] Go.Proofs.Try.f81
theorem ok81 : EntryOk Go.Proofs.Try.prog e81 := single_ok mixed .nil Go.Proofs.Try.func81 (by kernel_rfl)
/- math/bits.Mul -/
noncomputable def e71 : Entry := aloneE Go.Proofs.Try.prog fuel 71 [some (.int .u64), some (.int .u64)] [e80, e81] [] Go.Proofs.Try.f71
theorem ok71 : EntryOk Go.Proofs.Try.prog e71 := single_ok mixed (.cons ok80 (.cons ok81 .nil)) Go.Proofs.Try.func71 (by kernel_rfl)
/- slices.Repeat[[]int,int] -/
noncomputable def e56 : Entry := plainE Go.Proofs.Try.prog fuel 56 [e71] [30] Go.Proofs.Try.f56
theorem ok56 : EntryOk Go.Proofs.Try.prog e56 := plain_ok mixed (.cons ok71 .nil) Go.Proofs.Try.func56 (by kernel_rfl)
/- pluginhost/instr.Effect -/
noncomputable def e60 : Entry := aloneE Go.Proofs.Try.prog fuel 60 [some (.int .i64), some (.int .i64), some .bool] [] [] Go.Proofs.Try.f60
theorem ok60 : EntryOk Go.Proofs.Try.prog e60 := single_ok mixed .nil Go.Proofs.Try.func60 (by kernel_rfl)
/- pluginhost/flow.effect -/
noncomputable def e72 : Entry := aloneE Go.Proofs.Try.prog fuel 72 [some (.int .i64), some (.int .i64)] [e82, e60] [] Go.Proofs.Try.f72
theorem ok72 : EntryOk Go.Proofs.Try.prog e72 := single_ok mixed (.cons ok82 (.cons ok60 .nil)) Go.Proofs.Try.func72 (by kernel_rfl)
/- math/bits.Len32 -/
noncomputable def e96 : Entry := aloneE Go.Proofs.Try.prog fuel 96 [some (.int .i64)] [] [] Go.Proofs.Try.f96
theorem ok96 : EntryOk Go.Proofs.Try.prog e96 := single_ok mixed .nil Go.Proofs.Try.func96 (by kernel_rfl)
/- math/bits.Len64 -/
noncomputable def e97 : Entry := aloneE Go.Proofs.Try.prog fuel 97 [some (.int .i64)] [] [] Go.Proofs.Try.f97
theorem ok97 : EntryOk Go.Proofs.Try.prog e97 := single_ok mixed .nil Go.Proofs.Try.func97 (by kernel_rfl)
/- math/bits.Len -/
noncomputable def e84 : Entry := aloneE Go.Proofs.Try.prog fuel 84 [some (.int .i64)] [e96, e97] [] Go.Proofs.Try.f84
theorem ok84 : EntryOk Go.Proofs.Try.prog e84 := single_ok mixed (.cons ok96 (.cons ok97 .nil)) Go.Proofs.Try.func84 (by kernel_rfl)
/- cmp.isNaN[int] -/
noncomputable def e105 : Entry := aloneE Go.Proofs.Try.prog fuel 105 [some .bool] [] [] Go.Proofs.Try.f105
theorem ok105 : EntryOk Go.Proofs.Try.prog e105 := single_ok mixed .nil Go.Proofs.Try.func105 (by kernel_rfl)
/- cmp.Less[int] -/
noncomputable def e93 : Entry := aloneE Go.Proofs.Try.prog fuel 93 [some .bool] [e105] [] Go.Proofs.Try.f93
theorem ok93 : EntryOk Go.Proofs.Try.prog e93 := single_ok mixed (.cons ok105 .nil) Go.Proofs.Try.func93 (by kernel_rfl)
/- slices.insertionSortOrdered[int] -/
noncomputable def e87 : Entry := plainE Go.Proofs.Try.prog fuel 87 [e93] [] Go.Proofs.Try.f87
theorem ok87 : EntryOk Go.Proofs.Try.prog e87 := plain_ok mixed (.cons ok93 .nil) Go.Proofs.Try.func87 (by kernel_rfl)
/- slices.siftDownOrdered[int] -/
noncomputable def e100 : Entry := plainE Go.Proofs.Try.prog fuel 100 [e93] [] Go.Proofs.Try.f100
theorem ok100 : EntryOk Go.Proofs.Try.prog e100 := plain_ok mixed (.cons ok93 .nil) Go.Proofs.Try.func100 (by kernel_rfl)
/- slices.heapSortOrdered[int] -/
noncomputable def e88 : Entry := plainE Go.Proofs.Try.prog fuel 88 [e100] [] Go.Proofs.Try.f88
theorem ok88 : EntryOk Go.Proofs.Try.prog e88 := plain_ok mixed (.cons ok100 .nil) Go.Proofs.Try.func88 (by kernel_rfl)
/- slices.nextPowerOfTwo -/
noncomputable def e101 : Entry := aloneE Go.Proofs.Try.prog fuel 101 [some (.int .u64)] [e84] [] Go.Proofs.Try.f101
theorem ok101 : EntryOk Go.Proofs.Try.prog e101 := single_ok mixed (.cons ok84 .nil) Go.Proofs.Try.func101 (by kernel_rfl)
/- (*slices.xorshift).Next -/
noncomputable def e102 : Entry := plainE Go.Proofs.Try.prog fuel 102 [] [] Go.Proofs.Try.f102
theorem ok102 : EntryOk Go.Proofs.Try.prog e102 := plain_ok mixed .nil Go.Proofs.Try.func102 (by kernel_rfl)
/- slices.breakPatternsOrdered[int] -/
noncomputable def e89 : Entry := plainE Go.Proofs.Try.prog fuel 89 [e101, e102] [] Go.Proofs.Try.f89
theorem ok89 : EntryOk Go.Proofs.Try.prog e89 := plain_ok mixed (.cons ok101 (.cons ok102 .nil)) Go.Proofs.Try.func89 (by kernel_rfl)
/- slices.order2Ordered[int] -/
noncomputable def e106 : Entry := plainE Go.Proofs.Try.prog fuel 106 [e93] [] Go.Proofs.Try.f106
theorem ok106 : EntryOk Go.Proofs.Try.prog e106 := plain_ok mixed (.cons ok93 .nil) Go.Proofs.Try.func106 (by kernel_rfl)
/- slices.medianOrdered[int] -/
noncomputable def e104 : Entry := plainE Go.Proofs.Try.prog fuel 104 [e106] [] Go.Proofs.Try.f104
theorem ok104 : EntryOk Go.Proofs.Try.prog e104 := plain_ok mixed (.cons ok106 .nil) Go.Proofs.Try.func104 (by kernel_rfl)
/- slices.medianAdjacentOrdered[int] -/
noncomputable def e103 : Entry := plainE Go.Proofs.Try.prog fuel 103 [e104] [] Go.Proofs.Try.f103
theorem ok103 : EntryOk Go.Proofs.Try.prog e103 := plain_ok mixed (.cons ok104 .nil) Go.Proofs.Try.func103 (by kernel_rfl)
/- slices.choosePivotOrdered[int] -/
noncomputable def e90 : Entry := aloneE Go.Proofs.Try.prog fuel 90 [some (.int .i64), some (.int .i64)] [e103, e104] [] Go.Proofs.Try.f90
theorem ok90 : EntryOk Go.Proofs.Try.prog e90 := single_ok mixed (.cons ok103 (.cons ok104 .nil)) Go.Proofs.Try.func90 (by kernel_rfl)
/- slices.reverseRangeOrdered[int] -/
noncomputable def e91 : Entry := plainE Go.Proofs.Try.prog fuel 91 [] [] Go.Proofs.Try.f91
theorem ok91 : EntryOk Go.Proofs.Try.prog e91 := plain_ok mixed .nil Go.Proofs.Try.func91 (by kernel_rfl)
/- slices.partialInsertionSortOrdered[int] -/
noncomputable def e92 : Entry := aloneE Go.Proofs.Try.prog fuel 92 [some .bool] [e93] [] Go.Proofs.Try.f92
theorem ok92 : EntryOk Go.Proofs.Try.prog e92 := single_ok mixed (.cons ok93 .nil) Go.Proofs.Try.func92 (by kernel_rfl)
/- slices.partitionEqualOrdered[int] -/
noncomputable def e94 : Entry := aloneE Go.Proofs.Try.prog fuel 94 [some (.int .i64)] [e93] [] Go.Proofs.Try.f94
theorem ok94 : EntryOk Go.Proofs.Try.prog e94 := single_ok mixed (.cons ok93 .nil) Go.Proofs.Try.func94 (by kernel_rfl)
/- slices.partitionOrdered[int] -/
noncomputable def e95 : Entry := aloneE Go.Proofs.Try.prog fuel 95 [some (.int .i64), some .bool] [e93] [] Go.Proofs.Try.f95
theorem ok95 : EntryOk Go.Proofs.Try.prog e95 := single_ok mixed (.cons ok93 .nil) Go.Proofs.Try.func95 (by kernel_rfl)
/- slices.pdqsortOrdered[int] -/
noncomputable def e83 : Entry := plainE Go.Proofs.Try.prog fuel 83 [e87, e88, e89, e90, e91, e92, e93, e94, e95] [] Go.Proofs.Try.f83
theorem ok83 : EntryOk Go.Proofs.Try.prog e83 := plain_ok mixed (.cons ok87 (.cons ok88 (.cons ok89 (.cons ok90 (.cons ok91 (.cons ok92 (.cons ok93 (.cons ok94 (.cons ok95 .nil))))))))) Go.Proofs.Try.func83 (by kernel_rfl)
/- slices.Sort[[]int,int] -/
noncomputable def e73 : Entry := plainE Go.Proofs.Try.prog fuel 73 [e84, e83] [] Go.Proofs.Try.f73
theorem ok73 : EntryOk Go.Proofs.Try.prog e73 := plain_ok mixed (.cons ok84 (.cons ok83 .nil)) Go.Proofs.Try.func73 (by kernel_rfl)
/- slices.Compact[[]int,int] -/
noncomputable def e74 : Entry := plainE Go.Proofs.Try.prog fuel 74 [] [] Go.Proofs.Try.f74
theorem ok74 : EntryOk Go.Proofs.Try.prog e74 := plain_ok mixed .nil Go.Proofs.Try.func74 (by kernel_rfl)
/- pluginhost/flow.next -/
noncomputable def e58 : Entry := aloneE Go.Proofs.Try.prog fuel 58 [some (.sl (.int .i64))] [e73, e74] [13, 21, 32] Go.Proofs.Try.f58
theorem ok58 : EntryOk Go.Proofs.Try.prog e58 := single_ok mixed (.cons ok73 (.cons ok74 .nil)) Go.Proofs.Try.func58 (by kernel_rfl)
/- pluginhost/flow.process -/
noncomputable def e57 : Entry := plainE Go.Proofs.Try.prog fuel 57 [e72, e58] [] Go.Proofs.Try.f57
theorem ok57 : EntryOk Go.Proofs.Try.prog e57 := plain_ok mixed (.cons ok72 (.cons ok58 .nil)) Go.Proofs.Try.func57 (by kernel_rfl)
/- pluginhost/flow.Heights -/
noncomputable def e39 : Entry := aloneE Go.Proofs.Try.prog fuel 39 [some (.sl (.int .i64)), some (.pair (.int .i64) (.pair (.int .i64) (.int .i64)))] [e55, e56, e57, e58, e59] [35] Go.Proofs.Try.f39
theorem ok39 : EntryOk Go.Proofs.Try.prog e39 := single_ok mixed (.cons ok55 (.cons ok56 (.cons ok57 (.cons ok58 (.cons ok59 .nil))))) Go.Proofs.Try.func39 (by kernel_rfl)
/- pluginhost/verify.Verify -/
noncomputable def e21 : Entry := aloneE Go.Proofs.Try.prog fuel 21 [some (.pair (.int .i64) (.pair (.int .i64) (.int .i64)))] [e38, e39] [] Go.Proofs.Try.f21
theorem ok21 : EntryOk Go.Proofs.Try.prog e21 := single_ok mixed (.cons ok38 (.cons ok39 .nil)) Go.Proofs.Try.func21 (by kernel_rfl)
/- pluginhost/machine.copied -/
noncomputable def e22 : Entry := aloneE Go.Proofs.Try.prog fuel 22 [some (.pair (.sl (.pair (.int .i64) (.sl (.pair (.int .i64) (.int .i64))))) (.sl (.pair (.int .i64) (.pair (.int .i64) (.pair (.int .i64) (.sl (.pair (.int .i64) (.int .u64))))))))] [e40] [] Go.Proofs.Try.f22
theorem ok22 : EntryOk Go.Proofs.Try.prog e22 := single_ok mixed (.cons ok40 .nil) Go.Proofs.Try.func22 (by kernel_rfl)
/- (*pluginhost/machine.Machine).trap -/
noncomputable def e23 : Entry := plainE Go.Proofs.Try.prog fuel 23 [] [] Go.Proofs.Try.f23
theorem ok23 : EntryOk Go.Proofs.Try.prog e23 := plain_ok mixed .nil Go.Proofs.Try.func23 (by kernel_rfl)
/- pluginhost/machine.New -/
noncomputable def e9 : Entry := plainE Go.Proofs.Try.prog fuel 9 [e21, e22, e23] [52, 54] Go.Proofs.Try.f9
theorem ok9 : EntryOk Go.Proofs.Try.prog e9 := plain_ok mixed (.cons ok21 (.cons ok22 (.cons ok23 .nil))) Go.Proofs.Try.func9 (by kernel_rfl)
/- (*pluginhost/machine.Machine).is -/
noncomputable def e25 : Entry := plainE Go.Proofs.Try.prog fuel 25 [] [] Go.Proofs.Try.f25
theorem ok25 : EntryOk Go.Proofs.Try.prog e25 := plain_ok mixed .nil Go.Proofs.Try.func25 (by kernel_rfl)
/- (*pluginhost/machine.Machine).top -/
noncomputable def e26 : Entry := handE Go.Proofs.Try.prog fuel 26 [] [] Go.Proofs.Try.f26
theorem ok26 : EntryOk Go.Proofs.Try.prog e26 := handed_ok mixed .nil Go.Proofs.Try.func26 (by kernel_rfl)
/- pluginhost/instr.Cost -/
noncomputable def e27 : Entry := aloneE Go.Proofs.Try.prog fuel 27 [some (.int .i64)] [e41] [] Go.Proofs.Try.f27
theorem ok27 : EntryOk Go.Proofs.Try.prog e27 := single_ok mixed (.cons ok41 .nil) Go.Proofs.Try.func27 (by kernel_rfl)
/- (*pluginhost/machine.Machine).overflows -/
noncomputable def e42 : Entry := plainE Go.Proofs.Try.prog fuel 42 [e60, e61] [] Go.Proofs.Try.f42
theorem ok42 : EntryOk Go.Proofs.Try.prog e42 := plain_ok mixed (.cons ok60 (.cons ok61 .nil)) Go.Proofs.Try.func42 (by kernel_rfl)
/- (*pluginhost/machine.Machine).call -/
noncomputable def e43 : Entry := plainE Go.Proofs.Try.prog fuel 43 [e23, e26] [] Go.Proofs.Try.f43
theorem ok43 : EntryOk Go.Proofs.Try.prog e43 := plain_ok mixed (.cons ok23 (.cons ok26 .nil)) Go.Proofs.Try.func43 (by kernel_rfl)
/- (*pluginhost/machine.Machine).ret -/
noncomputable def e44 : Entry := plainE Go.Proofs.Try.prog fuel 44 [e26, e30] [] Go.Proofs.Try.f44
theorem ok44 : EntryOk Go.Proofs.Try.prog e44 := plain_ok mixed (.cons ok26 (.cons ok30 .nil)) Go.Proofs.Try.func44 (by kernel_rfl)
/- (*pluginhost/machine.Machine).host -/
noncomputable def e45 : Entry := plainE Go.Proofs.Try.prog fuel 45 [e61, e30] [] Go.Proofs.Try.f45
theorem ok45 : EntryOk Go.Proofs.Try.prog e45 := plain_ok mixed (.cons ok61 (.cons ok30 .nil)) Go.Proofs.Try.func45 (by kernel_rfl)
/- (*pluginhost/machine.Machine).pop -/
noncomputable def e46 : Entry := plainE Go.Proofs.Try.prog fuel 46 [] [] Go.Proofs.Try.f46
theorem ok46 : EntryOk Go.Proofs.Try.prog e46 := plain_ok mixed .nil Go.Proofs.Try.func46 (by kernel_rfl)
/- (*pluginhost/machine.Machine).push -/
noncomputable def e32 : Entry := plainE Go.Proofs.Try.prog fuel 32 [] [] Go.Proofs.Try.f32
theorem ok32 : EntryOk Go.Proofs.Try.prog e32 := plain_ok mixed .nil Go.Proofs.Try.func32 (by kernel_rfl)
/- (*pluginhost/machine.Machine).simple -/
noncomputable def e47 : Entry := plainE Go.Proofs.Try.prog fuel 47 [e26, e32, e46, e62, e23, k63] [] Go.Proofs.Try.f47
theorem ok47 : EntryOk Go.Proofs.Try.prog e47 := plain_ok mixed (.cons ok26 (.cons ok32 (.cons ok46 (.cons ok62 (.cons ok23 (.cons ok63k .nil)))))) Go.Proofs.Try.func47 (by kernel_rfl)
/- (*pluginhost/machine.Machine).execute -/
noncomputable def e28 : Entry := plainE Go.Proofs.Try.prog fuel 28 [e42, e23, e43, e44, e26, e45, e46, e47] [] Go.Proofs.Try.f28
theorem ok28 : EntryOk Go.Proofs.Try.prog e28 := plain_ok mixed (.cons ok42 (.cons ok23 (.cons ok43 (.cons ok44 (.cons ok26 (.cons ok45 (.cons ok46 (.cons ok47 .nil)))))))) Go.Proofs.Try.func28 (by kernel_rfl)
/- (*pluginhost/machine.Machine).Run -/
noncomputable def e11 : Entry := plainE Go.Proofs.Try.prog fuel 11 [e25, e26, e27, e28] [] Go.Proofs.Try.f11
theorem ok11 : EntryOk Go.Proofs.Try.prog e11 := plain_ok mixed (.cons ok25 (.cons ok26 (.cons ok27 (.cons ok28 .nil)))) Go.Proofs.Try.func11 (by kernel_rfl)
/- (*pluginhost/machine.Machine).State -/
noncomputable def e12 : Entry := plainE Go.Proofs.Try.prog fuel 12 [e29, e30] [] Go.Proofs.Try.f12
theorem ok12 : EntryOk Go.Proofs.Try.prog e12 := plain_ok mixed (.cons ok29 (.cons ok30 .nil)) Go.Proofs.Try.func12 (by kernel_rfl)
/- pluginhost/pluginhostref1.SameUints -/
noncomputable def e24 : Entry := aloneE Go.Proofs.Try.prog fuel 24 [some .bool] [] [] Go.Proofs.Try.f24
theorem ok24 : EntryOk Go.Proofs.Try.prog e24 := single_ok mixed .nil Go.Proofs.Try.func24 (by kernel_rfl)
/- pluginhost/pluginhostlaw23.awake -/
noncomputable def e10 : Entry := aloneE Go.Proofs.Try.prog fuel 10 [some .bool] [e9, e11, e12, e24] [] Go.Proofs.Try.f10
theorem ok10 : EntryOk Go.Proofs.Try.prog e10 := single_ok mixed (.cons ok9 (.cons ok11 (.cons ok12 (.cons ok24 .nil)))) Go.Proofs.Try.func10 (by kernel_rfl)
theorem awake_ev : e10.spec [] ⟨[], 0⟩ Bool boolK = some true := by kernel_rfl
noncomputable def k10 : Entry := ⟨10, constS true, true, true⟩
theorem ok10k : EntryOk Go.Proofs.Try.prog k10 := const_ok ok10 awake_ev
end Go.Ph
end
