/- The functions of the program, run by the evaluator. -/
import Derived.Test.YtfnagbpaolklgaaGreatProg
import Derived.KernelRfl
import Derived.Test.YtfnagbpaolklgaaGreatEngG
set_option linter.unusedVariables false
noncomputable section
namespace Go.Ph
theorem mixed : Go.Proofs.Tryz.prog.follows .mixedOrders = true := by kernel_rfl
abbrev fuel : Nat := 400
/- pluginhost/heap.inRange -/
noncomputable def e93 : Entry := aloneE Go.Proofs.Tryz.prog fuel 93 [some .bool] [] [] Go.Proofs.Tryz.f93
theorem ok93 : EntryOk Go.Proofs.Tryz.prog e93 := single_ok mixed .nil Go.Proofs.Tryz.func93 (by kernel_rfl)
/- pluginhost/heap.CheckConfig -/
noncomputable def e55 : Entry := aloneE Go.Proofs.Tryz.prog fuel 55 [some (.int .i64)] [e93] [] Go.Proofs.Tryz.f55
theorem ok55 : EntryOk Go.Proofs.Tryz.prog e55 := single_ok mixed (.cons ok93 .nil) Go.Proofs.Tryz.func55 (by kernel_rfl)
/- pluginhost/typereg.New -/
noncomputable def e56 : Entry := plainE Go.Proofs.Tryz.prog fuel 56 [] [] Go.Proofs.Tryz.f56
theorem ok56 : EntryOk Go.Proofs.Tryz.prog e56 := plain_ok mixed .nil Go.Proofs.Tryz.func56 (by kernel_rfl)
/- pluginhost/borrow.New -/
noncomputable def e57 : Entry := plainE Go.Proofs.Tryz.prog fuel 57 [] [] Go.Proofs.Tryz.f57
theorem ok57 : EntryOk Go.Proofs.Tryz.prog e57 := plain_ok mixed .nil Go.Proofs.Tryz.func57 (by kernel_rfl)
/- pluginhost/quota.New -/
noncomputable def e58 : Entry := plainE Go.Proofs.Tryz.prog fuel 58 [] [] Go.Proofs.Tryz.f58
theorem ok58 : EntryOk Go.Proofs.Tryz.prog e58 := plain_ok mixed .nil Go.Proofs.Tryz.func58 (by kernel_rfl)
/- slices.Clone[[]pluginhost/api.Extent,pluginhost/api.Extent] -/
noncomputable def e201 : Entry := ⟨201, hand (cloneO (.pair (.int .i64) (.int .i64)) 129 16), false, true, noIter, false⟩
theorem ok201 : EntryOk Go.Proofs.Tryz.prog e201 := ⟨hand_ok (
  clone_ok mixed Go.Proofs.Tryz.func201 rfl rfl rfl Go.Proofs.Tryz.underlying76 rfl rfl rfl rfl rfl rfl (by kernel_rfl) (by kernel_rfl) (by kernel_rfl) rfl rfl rfl
    (fun c h => by kernel_rfl) (fun c h => by kernel_rfl)
    (clone_tail (by kernel_rfl) Go.Proofs.Tryz.underlying76 (by kernel_rfl) (by kernel_rfl) rfl rfl rfl rfl rfl rfl rfl rfl rfl rfl rfl rfl (fun Z ρ k => by kernel_rfl))), noIter_ok _ _⟩
/- pluginhost/extents.proper -/
noncomputable def e267 : Entry := aloneE Go.Proofs.Tryz.prog fuel 267 [some .bool] [] [] Go.Proofs.Tryz.f267
theorem ok267 : EntryOk Go.Proofs.Tryz.prog e267 := single_ok mixed .nil Go.Proofs.Tryz.func267 (by kernel_rfl)
/- pluginhost/extents.Valid -/
noncomputable def e204 : Entry := aloneE Go.Proofs.Tryz.prog fuel 204 [some .bool] [e267] [] Go.Proofs.Tryz.f204
theorem ok204 : EntryOk Go.Proofs.Tryz.prog e204 := single_ok mixed (.cons ok267 .nil) Go.Proofs.Tryz.func204 (by kernel_rfl)
/- pluginhost/extents.end -/
noncomputable def e205 : Entry := aloneE Go.Proofs.Tryz.prog fuel 205 [some (.int .i64)] [] [] Go.Proofs.Tryz.f205
theorem ok205 : EntryOk Go.Proofs.Tryz.prog e205 := single_ok mixed .nil Go.Proofs.Tryz.func205 (by kernel_rfl)
/- pluginhost/extents.Complement -/
noncomputable def e135 : Entry := aloneE Go.Proofs.Tryz.prog fuel 135 [some (.sl (.pair (.int .i64) (.int .i64))), some (.int .i64)] [e201, e204, e205] [] Go.Proofs.Tryz.f135
theorem ok135 : EntryOk Go.Proofs.Tryz.prog e135 := single_ok mixed (.cons ok201 (.cons ok204 (.cons ok205 .nil))) Go.Proofs.Tryz.func135 (by kernel_rfl)
/- pluginhost/allocator.New -/
noncomputable def e94 : Entry := plainE Go.Proofs.Tryz.prog fuel 94 [e135] [] Go.Proofs.Tryz.f94
theorem ok94 : EntryOk Go.Proofs.Tryz.prog e94 := plain_ok mixed (.cons ok135 .nil) Go.Proofs.Tryz.func94 (by kernel_rfl)
/- pluginhost/arena.New -/
noncomputable def e59 : Entry := plainE Go.Proofs.Tryz.prog fuel 59 [e94] [16] Go.Proofs.Tryz.f59
theorem ok59 : EntryOk Go.Proofs.Tryz.prog e59 := plain_ok mixed (.cons ok94 .nil) Go.Proofs.Tryz.func59 (by kernel_rfl)
/- slices.Clone[[]int,int] -/
noncomputable def e36 : Entry := ⟨36, hand (cloneO (.int .i64) 3 8), false, true, noIter, false⟩
theorem ok36 : EntryOk Go.Proofs.Tryz.prog e36 := ⟨hand_ok (
  clone_ok mixed Go.Proofs.Tryz.func36 rfl rfl rfl Go.Proofs.Tryz.underlying27 rfl rfl rfl rfl rfl rfl (by kernel_rfl) (by kernel_rfl) (by kernel_rfl) rfl rfl rfl
    (fun c h => by kernel_rfl) (fun c h => by kernel_rfl)
    (clone_tail (by kernel_rfl) Go.Proofs.Tryz.underlying27 (by kernel_rfl) (by kernel_rfl) rfl rfl rfl rfl rfl rfl rfl rfl rfl rfl rfl rfl (fun Z ρ k => by kernel_rfl))), noIter_ok _ _⟩
/- pluginhost/pool.New[int] -/
noncomputable def e136 : Entry := plainE Go.Proofs.Tryz.prog fuel 136 [e36] [] Go.Proofs.Tryz.f136
theorem ok136 : EntryOk Go.Proofs.Tryz.prog e136 := plain_ok mixed (.cons ok36 .nil) Go.Proofs.Tryz.func136 (by kernel_rfl)
/- (*pluginhost/pool.Pool[int]).Put -/
noncomputable def e137 : Entry := plainE Go.Proofs.Tryz.prog fuel 137 [] [] Go.Proofs.Tryz.f137
theorem ok137 : EntryOk Go.Proofs.Tryz.prog e137 := plain_ok mixed .nil Go.Proofs.Tryz.func137 (by kernel_rfl)
/- pluginhost/generation.New -/
noncomputable def e95 : Entry := treeE Go.Proofs.Tryz.prog fuel 95 [e136, e137] [24] [(3, [[], [], [1, 1], [], [0, 2, 3], [4], [5, 3, 0, 1, 2, 3, 4, 5]])] [0, 1, 2, 3, 4, 5, 6, 7, 8, 9, 10, 11, 12, 13, 14, 15, 16, 17, 18, 19, 20, 21, 22, 23, 24, 25, 26, 27, 28, 29, 30, 31, 32, 33, 34, 35, 36, 37, 38, 39] Go.Proofs.Tryz.f95
theorem ok95 : EntryOk Go.Proofs.Tryz.prog e95 := treed_ok mixed (.cons ok136 (.cons ok137 .nil)) Go.Proofs.Tryz.func95 (by kernel_rfl)
/- pluginhost/handletab.New -/
noncomputable def e60 : Entry := plainE Go.Proofs.Tryz.prog fuel 60 [e95] [19] Go.Proofs.Tryz.f60
theorem ok60 : EntryOk Go.Proofs.Tryz.prog e60 := plain_ok mixed (.cons ok95 .nil) Go.Proofs.Tryz.func60 (by kernel_rfl)
/- pluginhost/audit.New -/
noncomputable def e61 : Entry := plainE Go.Proofs.Tryz.prog fuel 61 [] [] Go.Proofs.Tryz.f61
theorem ok61 : EntryOk Go.Proofs.Tryz.prog e61 := plain_ok mixed .nil Go.Proofs.Tryz.func61 (by kernel_rfl)
/- pluginhost/heap.New -/
noncomputable def e28 : Entry := treeE Go.Proofs.Tryz.prog fuel 28 [e55, e56, e57, e58, e59, e60, e61] [] [(4, [[], [0], [], [2], [3, 1], [], [0, 1, 4, 5], [6], [7, 4, 0, 1, 2, 3, 4, 5, 6, 7]])] [0, 1, 2, 3, 6, 7, 4, 8, 9, 10, 11, 12, 13, 14, 15, 16, 17, 18, 5] Go.Proofs.Tryz.f28
theorem ok28 : EntryOk Go.Proofs.Tryz.prog e28 := treed_ok mixed (.cons ok55 (.cons ok56 (.cons ok57 (.cons ok58 (.cons ok59 (.cons ok60 (.cons ok61 .nil))))))) Go.Proofs.Tryz.func28 (by kernel_rfl)
/- (*pluginhost/audit.Log).Len -/
noncomputable def e133 : Entry := plainE Go.Proofs.Tryz.prog fuel 133 [] [] Go.Proofs.Tryz.f133
theorem ok133 : EntryOk Go.Proofs.Tryz.prog e133 := plain_ok mixed .nil Go.Proofs.Tryz.func133 (by kernel_rfl)
/- pluginhost/digest.add -/
noncomputable def e203 : Entry := aloneE Go.Proofs.Tryz.prog fuel 203 [some (.int .u64)] [] [] Go.Proofs.Tryz.f203
theorem ok203 : EntryOk Go.Proofs.Tryz.prog e203 := single_ok mixed .nil Go.Proofs.Tryz.func203 (by kernel_rfl)
/- pluginhost/digest.Sum -/
noncomputable def e134 : Entry := aloneE Go.Proofs.Tryz.prog fuel 134 [some (.int .u64)] [e203] [] Go.Proofs.Tryz.f134
theorem ok134 : EntryOk Go.Proofs.Tryz.prog e134 := single_ok mixed (.cons ok203 .nil) Go.Proofs.Tryz.func134 (by kernel_rfl)
/- (*pluginhost/audit.Log).Digest -/
noncomputable def e92 : Entry := plainE Go.Proofs.Tryz.prog fuel 92 [e133, e134] [] Go.Proofs.Tryz.f92
theorem ok92 : EntryOk Go.Proofs.Tryz.prog e92 := plain_ok mixed (.cons ok133 (.cons ok134 .nil)) Go.Proofs.Tryz.func92 (by kernel_rfl)
/- pluginhost/event.Check -/
noncomputable def e209 : Entry := aloneE Go.Proofs.Tryz.prog fuel 209 [some (.int .i64)] [] [] Go.Proofs.Tryz.f209
theorem ok209 : EntryOk Go.Proofs.Tryz.prog e209 := single_ok mixed .nil Go.Proofs.Tryz.func209 (by kernel_rfl)
/- slices.Clone[[]byte,byte] -/
noncomputable def e123 : Entry := ⟨123, hand (cloneO (.int .u8) 5 1), false, true, noIter, false⟩
theorem ok123 : EntryOk Go.Proofs.Tryz.prog e123 := ⟨hand_ok (
  clone_ok mixed Go.Proofs.Tryz.func123 rfl rfl rfl Go.Proofs.Tryz.underlying45 rfl rfl rfl rfl rfl rfl (by kernel_rfl) (by kernel_rfl) (by kernel_rfl) rfl rfl rfl
    (fun c h => by kernel_rfl) (fun c h => by kernel_rfl)
    (clone_tail (by kernel_rfl) Go.Proofs.Tryz.underlying45 (by kernel_rfl) (by kernel_rfl) rfl rfl rfl rfl rfl rfl rfl rfl rfl rfl rfl rfl (fun Z ρ k => by kernel_rfl))), noIter_ok _ _⟩
/- pluginhost/wire.PutUint -/
noncomputable def e210 : Entry := plainE Go.Proofs.Tryz.prog fuel 210 [e123] [] Go.Proofs.Tryz.f210
theorem ok210 : EntryOk Go.Proofs.Tryz.prog e210 := plain_ok mixed (.cons ok123 .nil) Go.Proofs.Tryz.func210 (by kernel_rfl)
/- pluginhost/event.Encode -/
noncomputable def e145 : Entry := aloneE Go.Proofs.Tryz.prog fuel 145 [some (.sl (.int .u8)), some (.int .i64)] [e209, e210] [] Go.Proofs.Tryz.f145
theorem ok145 : EntryOk Go.Proofs.Tryz.prog e145 := single_ok mixed (.cons ok209 (.cons ok210 .nil)) Go.Proofs.Tryz.func145 (by kernel_rfl)
/- pluginhost/audit.counts -/
noncomputable def e146 : Entry := aloneE Go.Proofs.Tryz.prog fuel 146 [some .bool] [] [] Go.Proofs.Tryz.f146
theorem ok146 : EntryOk Go.Proofs.Tryz.prog e146 := single_ok mixed .nil Go.Proofs.Tryz.func146 (by kernel_rfl)
/- (*pluginhost/audit.Log).Records -/
noncomputable def e67 : Entry := cleanE Go.Proofs.Tryz.prog fuel 67 [] [] Go.Proofs.Tryz.f67
theorem ok67 : EntryOk Go.Proofs.Tryz.prog e67 := cleaned_ok mixed .nil Go.Proofs.Tryz.func67 (by kernel_rfl)
/- (*pluginhost/audit.Log).Room -/
noncomputable def e147 : Entry := plainE Go.Proofs.Tryz.prog fuel 147 [e67] [] Go.Proofs.Tryz.f147
theorem ok147 : EntryOk Go.Proofs.Tryz.prog e147 := plain_ok mixed (.cons ok67 .nil) Go.Proofs.Tryz.func147 (by kernel_rfl)
/- pluginhost/audit.grow -/
noncomputable def e148 : Entry := plainE Go.Proofs.Tryz.prog fuel 148 [] [] Go.Proofs.Tryz.f148
theorem ok148 : EntryOk Go.Proofs.Tryz.prog e148 := plain_ok mixed .nil Go.Proofs.Tryz.func148 (by kernel_rfl)
/- pluginhost/digest.Chain -/
noncomputable def e149 : Entry := aloneE Go.Proofs.Tryz.prog fuel 149 [some (.int .u64)] [e203] [] Go.Proofs.Tryz.f149
theorem ok149 : EntryOk Go.Proofs.Tryz.prog e149 := single_ok mixed (.cons ok203 .nil) Go.Proofs.Tryz.func149 (by kernel_rfl)
/- pluginhost/wire.PutBytes -/
noncomputable def e150 : Entry := aloneE Go.Proofs.Tryz.prog fuel 150 [some (.sl (.int .u8))] [e210] [] Go.Proofs.Tryz.f150
theorem ok150 : EntryOk Go.Proofs.Tryz.prog e150 := single_ok mixed (.cons ok210 .nil) Go.Proofs.Tryz.func150 (by kernel_rfl)
/- pluginhost/audit.digestBytes -/
noncomputable def e151 : Entry := aloneE Go.Proofs.Tryz.prog fuel 151 [some (.sl (.int .u8))] [] [5] Go.Proofs.Tryz.f151
theorem ok151 : EntryOk Go.Proofs.Tryz.prog e151 := single_ok mixed .nil Go.Proofs.Tryz.func151 (by kernel_rfl)
/- (*pluginhost/audit.Log).Append -/
noncomputable def e99 : Entry := plainE Go.Proofs.Tryz.prog fuel 99 [e92, e145, e146, e147, e148, e149, e150, e151] [] Go.Proofs.Tryz.f99
theorem ok99 : EntryOk Go.Proofs.Tryz.prog e99 := plain_ok mixed (.cons ok92 (.cons ok145 (.cons ok146 (.cons ok147 (.cons ok148 (.cons ok149 (.cons ok150 (.cons ok151 .nil)))))))) Go.Proofs.Tryz.func99 (by kernel_rfl)
/- (*pluginhost/heap.Heap).works -/
noncomputable def e65 : Entry := plainE Go.Proofs.Tryz.prog fuel 65 [] [] Go.Proofs.Tryz.f65
theorem ok65 : EntryOk Go.Proofs.Tryz.prog e65 := plain_ok mixed .nil Go.Proofs.Tryz.func65 (by kernel_rfl)
/- (*pluginhost/heap.Heap).Alive -/
noncomputable def e107 : Entry := plainE Go.Proofs.Tryz.prog fuel 107 [e65] [] Go.Proofs.Tryz.f107
theorem ok107 : EntryOk Go.Proofs.Tryz.prog e107 := plain_ok mixed (.cons ok65 .nil) Go.Proofs.Tryz.func107 (by kernel_rfl)
/- pluginhost/layout.checkField -/
noncomputable def e139 : Entry := aloneE Go.Proofs.Tryz.prog fuel 139 [some (.int .i64)] [] [] Go.Proofs.Tryz.f139
theorem ok139 : EntryOk Go.Proofs.Tryz.prog e139 := single_ok mixed .nil Go.Proofs.Tryz.func139 (by kernel_rfl)
/- pluginhost/layout.width -/
noncomputable def e206 : Entry := aloneE Go.Proofs.Tryz.prog fuel 206 [some (.int .i64)] [] [] Go.Proofs.Tryz.f206
theorem ok206 : EntryOk Go.Proofs.Tryz.prog e206 := single_ok mixed .nil Go.Proofs.Tryz.func206 (by kernel_rfl)
/- pluginhost/layout.alignment -/
noncomputable def e268 : Entry := aloneE Go.Proofs.Tryz.prog fuel 268 [some (.int .i64)] [e206] [] Go.Proofs.Tryz.f268
theorem ok268 : EntryOk Go.Proofs.Tryz.prog e268 := single_ok mixed (.cons ok206 .nil) Go.Proofs.Tryz.func268 (by kernel_rfl)
/- pluginhost/layout.up -/
noncomputable def e269 : Entry := aloneE Go.Proofs.Tryz.prog fuel 269 [some (.int .i64)] [] [] Go.Proofs.Tryz.f269
theorem ok269 : EntryOk Go.Proofs.Tryz.prog e269 := single_ok mixed .nil Go.Proofs.Tryz.func269 (by kernel_rfl)
/- pluginhost/layout.places -/
noncomputable def e207 : Entry := aloneE Go.Proofs.Tryz.prog fuel 207 [some (.pair (.int .i64) (.pair (.int .i64) (.int .i64))), some (.int .i64)] [e206, e268, e269] [] Go.Proofs.Tryz.f207
theorem ok207 : EntryOk Go.Proofs.Tryz.prog e207 := single_ok mixed (.cons ok206 (.cons ok268 (.cons ok269 .nil))) Go.Proofs.Tryz.func207 (by kernel_rfl)
/- pluginhost/layout.size -/
noncomputable def e140 : Entry := aloneE Go.Proofs.Tryz.prog fuel 140 [some (.int .i64)] [e207] [] Go.Proofs.Tryz.f140
theorem ok140 : EntryOk Go.Proofs.Tryz.prog e140 := single_ok mixed (.cons ok207 .nil) Go.Proofs.Tryz.func140 (by kernel_rfl)
/- pluginhost/layout.Check -/
noncomputable def e97 : Entry := aloneE Go.Proofs.Tryz.prog fuel 97 [some (.int .i64)] [e139, e140] [] Go.Proofs.Tryz.f97
theorem ok97 : EntryOk Go.Proofs.Tryz.prog e97 := single_ok mixed (.cons ok139 (.cons ok140 .nil)) Go.Proofs.Tryz.func97 (by kernel_rfl)
/- pluginhost/layout.Size -/
noncomputable def e197 : Entry := aloneE Go.Proofs.Tryz.prog fuel 197 [some (.int .i64), some (.int .i64)] [e97, e140] [] Go.Proofs.Tryz.f197
theorem ok197 : EntryOk Go.Proofs.Tryz.prog e197 := single_ok mixed (.cons ok97 (.cons ok140 .nil)) Go.Proofs.Tryz.func197 (by kernel_rfl)
/- slices.Clone[[]pluginhost/api.Field,pluginhost/api.Field] -/
noncomputable def e208 : Entry := ⟨208, hand (cloneO (.pair (.int .i64) (.int .i64)) 90 16), false, true, noIter, false⟩
theorem ok208 : EntryOk Go.Proofs.Tryz.prog e208 := ⟨hand_ok (
  clone_ok mixed Go.Proofs.Tryz.func208 rfl rfl rfl Go.Proofs.Tryz.underlying91 rfl rfl rfl rfl rfl rfl (by kernel_rfl) (by kernel_rfl) (by kernel_rfl) rfl rfl rfl
    (fun c h => by kernel_rfl) (fun c h => by kernel_rfl)
    (clone_tail (by kernel_rfl) Go.Proofs.Tryz.underlying91 (by kernel_rfl) (by kernel_rfl) rfl rfl rfl rfl rfl rfl rfl rfl rfl rfl rfl rfl (fun Z ρ k => by kernel_rfl))), noIter_ok _ _⟩
/- pluginhost/typereg.copied -/
noncomputable def e144 : Entry := aloneE Go.Proofs.Tryz.prog fuel 144 [some (.pair (.int .i64) (.sl (.pair (.int .i64) (.int .i64))))] [e208] [] Go.Proofs.Tryz.f144
theorem ok144 : EntryOk Go.Proofs.Tryz.prog e144 := single_ok mixed (.cons ok208 .nil) Go.Proofs.Tryz.func144 (by kernel_rfl)
/- (*pluginhost/typereg.Registry).list -/
noncomputable def e271 : Entry := plainE Go.Proofs.Tryz.prog fuel 271 [] [] Go.Proofs.Tryz.f271
theorem ok271 : EntryOk Go.Proofs.Tryz.prog e271 := plain_ok mixed .nil Go.Proofs.Tryz.func271 (by kernel_rfl)
/- (*pluginhost/typereg.Registry).Lookup -/
noncomputable def e216 : Entry := handE Go.Proofs.Tryz.prog fuel 216 [e144, e271] [] Go.Proofs.Tryz.f216
theorem ok216 : EntryOk Go.Proofs.Tryz.prog e216 := handed_ok mixed (.cons ok144 (.cons ok271 .nil)) Go.Proofs.Tryz.func216 (by kernel_rfl)
/- pluginhost/sizeclass.Sizes -/
noncomputable def e299 : Entry := plainE Go.Proofs.Tryz.prog fuel 299 [] [] Go.Proofs.Tryz.f299
theorem ok299 : EntryOk Go.Proofs.Tryz.prog e299 := plain_ok mixed .nil Go.Proofs.Tryz.func299 (by kernel_rfl)
/- pluginhost/sizeclass.Sizes$1 -/
noncomputable def e327 : Entry := iterE Go.Proofs.Tryz.prog fuel 327 [] [] Go.Proofs.Tryz.f327
theorem ok327 : EntryOk Go.Proofs.Tryz.prog e327 := itered_ok mixed .nil Go.Proofs.Tryz.func327 (by kernel_rfl)
/- pluginhost/sizeclass.find -/
noncomputable def e272 : Entry := aloneE Go.Proofs.Tryz.prog fuel 272 [some (.int .i64), some (.int .i64), some (.int .i64)] [e299, e327] [] Go.Proofs.Tryz.f272
theorem ok272 : EntryOk Go.Proofs.Tryz.prog e272 := single_ok mixed (.cons ok299 (.cons ok327 .nil)) Go.Proofs.Tryz.func272 (by kernel_rfl)
/- pluginhost/sizeclass.Round -/
noncomputable def e217 : Entry := aloneE Go.Proofs.Tryz.prog fuel 217 [some (.int .i64), some (.int .i64)] [e272] [] Go.Proofs.Tryz.f217
theorem ok217 : EntryOk Go.Proofs.Tryz.prog e217 := single_ok mixed (.cons ok272 .nil) Go.Proofs.Tryz.func217 (by kernel_rfl)
/- pluginhost/quota.negative -/
noncomputable def e178 : Entry := aloneE Go.Proofs.Tryz.prog fuel 178 [some .bool] [] [] Go.Proofs.Tryz.f178
theorem ok178 : EntryOk Go.Proofs.Tryz.prog e178 := single_ok mixed .nil Go.Proofs.Tryz.func178 (by kernel_rfl)
/- pluginhost/quota.fits -/
noncomputable def e273 : Entry := aloneE Go.Proofs.Tryz.prog fuel 273 [some .bool] [] [] Go.Proofs.Tryz.f273
theorem ok273 : EntryOk Go.Proofs.Tryz.prog e273 := single_ok mixed .nil Go.Proofs.Tryz.func273 (by kernel_rfl)
/- (*pluginhost/quota.Meter).Fits -/
noncomputable def e218 : Entry := plainE Go.Proofs.Tryz.prog fuel 218 [e178, e273] [] Go.Proofs.Tryz.f218
theorem ok218 : EntryOk Go.Proofs.Tryz.prog e218 := plain_ok mixed (.cons ok178 (.cons ok273 .nil)) Go.Proofs.Tryz.func218 (by kernel_rfl)
/- (*pluginhost/handletab.Table).live -/
noncomputable def e130 : Entry := plainE Go.Proofs.Tryz.prog fuel 130 [] [] Go.Proofs.Tryz.f130
theorem ok130 : EntryOk Go.Proofs.Tryz.prog e130 := plain_ok mixed .nil Go.Proofs.Tryz.func130 (by kernel_rfl)
/- (*pluginhost/pool.Pool[int]).All$1 -/
noncomputable def e266 : Entry := iterE Go.Proofs.Tryz.prog fuel 266 [e36] [] Go.Proofs.Tryz.f266
theorem ok266 : EntryOk Go.Proofs.Tryz.prog e266 := itered_ok mixed (.cons ok36 .nil) Go.Proofs.Tryz.func266 (by kernel_rfl)
/- slices.AppendSeq[[]int,int] -/
noncomputable def e119 : Entry := plainE Go.Proofs.Tryz.prog fuel 119 [e266] [] Go.Proofs.Tryz.f119
theorem ok119 : EntryOk Go.Proofs.Tryz.prog e119 := plain_ok mixed (.cons ok266 .nil) Go.Proofs.Tryz.func119 (by kernel_rfl)
/- slices.Collect[int] -/
noncomputable def e80 : Entry := plainE Go.Proofs.Tryz.prog fuel 80 [e119] [] Go.Proofs.Tryz.f80
theorem ok80 : EntryOk Go.Proofs.Tryz.prog e80 := plain_ok mixed (.cons ok119 .nil) Go.Proofs.Tryz.func80 (by kernel_rfl)
/- (*pluginhost/pool.Pool[int]).All -/
noncomputable def e202 : Entry := plainE Go.Proofs.Tryz.prog fuel 202 [] [] Go.Proofs.Tryz.f202
theorem ok202 : EntryOk Go.Proofs.Tryz.prog e202 := plain_ok mixed .nil Go.Proofs.Tryz.func202 (by kernel_rfl)
/- (*pluginhost/generation.Slots).Pool -/
noncomputable def e131 : Entry := plainE Go.Proofs.Tryz.prog fuel 131 [e80, e202] [] Go.Proofs.Tryz.f131
theorem ok131 : EntryOk Go.Proofs.Tryz.prog e131 := plain_ok mixed (.cons ok80 (.cons ok202 .nil)) Go.Proofs.Tryz.func131 (by kernel_rfl)
/- (*pluginhost/handletab.Table).Pool -/
noncomputable def e90 : Entry := plainE Go.Proofs.Tryz.prog fuel 90 [e130, e131] [] Go.Proofs.Tryz.f90
theorem ok90 : EntryOk Go.Proofs.Tryz.prog e90 := plain_ok mixed (.cons ok130 (.cons ok131 .nil)) Go.Proofs.Tryz.func90 (by kernel_rfl)
/- (*pluginhost/handletab.Table).Full -/
noncomputable def e219 : Entry := plainE Go.Proofs.Tryz.prog fuel 219 [e90] [] Go.Proofs.Tryz.f219
theorem ok219 : EntryOk Go.Proofs.Tryz.prog e219 := plain_ok mixed (.cons ok90 .nil) Go.Proofs.Tryz.func219 (by kernel_rfl)
/- (*pluginhost/arena.Arena).parts -/
noncomputable def e128 : Entry := cleanE Go.Proofs.Tryz.prog fuel 128 [] [] Go.Proofs.Tryz.f128
theorem ok128 : EntryOk Go.Proofs.Tryz.prog e128 := cleaned_ok mixed .nil Go.Proofs.Tryz.func128 (by kernel_rfl)
/- (*pluginhost/allocator.Allocator).find -/
noncomputable def e300 : Entry := plainE Go.Proofs.Tryz.prog fuel 300 [e217] [] Go.Proofs.Tryz.f300
theorem ok300 : EntryOk Go.Proofs.Tryz.prog e300 := plain_ok mixed (.cons ok217 .nil) Go.Proofs.Tryz.func300 (by kernel_rfl)
/- pluginhost/extents.after$1 -/
noncomputable def e331 : Entry := plainE Go.Proofs.Tryz.prog fuel 331 [e205] [] Go.Proofs.Tryz.f331
theorem ok331 : EntryOk Go.Proofs.Tryz.prog e331 := plain_ok mixed (.cons ok205 .nil) Go.Proofs.Tryz.func331 (by kernel_rfl)
/- sort.Search -/
noncomputable def e330 : Entry := plainE Go.Proofs.Tryz.prog fuel 330 [e331] [] Go.Proofs.Tryz.f330
theorem ok330 : EntryOk Go.Proofs.Tryz.prog e330 := plain_ok mixed (.cons ok331 .nil) Go.Proofs.Tryz.func330 (by kernel_rfl)
/- pluginhost/extents.after -/
noncomputable def e306 : Entry := aloneE Go.Proofs.Tryz.prog fuel 306 [some (.int .i64)] [e330] [] Go.Proofs.Tryz.f306
theorem ok306 : EntryOk Go.Proofs.Tryz.prog e306 := single_ok mixed (.cons ok330 .nil) Go.Proofs.Tryz.func306 (by kernel_rfl)
/- pluginhost/extents.Remove -/
noncomputable def e301 : Entry := aloneE Go.Proofs.Tryz.prog fuel 301 [some (.sl (.pair (.int .i64) (.int .i64))), some (.int .i64)] [e201, e204, e205, e267, e306] [] Go.Proofs.Tryz.f301
theorem ok301 : EntryOk Go.Proofs.Tryz.prog e301 := single_ok mixed (.cons ok201 (.cons ok204 (.cons ok205 (.cons ok267 (.cons ok306 .nil))))) Go.Proofs.Tryz.func301 (by kernel_rfl)
/- (*pluginhost/allocator.Allocator).Alloc -/
noncomputable def e274 : Entry := plainE Go.Proofs.Tryz.prog fuel 274 [e300, e301] [] Go.Proofs.Tryz.f274
theorem ok274 : EntryOk Go.Proofs.Tryz.prog e274 := plain_ok mixed (.cons ok300 (.cons ok301 .nil)) Go.Proofs.Tryz.func274 (by kernel_rfl)
/- (*pluginhost/arena.Arena).Alloc -/
noncomputable def e220 : Entry := plainE Go.Proofs.Tryz.prog fuel 220 [e128, e274] [] Go.Proofs.Tryz.f220
theorem ok220 : EntryOk Go.Proofs.Tryz.prog e220 := plain_ok mixed (.cons ok128 (.cons ok274 .nil)) Go.Proofs.Tryz.func220 (by kernel_rfl)
/- (*pluginhost/quota.Meter).Add -/
noncomputable def e221 : Entry := plainE Go.Proofs.Tryz.prog fuel 221 [e218] [] Go.Proofs.Tryz.f221
theorem ok221 : EntryOk Go.Proofs.Tryz.prog e221 := plain_ok mixed (.cons ok218 .nil) Go.Proofs.Tryz.func221 (by kernel_rfl)
/- pluginhost/handletab.isPlugin -/
noncomputable def e275 : Entry := aloneE Go.Proofs.Tryz.prog fuel 275 [some .bool] [] [] Go.Proofs.Tryz.f275
theorem ok275 : EntryOk Go.Proofs.Tryz.prog e275 := single_ok mixed .nil Go.Proofs.Tryz.func275 (by kernel_rfl)
/- (*pluginhost/pool.Pool[int]).Len -/
noncomputable def e329 : Entry := plainE Go.Proofs.Tryz.prog fuel 329 [] [] Go.Proofs.Tryz.f329
theorem ok329 : EntryOk Go.Proofs.Tryz.prog e329 := plain_ok mixed .nil Go.Proofs.Tryz.func329 (by kernel_rfl)
/- (*pluginhost/pool.Pool[int]).Take -/
noncomputable def e302 : Entry := plainE Go.Proofs.Tryz.prog fuel 302 [e329] [] Go.Proofs.Tryz.f302
theorem ok302 : EntryOk Go.Proofs.Tryz.prog e302 := plain_ok mixed (.cons ok329 .nil) Go.Proofs.Tryz.func302 (by kernel_rfl)
/- (*pluginhost/generation.Slots).Issue -/
noncomputable def e276 : Entry := plainE Go.Proofs.Tryz.prog fuel 276 [e302] [] Go.Proofs.Tryz.f276
theorem ok276 : EntryOk Go.Proofs.Tryz.prog e276 := plain_ok mixed (.cons ok302 .nil) Go.Proofs.Tryz.func276 (by kernel_rfl)
/- pluginhost/handle.pack -/
noncomputable def e303 : Entry := aloneE Go.Proofs.Tryz.prog fuel 303 [some (.int .u64)] [] [] Go.Proofs.Tryz.f303
theorem ok303 : EntryOk Go.Proofs.Tryz.prog e303 := single_ok mixed .nil Go.Proofs.Tryz.func303 (by kernel_rfl)
/- pluginhost/handle.Pack -/
noncomputable def e277 : Entry := aloneE Go.Proofs.Tryz.prog fuel 277 [some (.int .u64), some (.int .i64)] [e303] [] Go.Proofs.Tryz.f277
theorem ok277 : EntryOk Go.Proofs.Tryz.prog e277 := single_ok mixed (.cons ok303 .nil) Go.Proofs.Tryz.func277 (by kernel_rfl)
/- (*pluginhost/handletab.Table).Issue -/
noncomputable def e222 : Entry := handE Go.Proofs.Tryz.prog fuel 222 [e130, e275, e276, e277] [] Go.Proofs.Tryz.f222
theorem ok222 : EntryOk Go.Proofs.Tryz.prog e222 := handed_ok mixed (.cons ok130 (.cons ok275 (.cons ok276 (.cons ok277 .nil)))) Go.Proofs.Tryz.func222 (by kernel_rfl)
/- (*pluginhost/heap.Heap).Alloc$1 -/
noncomputable def e215 : Entry := treeHE Go.Proofs.Tryz.prog fuel 215 [e197, e216, e217, e218, e219, e220, e221, e222] [] [(1, [[], [0], [1], [2], [], [3, 4], [5], [6], [6], [], [9, 7, 5, 0, 1, 2, 3, 4, 5, 6, 7, 9], [8, 10, 0, 1, 2, 3, 4, 5, 6, 7, 8, 9, 10]])] [0, 1, 2, 4, 3, 5, 16, 17, 18, 19, 20, 21, 15, 22, 23, 6, 7] Go.Proofs.Tryz.f215
theorem ok215 : EntryOk Go.Proofs.Tryz.prog e215 := treedH_ok mixed (.cons ok197 (.cons ok216 (.cons ok217 (.cons ok218 (.cons ok219 (.cons ok220 (.cons ok221 (.cons ok222 .nil)))))))) Go.Proofs.Tryz.func215 (by kernel_rfl)
/- (*pluginhost/heap.Heap).act -/
noncomputable def e214 : Entry := plainE Go.Proofs.Tryz.prog fuel 214 [e99, e107, e147, e215] [] Go.Proofs.Tryz.f214
theorem ok214 : EntryOk Go.Proofs.Tryz.prog e214 := plain_ok mixed (.cons ok99 (.cons ok107 (.cons ok147 (.cons ok215 .nil)))) Go.Proofs.Tryz.func214 (by kernel_rfl)
end Go.Ph
end
