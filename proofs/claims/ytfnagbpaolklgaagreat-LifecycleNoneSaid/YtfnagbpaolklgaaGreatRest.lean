/- The example of the chapter: its functions. -/
import Derived.Test.YtfnagbpaolklgaaGreatHeap
import Derived.Test.YtfnagbpaolklgaaGreatAlloc
set_option linter.unusedVariables false
noncomputable section
namespace Go.Ph
/- slices.Clone[[]uint64,uint64] -/
noncomputable def e103 : Entry := ⟨103, hand (cloneO (.int .u64) 46 8), false, true, noIter, false⟩
theorem ok103 : EntryOk Go.Proofs.Tryz.prog e103 := ⟨hand_ok (
  clone_ok mixed Go.Proofs.Tryz.func103 rfl rfl rfl Go.Proofs.Tryz.underlying22 rfl rfl rfl rfl rfl rfl (by kernel_rfl) (by kernel_rfl) (by kernel_rfl) rfl rfl rfl
    (fun c h => by kernel_rfl) (fun c h => by kernel_rfl)
    (clone_tail (by kernel_rfl) Go.Proofs.Tryz.underlying22 (by kernel_rfl) (by kernel_rfl) rfl rfl rfl rfl rfl rfl rfl rfl rfl rfl rfl rfl (fun Z ρ k => by kernel_rfl))), noIter_ok _ _⟩
/- slices.Clone[[]pluginhost/api.Frame,pluginhost/api.Frame] -/
noncomputable def e114 : Entry := ⟨114, hand (cloneO (.pair (.int .i64) (.pair (.int .i64) (.pair (.int .i64) (.int .i64)))) 216 32), false, true, noIter, false⟩
theorem ok114 : EntryOk Go.Proofs.Tryz.prog e114 := ⟨hand_ok (
  clone_ok mixed Go.Proofs.Tryz.func114 rfl rfl rfl Go.Proofs.Tryz.underlying170 rfl rfl rfl rfl rfl rfl (by kernel_rfl) (by kernel_rfl) (by kernel_rfl) rfl rfl rfl
    (fun c h => by kernel_rfl) (fun c h => by kernel_rfl)
    (clone_tail (by kernel_rfl) Go.Proofs.Tryz.underlying170 (by kernel_rfl) (by kernel_rfl) rfl rfl rfl rfl rfl rfl rfl rfl rfl rfl rfl rfl (fun Z ρ k => by kernel_rfl))), noIter_ok _ _⟩
/- (*pluginhost/machine.Machine).State -/
noncomputable def e75 : Entry := plainE Go.Proofs.Tryz.prog fuel 75 [e103, e114] [] Go.Proofs.Tryz.f75
theorem ok75 : EntryOk Go.Proofs.Tryz.prog e75 := plain_ok mixed (.cons ok103 (.cons ok114 .nil)) Go.Proofs.Tryz.func75 (by kernel_rfl)
/- (*pluginhost/lifecycle.Plugin).state -/
noncomputable def e34 : Entry := plainE Go.Proofs.Tryz.prog fuel 34 [e75] [] Go.Proofs.Tryz.f34
theorem ok34 : EntryOk Go.Proofs.Tryz.prog e34 := plain_ok mixed (.cons ok75 .nil) Go.Proofs.Tryz.func34 (by kernel_rfl)
/- (*pluginhost/lifecycle.Plugin).Ready -/
noncomputable def e10 : Entry := plainE Go.Proofs.Tryz.prog fuel 10 [e34] [] Go.Proofs.Tryz.f10
theorem ok10 : EntryOk Go.Proofs.Tryz.prog e10 := plain_ok mixed (.cons ok34 .nil) Go.Proofs.Tryz.func10 (by kernel_rfl)
/- (*pluginhost/machine.Machine).is -/
noncomputable def e76 : Entry := plainE Go.Proofs.Tryz.prog fuel 76 [] [] Go.Proofs.Tryz.f76
theorem ok76 : EntryOk Go.Proofs.Tryz.prog e76 := plain_ok mixed .nil Go.Proofs.Tryz.func76 (by kernel_rfl)
/- (*pluginhost/machine.Machine).top -/
noncomputable def e100 : Entry := plainE Go.Proofs.Tryz.prog fuel 100 [] [] Go.Proofs.Tryz.f100
theorem ok100 : EntryOk Go.Proofs.Tryz.prog e100 := plain_ok mixed .nil Go.Proofs.Tryz.func100 (by kernel_rfl)
/- pluginhost/instr.known -/
noncomputable def e152 : Entry := aloneE Go.Proofs.Tryz.prog fuel 152 [some .bool] [] [] Go.Proofs.Tryz.f152
theorem ok152 : EntryOk Go.Proofs.Tryz.prog e152 := single_ok mixed .nil Go.Proofs.Tryz.func152 (by kernel_rfl)
/- pluginhost/instr.Cost -/
noncomputable def e101 : Entry := aloneE Go.Proofs.Tryz.prog fuel 101 [some (.int .i64)] [e152] [] Go.Proofs.Tryz.f101
theorem ok101 : EntryOk Go.Proofs.Tryz.prog e101 := single_ok mixed (.cons ok152 .nil) Go.Proofs.Tryz.func101 (by kernel_rfl)
/- pluginhost/instr.Arity -/
noncomputable def e104 : Entry := aloneE Go.Proofs.Tryz.prog fuel 104 [some (.int .i64), some .bool] [] [] Go.Proofs.Tryz.f104
theorem ok104 : EntryOk Go.Proofs.Tryz.prog e104 := single_ok mixed .nil Go.Proofs.Tryz.func104 (by kernel_rfl)
/- pluginhost/instr.Effect -/
noncomputable def e211 : Entry := aloneE Go.Proofs.Tryz.prog fuel 211 [some (.int .i64), some (.int .i64), some .bool] [] [] Go.Proofs.Tryz.f211
theorem ok211 : EntryOk Go.Proofs.Tryz.prog e211 := single_ok mixed .nil Go.Proofs.Tryz.func211 (by kernel_rfl)
/- (*pluginhost/machine.Machine).overflows -/
noncomputable def e153 : Entry := plainE Go.Proofs.Tryz.prog fuel 153 [e104, e211] [] Go.Proofs.Tryz.f153
theorem ok153 : EntryOk Go.Proofs.Tryz.prog e153 := plain_ok mixed (.cons ok104 (.cons ok211 .nil)) Go.Proofs.Tryz.func153 (by kernel_rfl)
/- (*pluginhost/machine.Machine).host -/
noncomputable def e156 : Entry := plainE Go.Proofs.Tryz.prog fuel 156 [e103, e104] [] Go.Proofs.Tryz.f156
theorem ok156 : EntryOk Go.Proofs.Tryz.prog e156 := plain_ok mixed (.cons ok103 (.cons ok104 .nil)) Go.Proofs.Tryz.func156 (by kernel_rfl)
/- (*pluginhost/machine.Machine).push -/
noncomputable def e106 : Entry := plainE Go.Proofs.Tryz.prog fuel 106 [] [] Go.Proofs.Tryz.f106
theorem ok106 : EntryOk Go.Proofs.Tryz.prog e106 := plain_ok mixed .nil Go.Proofs.Tryz.func106 (by kernel_rfl)
/- (*pluginhost/machine.Machine).simple -/
noncomputable def e158 : Entry := plainE Go.Proofs.Tryz.prog fuel 158 [e100, e106] [] Go.Proofs.Tryz.f158
theorem ok158 : EntryOk Go.Proofs.Tryz.prog e158 := plain_ok mixed (.cons ok100 (.cons ok106 .nil)) Go.Proofs.Tryz.func158 (by kernel_rfl)
/- (*pluginhost/machine.Machine).execute -/
noncomputable def e102 : Entry := plainE Go.Proofs.Tryz.prog fuel 102 [e100, e153, e156, e158] [] Go.Proofs.Tryz.f102
theorem ok102 : EntryOk Go.Proofs.Tryz.prog e102 := plain_ok mixed (.cons ok100 (.cons ok153 (.cons ok156 (.cons ok158 .nil)))) Go.Proofs.Tryz.func102 (by kernel_rfl)
/- (*pluginhost/machine.Machine).Run -/
noncomputable def e70 : Entry := handE Go.Proofs.Tryz.prog fuel 70 [e76, e100, e101, e102] [] Go.Proofs.Tryz.f70
theorem ok70 : EntryOk Go.Proofs.Tryz.prog e70 := handed_ok mixed (.cons ok76 (.cons ok100 (.cons ok101 (.cons ok102 .nil)))) Go.Proofs.Tryz.func70 (by kernel_rfl)
/- (*pluginhost/machine.Machine).Request -/
noncomputable def e71 : Entry := plainE Go.Proofs.Tryz.prog fuel 71 [e76, e103] [] Go.Proofs.Tryz.f71
theorem ok71 : EntryOk Go.Proofs.Tryz.prog e71 := plain_ok mixed (.cons ok76 (.cons ok103 .nil)) Go.Proofs.Tryz.func71 (by kernel_rfl)
/- (*pluginhost/heap.Heap).Alloc -/
noncomputable def e159 : Entry := plainE Go.Proofs.Tryz.prog fuel 159 [k214] [] Go.Proofs.Tryz.f159
theorem ok159 : EntryOk Go.Proofs.Tryz.prog e159 := plain_ok mixed (.cons ok214k .nil) Go.Proofs.Tryz.func159 (by kernel_rfl)
/- pluginhost/hostcall.Index -/
noncomputable def e229 : Entry := aloneE Go.Proofs.Tryz.prog fuel 229 [some (.int .i64)] [] [] Go.Proofs.Tryz.f229
theorem ok229 : EntryOk Go.Proofs.Tryz.prog e229 := single_ok mixed .nil Go.Proofs.Tryz.func229 (by kernel_rfl)
/- (*pluginhost/hostcall.caller).index -/
noncomputable def e164 : Entry := plainE Go.Proofs.Tryz.prog fuel 164 [e229] [] Go.Proofs.Tryz.f164
theorem ok164 : EntryOk Go.Proofs.Tryz.prog e164 := plain_ok mixed (.cons ok229 .nil) Go.Proofs.Tryz.func164 (by kernel_rfl)
/- (*pluginhost/hostcall.caller).tag -/
noncomputable def e160 : Entry := cleanE Go.Proofs.Tryz.prog fuel 160 [e164] [] Go.Proofs.Tryz.f160
theorem ok160 : EntryOk Go.Proofs.Tryz.prog e160 := cleaned_ok mixed (.cons ok164 .nil) Go.Proofs.Tryz.func160 (by kernel_rfl)
/- (*pluginhost/hostcall.caller).do -/
noncomputable def e105 : Entry := plainE Go.Proofs.Tryz.prog fuel 105 [e159, e160] [] Go.Proofs.Tryz.f105
theorem ok105 : EntryOk Go.Proofs.Tryz.prog e105 := plain_ok mixed (.cons ok159 (.cons ok160 .nil)) Go.Proofs.Tryz.func105 (by kernel_rfl)
/- pluginhost/hostcall.Do -/
noncomputable def e72 : Entry := plainE Go.Proofs.Tryz.prog fuel 72 [e104, e105] [] Go.Proofs.Tryz.f72
theorem ok72 : EntryOk Go.Proofs.Tryz.prog e72 := plain_ok mixed (.cons ok104 (.cons ok105 .nil)) Go.Proofs.Tryz.func72 (by kernel_rfl)
/- (*pluginhost/machine.Machine).Resume -/
noncomputable def e73 : Entry := plainE Go.Proofs.Tryz.prog fuel 73 [e76, e106] [] Go.Proofs.Tryz.f73
theorem ok73 : EntryOk Go.Proofs.Tryz.prog e73 := plain_ok mixed (.cons ok76 (.cons ok106 .nil)) Go.Proofs.Tryz.func73 (by kernel_rfl)
/- (*pluginhost/lifecycle.Plugin).run -/
noncomputable def e32 : Entry := plainE Go.Proofs.Tryz.prog fuel 32 [e70, e71, e72, e73] [] Go.Proofs.Tryz.f32
theorem ok32 : EntryOk Go.Proofs.Tryz.prog e32 := plain_ok mixed (.cons ok70 (.cons ok71 (.cons ok72 (.cons ok73 .nil)))) Go.Proofs.Tryz.func32 (by kernel_rfl)
/- maps.Values[map[pluginhost/borrow.key]pluginhost/api.Borrow,pluginhost/borrow.key,pluginhost/api.Borrow] -/
noncomputable def e261 : Entry := plainE Go.Proofs.Tryz.prog fuel 261 [] [] Go.Proofs.Tryz.f261
theorem ok261 : EntryOk Go.Proofs.Tryz.prog e261 := plain_ok mixed .nil Go.Proofs.Tryz.func261 (by kernel_rfl)
/- math/bits.Len64 -/
noncomputable def e318 : Entry := aloneE Go.Proofs.Tryz.prog fuel 318 [some (.int .i64)] [] [] Go.Proofs.Tryz.f318
theorem ok318 : EntryOk Go.Proofs.Tryz.prog e318 := single_ok mixed .nil Go.Proofs.Tryz.func318 (by kernel_rfl)
/- math/bits.Len -/
noncomputable def e295 : Entry := aloneE Go.Proofs.Tryz.prog fuel 295 [some (.int .i64)] [e318] [] Go.Proofs.Tryz.f295
theorem ok295 : EntryOk Go.Proofs.Tryz.prog e295 := single_ok mixed (.cons ok318 .nil) Go.Proofs.Tryz.func295 (by kernel_rfl)
/- slices.insertionSortCmpFunc[pluginhost/api.Borrow] -/
noncomputable def e319 : Entry := plainE Go.Proofs.Tryz.prog fuel 319 [] [] Go.Proofs.Tryz.f319
theorem ok319 : EntryOk Go.Proofs.Tryz.prog e319 := plain_ok mixed .nil Go.Proofs.Tryz.func319 (by kernel_rfl)
/- slices.pdqsortCmpFunc[pluginhost/api.Borrow] -/
noncomputable def e297 : Entry := plainE Go.Proofs.Tryz.prog fuel 297 [e319] [] Go.Proofs.Tryz.f297
theorem ok297 : EntryOk Go.Proofs.Tryz.prog e297 := plain_ok mixed (.cons ok319 .nil) Go.Proofs.Tryz.func297 (by kernel_rfl)
/- slices.SortFunc[[]pluginhost/api.Borrow,pluginhost/api.Borrow] -/
noncomputable def e262 : Entry := plainE Go.Proofs.Tryz.prog fuel 262 [e295, e297] [] Go.Proofs.Tryz.f262
theorem ok262 : EntryOk Go.Proofs.Tryz.prog e262 := plain_ok mixed (.cons ok295 (.cons ok297 .nil)) Go.Proofs.Tryz.func262 (by kernel_rfl)
/- maps.Values[map[pluginhost/borrow.key]pluginhost/api.Borrow,pluginhost/borrow.key,pluginhost/api.Borrow]$1 -/
noncomputable def e296 : Entry := iterE Go.Proofs.Tryz.prog fuel 296 [] [] Go.Proofs.Tryz.f296
theorem ok296 : EntryOk Go.Proofs.Tryz.prog e296 := itered_ok mixed .nil Go.Proofs.Tryz.func296 (by kernel_rfl)
/- (*pluginhost/borrow.Ledger).find -/
noncomputable def e199 : Entry := plainE Go.Proofs.Tryz.prog fuel 199 [e261, e262, e296] [] Go.Proofs.Tryz.f199
theorem ok199 : EntryOk Go.Proofs.Tryz.prog e199 := plain_ok mixed (.cons ok261 (.cons ok262 (.cons ok296 .nil))) Go.Proofs.Tryz.func199 (by kernel_rfl)
/- (*pluginhost/borrow.Ledger).held -/
noncomputable def e173 : Entry := plainE Go.Proofs.Tryz.prog fuel 173 [e199] [] Go.Proofs.Tryz.f173
theorem ok173 : EntryOk Go.Proofs.Tryz.prog e173 := plain_ok mixed (.cons ok199 .nil) Go.Proofs.Tryz.func173 (by kernel_rfl)
/- (*pluginhost/borrow.Ledger).EndHolder -/
noncomputable def e108 : Entry := plainE Go.Proofs.Tryz.prog fuel 108 [e173] [] Go.Proofs.Tryz.f108
theorem ok108 : EntryOk Go.Proofs.Tryz.prog e108 := plain_ok mixed (.cons ok173 .nil) Go.Proofs.Tryz.func108 (by kernel_rfl)
/- (*pluginhost/handletab.Table).All -/
noncomputable def e109 : Entry := plainE Go.Proofs.Tryz.prog fuel 109 [] [] Go.Proofs.Tryz.f109
theorem ok109 : EntryOk Go.Proofs.Tryz.prog e109 := plain_ok mixed .nil Go.Proofs.Tryz.func109 (by kernel_rfl)
/- (*pluginhost/borrow.Ledger).Of -/
noncomputable def e127 : Entry := plainE Go.Proofs.Tryz.prog fuel 127 [e199] [] Go.Proofs.Tryz.f127
theorem ok127 : EntryOk Go.Proofs.Tryz.prog e127 := plain_ok mixed (.cons ok199 .nil) Go.Proofs.Tryz.func127 (by kernel_rfl)
/- (*pluginhost/borrow.Ledger).EndObject -/
noncomputable def e110 : Entry := plainE Go.Proofs.Tryz.prog fuel 110 [e127] [] Go.Proofs.Tryz.f110
theorem ok110 : EntryOk Go.Proofs.Tryz.prog e110 := plain_ok mixed (.cons ok127 .nil) Go.Proofs.Tryz.func110 (by kernel_rfl)
/- (*pluginhost/allocator.Allocator).Has -/
noncomputable def e260 : Entry := cleanE Go.Proofs.Tryz.prog fuel 260 [] [] Go.Proofs.Tryz.f260
theorem ok260 : EntryOk Go.Proofs.Tryz.prog e260 := cleaned_ok mixed .nil Go.Proofs.Tryz.func260 (by kernel_rfl)
/- (*pluginhost/arena.Arena).slice -/
noncomputable def e195 : Entry := plainE Go.Proofs.Tryz.prog fuel 195 [e128, e260] [] Go.Proofs.Tryz.f195
theorem ok195 : EntryOk Go.Proofs.Tryz.prog e195 := plain_ok mixed (.cons ok128 (.cons ok260 .nil)) Go.Proofs.Tryz.func195 (by kernel_rfl)
/- slices.Grow[[]pluginhost/api.Extent,pluginhost/api.Extent] -/
noncomputable def e332 : Entry := plainE Go.Proofs.Tryz.prog fuel 332 [] [] Go.Proofs.Tryz.f332
theorem ok332 : EntryOk Go.Proofs.Tryz.prog e332 := plain_ok mixed .nil Go.Proofs.Tryz.func332 (by kernel_rfl)
/- slices.Concat[[]pluginhost/api.Extent,pluginhost/api.Extent] -/
noncomputable def e307 : Entry := aloneE Go.Proofs.Tryz.prog fuel 307 [some (.sl (.pair (.int .i64) (.int .i64)))] [e332] [] Go.Proofs.Tryz.f307
theorem ok307 : EntryOk Go.Proofs.Tryz.prog e307 := single_ok mixed (.cons ok332 .nil) Go.Proofs.Tryz.func307 (by kernel_rfl)
/- pluginhost/extents.Insert -/
noncomputable def e288 : Entry := aloneE Go.Proofs.Tryz.prog fuel 288 [some (.sl (.pair (.int .i64) (.int .i64))), some (.int .i64)] [e204, e205, e267, e306, e307] [] Go.Proofs.Tryz.f288
theorem ok288 : EntryOk Go.Proofs.Tryz.prog e288 := single_ok mixed (.cons ok204 (.cons ok205 (.cons ok267 (.cons ok306 (.cons ok307 .nil))))) Go.Proofs.Tryz.func288 (by kernel_rfl)
/- (*pluginhost/allocator.Allocator).Free -/
noncomputable def e247 : Entry := plainE Go.Proofs.Tryz.prog fuel 247 [e260, e288] [] Go.Proofs.Tryz.f247
theorem ok247 : EntryOk Go.Proofs.Tryz.prog e247 := plain_ok mixed (.cons ok260 (.cons ok288 .nil)) Go.Proofs.Tryz.func247 (by kernel_rfl)
/- (*pluginhost/arena.Arena).Free -/
noncomputable def e179 : Entry := plainE Go.Proofs.Tryz.prog fuel 179 [e195, e247] [] Go.Proofs.Tryz.f179
theorem ok179 : EntryOk Go.Proofs.Tryz.prog e179 := plain_ok mixed (.cons ok195 (.cons ok247 .nil)) Go.Proofs.Tryz.func179 (by kernel_rfl)
/- (*pluginhost/generation.Slots).Size -/
noncomputable def e176 : Entry := plainE Go.Proofs.Tryz.prog fuel 176 [] [] Go.Proofs.Tryz.f176
theorem ok176 : EntryOk Go.Proofs.Tryz.prog e176 := plain_ok mixed .nil Go.Proofs.Tryz.func176 (by kernel_rfl)
/- (*pluginhost/generation.Slots).Live -/
noncomputable def e177 : Entry := plainE Go.Proofs.Tryz.prog fuel 177 [e176] [] Go.Proofs.Tryz.f177
theorem ok177 : EntryOk Go.Proofs.Tryz.prog e177 := plain_ok mixed (.cons ok176 .nil) Go.Proofs.Tryz.func177 (by kernel_rfl)
/- pluginhost/handle.Slot -/
noncomputable def e243 : Entry := aloneE Go.Proofs.Tryz.prog fuel 243 [some (.int .i64)] [] [] Go.Proofs.Tryz.f243
theorem ok243 : EntryOk Go.Proofs.Tryz.prog e243 := single_ok mixed .nil Go.Proofs.Tryz.func243 (by kernel_rfl)
/- pluginhost/handle.Gen -/
noncomputable def e286 : Entry := aloneE Go.Proofs.Tryz.prog fuel 286 [some (.int .i64)] [] [] Go.Proofs.Tryz.f286
theorem ok286 : EntryOk Go.Proofs.Tryz.prog e286 := single_ok mixed .nil Go.Proofs.Tryz.func286 (by kernel_rfl)
/- pluginhost/handle.Tag -/
noncomputable def e287 : Entry := aloneE Go.Proofs.Tryz.prog fuel 287 [some (.int .i64)] [] [] Go.Proofs.Tryz.f287
theorem ok287 : EntryOk Go.Proofs.Tryz.prog e287 := single_ok mixed .nil Go.Proofs.Tryz.func287 (by kernel_rfl)
/- (*pluginhost/handletab.Table).Resolve -/
noncomputable def e242 : Entry := plainE Go.Proofs.Tryz.prog fuel 242 [e130, e176, e177, e243, e286, e287] [] Go.Proofs.Tryz.f242
theorem ok242 : EntryOk Go.Proofs.Tryz.prog e242 := plain_ok mixed (.cons ok130 (.cons ok176 (.cons ok177 (.cons ok243 (.cons ok286 (.cons ok287 .nil)))))) Go.Proofs.Tryz.func242 (by kernel_rfl)
/- (*pluginhost/generation.Slots).End -/
noncomputable def e248 : Entry := plainE Go.Proofs.Tryz.prog fuel 248 [e137, e177] [] Go.Proofs.Tryz.f248
theorem ok248 : EntryOk Go.Proofs.Tryz.prog e248 := plain_ok mixed (.cons ok137 (.cons ok177 .nil)) Go.Proofs.Tryz.func248 (by kernel_rfl)
/- (*pluginhost/handletab.Table).Drop -/
noncomputable def e180 : Entry := plainE Go.Proofs.Tryz.prog fuel 180 [e242, e243, e248] [] Go.Proofs.Tryz.f180
theorem ok180 : EntryOk Go.Proofs.Tryz.prog e180 := plain_ok mixed (.cons ok242 (.cons ok243 (.cons ok248 .nil))) Go.Proofs.Tryz.func180 (by kernel_rfl)
/- (*pluginhost/heap.Heap).drop -/
noncomputable def e112 : Entry := plainE Go.Proofs.Tryz.prog fuel 112 [e179, e180] [] Go.Proofs.Tryz.f112
theorem ok112 : EntryOk Go.Proofs.Tryz.prog e112 := plain_ok mixed (.cons ok179 (.cons ok180 .nil)) Go.Proofs.Tryz.func112 (by kernel_rfl)
/- (*pluginhost/quota.Meter).Reset -/
noncomputable def e113 : Entry := plainE Go.Proofs.Tryz.prog fuel 113 [] [] Go.Proofs.Tryz.f113
theorem ok113 : EntryOk Go.Proofs.Tryz.prog e113 := plain_ok mixed .nil Go.Proofs.Tryz.func113 (by kernel_rfl)
/- (*pluginhost/handletab.Table).All$1 -/
noncomputable def e175 : Entry := iterE Go.Proofs.Tryz.prog fuel 175 [e130, e176, e177] [] Go.Proofs.Tryz.f175
theorem ok175 : EntryOk Go.Proofs.Tryz.prog e175 := itered_ok mixed (.cons ok130 (.cons ok176 (.cons ok177 .nil))) Go.Proofs.Tryz.func175 (by kernel_rfl)
/- (*pluginhost/heap.Heap).End -/
noncomputable def e74 : Entry := plainE Go.Proofs.Tryz.prog fuel 74 [e99, e107, e108, e109, e110, e112, e113, e175] [] Go.Proofs.Tryz.f74
theorem ok74 : EntryOk Go.Proofs.Tryz.prog e74 := plain_ok mixed (.cons ok99 (.cons ok107 (.cons ok108 (.cons ok109 (.cons ok110 (.cons ok112 (.cons ok113 (.cons ok175 .nil)))))))) Go.Proofs.Tryz.func74 (by kernel_rfl)
/- (*pluginhost/lifecycle.Plugin).finish -/
noncomputable def e33 : Entry := plainE Go.Proofs.Tryz.prog fuel 33 [e34, e74] [] Go.Proofs.Tryz.f33
theorem ok33 : EntryOk Go.Proofs.Tryz.prog e33 := plain_ok mixed (.cons ok34 (.cons ok74 .nil)) Go.Proofs.Tryz.func33 (by kernel_rfl)
/- (*pluginhost/lifecycle.Plugin).Step -/
noncomputable def e8 : Entry := plainE Go.Proofs.Tryz.prog fuel 8 [e10, e32, e33, e34] [] Go.Proofs.Tryz.f8
theorem ok8 : EntryOk Go.Proofs.Tryz.prog e8 := plain_ok mixed (.cons ok10 (.cons ok32 (.cons ok33 (.cons ok34 .nil)))) Go.Proofs.Tryz.func8 (by kernel_rfl)
/- pluginhost/module.checkParts -/
noncomputable def e186 : Entry := aloneE Go.Proofs.Tryz.prog fuel 186 [some (.int .i64)] [e97] [] Go.Proofs.Tryz.f186
theorem ok186 : EntryOk Go.Proofs.Tryz.prog e186 := single_ok mixed (.cons ok97 .nil) Go.Proofs.Tryz.func186 (by kernel_rfl)
/- pluginhost/module.checkFunc -/
noncomputable def e187 : Entry := aloneE Go.Proofs.Tryz.prog fuel 187 [some (.int .i64)] [] [] Go.Proofs.Tryz.f187
theorem ok187 : EntryOk Go.Proofs.Tryz.prog e187 := single_ok mixed .nil Go.Proofs.Tryz.func187 (by kernel_rfl)
/- pluginhost/instr.HasArg -/
noncomputable def e253 : Entry := aloneE Go.Proofs.Tryz.prog fuel 253 [some .bool] [] [] Go.Proofs.Tryz.f253
theorem ok253 : EntryOk Go.Proofs.Tryz.prog e253 := single_ok mixed .nil Go.Proofs.Tryz.func253 (by kernel_rfl)
/- pluginhost/instr.Check -/
noncomputable def e188 : Entry := aloneE Go.Proofs.Tryz.prog fuel 188 [some (.int .i64)] [e152, e253] [] Go.Proofs.Tryz.f188
theorem ok188 : EntryOk Go.Proofs.Tryz.prog e188 := single_ok mixed (.cons ok152 (.cons ok253 .nil)) Go.Proofs.Tryz.func188 (by kernel_rfl)
/- pluginhost/module.Check -/
noncomputable def e117 : Entry := aloneE Go.Proofs.Tryz.prog fuel 117 [some (.pair (.int .i64) (.pair (.int .i64) (.int .i64)))] [e186, e187, e188] [] Go.Proofs.Tryz.f117
theorem ok117 : EntryOk Go.Proofs.Tryz.prog e117 := single_ok mixed (.cons ok186 (.cons ok187 (.cons ok188 .nil))) Go.Proofs.Tryz.func117 (by kernel_rfl)
/- pluginhost/flow.fine -/
noncomputable def e193 : Entry := aloneE Go.Proofs.Tryz.prog fuel 193 [some (.pair (.int .i64) (.pair (.int .i64) (.int .i64)))] [] [] Go.Proofs.Tryz.f193
theorem ok193 : EntryOk Go.Proofs.Tryz.prog e193 := single_ok mixed .nil Go.Proofs.Tryz.func193 (by kernel_rfl)
/- pluginhost/flow.find -/
noncomputable def e254 : Entry := aloneE Go.Proofs.Tryz.prog fuel 254 [some (.pair (.int .i64) (.pair (.int .i64) (.pair (.int .i64) (.sl (.pair (.int .i64) (.int .u64)))))), some (.pair (.int .i64) (.pair (.int .i64) (.int .i64)))] [e117, e193] [] Go.Proofs.Tryz.f254
theorem ok254 : EntryOk Go.Proofs.Tryz.prog e254 := single_ok mixed (.cons ok117 (.cons ok193 .nil)) Go.Proofs.Tryz.func254 (by kernel_rfl)
/- pluginhost/flow.arity -/
noncomputable def e293 : Entry := aloneE Go.Proofs.Tryz.prog fuel 293 [some (.int .i64), some .bool] [e104] [] Go.Proofs.Tryz.f293
theorem ok293 : EntryOk Go.Proofs.Tryz.prog e293 := single_ok mixed (.cons ok104 .nil) Go.Proofs.Tryz.func293 (by kernel_rfl)
/- pluginhost/flow.isHost -/
noncomputable def e289 : Entry := aloneE Go.Proofs.Tryz.prog fuel 289 [some .bool] [e293] [] Go.Proofs.Tryz.f289
theorem ok289 : EntryOk Go.Proofs.Tryz.prog e289 := single_ok mixed (.cons ok293 .nil) Go.Proofs.Tryz.func289 (by kernel_rfl)
/- pluginhost/instr.Ends -/
noncomputable def e290 : Entry := aloneE Go.Proofs.Tryz.prog fuel 290 [some .bool] [] [] Go.Proofs.Tryz.f290
theorem ok290 : EntryOk Go.Proofs.Tryz.prog e290 := single_ok mixed .nil Go.Proofs.Tryz.func290 (by kernel_rfl)
/- pluginhost/flow.static -/
noncomputable def e255 : Entry := aloneE Go.Proofs.Tryz.prog fuel 255 [some (.int .i64)] [e289, e290] [] Go.Proofs.Tryz.f255
theorem ok255 : EntryOk Go.Proofs.Tryz.prog e255 := single_ok mixed (.cons ok289 (.cons ok290 .nil)) Go.Proofs.Tryz.func255 (by kernel_rfl)
/- pluginhost/flow.Static -/
noncomputable def e189 : Entry := aloneE Go.Proofs.Tryz.prog fuel 189 [some (.pair (.int .i64) (.pair (.int .i64) (.int .i64)))] [e193, e254, e255] [] Go.Proofs.Tryz.f189
theorem ok189 : EntryOk Go.Proofs.Tryz.prog e189 := single_ok mixed (.cons ok193 (.cons ok254 (.cons ok255 .nil))) Go.Proofs.Tryz.func189 (by kernel_rfl)
/- math/bits.Mul64 -/
noncomputable def e292 : Entry := aloneE Go.Proofs.Tryz.prog fuel 292 [some (.int .u64), some (.int .u64)] [] [] Go.Proofs.Tryz.f292
theorem ok292 : EntryOk Go.Proofs.Tryz.prog e292 := single_ok mixed .nil Go.Proofs.Tryz.func292 (by kernel_rfl)
/- math/bits.Mul -/
noncomputable def e256 : Entry := aloneE Go.Proofs.Tryz.prog fuel 256 [some (.int .u64), some (.int .u64)] [e292] [] Go.Proofs.Tryz.f256
theorem ok256 : EntryOk Go.Proofs.Tryz.prog e256 := single_ok mixed (.cons ok292 .nil) Go.Proofs.Tryz.func256 (by kernel_rfl)
/- slices.Repeat[[]int,int] -/
noncomputable def e190 : Entry := plainE Go.Proofs.Tryz.prog fuel 190 [e256] [30] Go.Proofs.Tryz.f190
theorem ok190 : EntryOk Go.Proofs.Tryz.prog e190 := plain_ok mixed (.cons ok256 .nil) Go.Proofs.Tryz.func190 (by kernel_rfl)
/- pluginhost/flow.next -/
noncomputable def e192 : Entry := aloneE Go.Proofs.Tryz.prog fuel 192 [some (.sl (.int .i64))] [] [] Go.Proofs.Tryz.f192
theorem ok192 : EntryOk Go.Proofs.Tryz.prog e192 := single_ok mixed .nil Go.Proofs.Tryz.func192 (by kernel_rfl)
/- pluginhost/flow.effect -/
noncomputable def e257 : Entry := aloneE Go.Proofs.Tryz.prog fuel 257 [some (.int .i64), some (.int .i64)] [e211, e293] [] Go.Proofs.Tryz.f257
theorem ok257 : EntryOk Go.Proofs.Tryz.prog e257 := single_ok mixed (.cons ok211 (.cons ok293 .nil)) Go.Proofs.Tryz.func257 (by kernel_rfl)
/- pluginhost/flow.process -/
noncomputable def e191 : Entry := plainE Go.Proofs.Tryz.prog fuel 191 [e192, e257] [] Go.Proofs.Tryz.f191
theorem ok191 : EntryOk Go.Proofs.Tryz.prog e191 := plain_ok mixed (.cons ok192 (.cons ok257 .nil)) Go.Proofs.Tryz.func191 (by kernel_rfl)
/- pluginhost/flow.Heights -/
noncomputable def e118 : Entry := aloneE Go.Proofs.Tryz.prog fuel 118 [some (.sl (.int .i64)), some (.pair (.int .i64) (.pair (.int .i64) (.int .i64)))] [e189, e190, e191, e192, e193] [35] Go.Proofs.Tryz.f118
theorem ok118 : EntryOk Go.Proofs.Tryz.prog e118 := single_ok mixed (.cons ok189 (.cons ok190 (.cons ok191 (.cons ok192 (.cons ok193 .nil))))) Go.Proofs.Tryz.func118 (by kernel_rfl)
/- pluginhost/verify.Verify -/
noncomputable def e79 : Entry := aloneE Go.Proofs.Tryz.prog fuel 79 [some (.pair (.int .i64) (.pair (.int .i64) (.int .i64)))] [e117, e118] [] Go.Proofs.Tryz.f79
theorem ok79 : EntryOk Go.Proofs.Tryz.prog e79 := single_ok mixed (.cons ok117 (.cons ok118 .nil)) Go.Proofs.Tryz.func79 (by kernel_rfl)
/- slices.Clone[[]pluginhost/api.Instr,pluginhost/api.Instr] -/
noncomputable def e138 : Entry := ⟨138, hand (cloneO (.pair (.int .i64) (.int .u64)) 96 16), false, true, noIter, false⟩
theorem ok138 : EntryOk Go.Proofs.Tryz.prog e138 := ⟨hand_ok (
  clone_ok mixed Go.Proofs.Tryz.func138 rfl rfl rfl Go.Proofs.Tryz.underlying97 rfl rfl rfl rfl rfl rfl (by kernel_rfl) (by kernel_rfl) (by kernel_rfl) rfl rfl rfl
    (fun c h => by kernel_rfl) (fun c h => by kernel_rfl)
    (clone_tail (by kernel_rfl) Go.Proofs.Tryz.underlying97 (by kernel_rfl) (by kernel_rfl) rfl rfl rfl rfl rfl rfl rfl rfl rfl rfl rfl rfl (fun Z ρ k => by kernel_rfl))), noIter_ok _ _⟩
/- pluginhost/machine.copied -/
noncomputable def e96 : Entry := aloneE Go.Proofs.Tryz.prog fuel 96 [some (.pair (.sl (.pair (.int .i64) (.sl (.pair (.int .i64) (.int .i64))))) (.sl (.pair (.int .i64) (.pair (.int .i64) (.pair (.int .i64) (.sl (.pair (.int .i64) (.int .u64))))))))] [e138] [] Go.Proofs.Tryz.f96
theorem ok96 : EntryOk Go.Proofs.Tryz.prog e96 := single_ok mixed (.cons ok138 .nil) Go.Proofs.Tryz.func96 (by kernel_rfl)
/- pluginhost/machine.New -/
noncomputable def e62 : Entry := plainE Go.Proofs.Tryz.prog fuel 62 [e79, e96] [52, 54] Go.Proofs.Tryz.f62
theorem ok62 : EntryOk Go.Proofs.Tryz.prog e62 := plain_ok mixed (.cons ok79 (.cons ok96 .nil)) Go.Proofs.Tryz.func62 (by kernel_rfl)
/- slices.IndexFunc[[]pluginhost/api.Type,pluginhost/api.Type] -/
noncomputable def e143 : Entry := plainE Go.Proofs.Tryz.prog fuel 143 [] [] Go.Proofs.Tryz.f143
theorem ok143 : EntryOk Go.Proofs.Tryz.prog e143 := plain_ok mixed .nil Go.Proofs.Tryz.func143 (by kernel_rfl)
/- (*pluginhost/typereg.Registry).Register -/
noncomputable def e98 : Entry := plainE Go.Proofs.Tryz.prog fuel 98 [e97, e143, e144] [] Go.Proofs.Tryz.f98
theorem ok98 : EntryOk Go.Proofs.Tryz.prog e98 := plain_ok mixed (.cons ok97 (.cons ok143 (.cons ok144 .nil))) Go.Proofs.Tryz.func98 (by kernel_rfl)
/- (*pluginhost/heap.Heap).Define -/
noncomputable def e63 : Entry := plainE Go.Proofs.Tryz.prog fuel 63 [e65, e98] [] Go.Proofs.Tryz.f63
theorem ok63 : EntryOk Go.Proofs.Tryz.prog e63 := plain_ok mixed (.cons ok65 (.cons ok98 .nil)) Go.Proofs.Tryz.func63 (by kernel_rfl)
/- (*pluginhost/heap.Heap).Start -/
noncomputable def e64 : Entry := plainE Go.Proofs.Tryz.prog fuel 64 [e65, e93, e99] [] Go.Proofs.Tryz.f64
theorem ok64 : EntryOk Go.Proofs.Tryz.prog e64 := plain_ok mixed (.cons ok65 (.cons ok93 (.cons ok99 .nil))) Go.Proofs.Tryz.func64 (by kernel_rfl)
/- pluginhost/lifecycle.New -/
noncomputable def e29 : Entry := plainE Go.Proofs.Tryz.prog fuel 29 [e33, e62, e63, e64] [] Go.Proofs.Tryz.f29
theorem ok29 : EntryOk Go.Proofs.Tryz.prog e29 := plain_ok mixed (.cons ok33 (.cons ok62 (.cons ok63 (.cons ok64 .nil)))) Go.Proofs.Tryz.func29 (by kernel_rfl)
/- (*pluginhost/quota.Meter).Get -/
noncomputable def e66 : Entry := plainE Go.Proofs.Tryz.prog fuel 66 [] [] Go.Proofs.Tryz.f66
theorem ok66 : EntryOk Go.Proofs.Tryz.prog e66 := plain_ok mixed .nil Go.Proofs.Tryz.func66 (by kernel_rfl)
/- (*pluginhost/audit.Log).Missed -/
noncomputable def e68 : Entry := cleanE Go.Proofs.Tryz.prog fuel 68 [] [] Go.Proofs.Tryz.f68
theorem ok68 : EntryOk Go.Proofs.Tryz.prog e68 := cleaned_ok mixed .nil Go.Proofs.Tryz.func68 (by kernel_rfl)
/- (*pluginhost/heap.Heap).Usage -/
noncomputable def e30 : Entry := plainE Go.Proofs.Tryz.prog fuel 30 [e65, e66, e67, e68] [] Go.Proofs.Tryz.f30
theorem ok30 : EntryOk Go.Proofs.Tryz.prog e30 := plain_ok mixed (.cons ok65 (.cons ok66 (.cons ok67 (.cons ok68 .nil)))) Go.Proofs.Tryz.func30 (by kernel_rfl)
/- pluginhost/pluginhostlaw25.awake -/
noncomputable def e6 : Entry := aloneE Go.Proofs.Tryz.prog fuel 6 [some .bool] [e8, k28, e29, e30] [] Go.Proofs.Tryz.f6
theorem ok6 : EntryOk Go.Proofs.Tryz.prog e6 := single_ok mixed (.cons ok8 (.cons ok28k (.cons ok29 (.cons ok30 .nil)))) Go.Proofs.Tryz.func6 (by kernel_rfl)
end Go.Ph
end
