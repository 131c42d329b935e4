/- A heap is made. -/
import Derived.Test.YtfnagbpaolklgaaGreatTab
set_option linter.unusedVariables false
noncomputable section
namespace Go.Ph
def a28 : List AV := [.agg [.int .i64 1, .int .i64 64, .int .u32 1, .int .i64 20, .int .i64 64, .int .i64 2, .int .i64 0, .int .i64 1, .int .i64 0]]
def g28 : AH := ⟨[], 0⟩
def r28 : AV := .tuple [.ptr 5 0 0, .int .i64 0]
def h28 : AH := ⟨[(16, .raw [.int .i64 20, .nils, .nils, .int .u64 0, .nilm, .nilm]), (15, .raw [.ptr 10 0 0, .own 14]), (14, .typ (.pair (.int .u64) (.pair (.int .i64) (.pair (.int .i64) (.pair (.int .i64) (.int .i64))))) [(0, (0, (0, (0, 0))))]), (0, .raw [.int .i64 1, .int .i64 64, .int .u32 1, .int .i64 20, .int .i64 64, .int .i64 2, .int .i64 0, .int .i64 1, .int .i64 0]), (1, .raw [.nils]), (2, .raw [.nilm, .nilm]), (3, .raw [.int .i64 64, .int .i64 2, .int .i64 0, .nilm]), (4, .mp (.int .i64) .bool [] 0), (5, .raw [.ptr 9 0 0, .ptr 1 0 0, .ptr 15 0 0, .ptr 2 0 0, .ptr 3 0 0, .ptr 16 0 0, .mapp 4]), (6, .mp (.int .i64) (.int .i64) [] 0), (7, .raw [.fz (.pair (.int .i64) (.int .i64)) [(0, 64)] false, .mapp 6]), (8, .typ (.int .u8) [0, 0, 0, 0, 0, 0, 0, 0, 0, 0, 0, 0, 0, 0, 0, 0, 0, 0, 0, 0, 0, 0, 0, 0, 0, 0, 0, 0, 0, 0, 0, 0, 0, 0, 0, 0, 0, 0, 0, 0, 0, 0, 0, 0, 0, 0, 0, 0, 0, 0, 0, 0, 0, 0, 0, 0, 0, 0, 0, 0, 0, 0, 0, 0]), (9, .raw [.ptr 7 0 0, .own 8]), (10, .raw [.int .i64 1, .own 11, .ptr 12 0 0, .int .i64 0]), (11, .typ (.pair (.int .i64) .bool) [(0, false)]), (12, .raw [.own 13]), (13, .typ (.int .i64) [0])], 17⟩
theorem m28 : e28.spec a28 g28 (AV × AH) pairK = some (r28, h28) := by kernel_rfl
noncomputable def k28 : Entry := memoE 28 a28 g28 r28 h28
theorem ok28k : EntryOk Go.Proofs.Tryz.prog k28 := ⟨memo_ok ok28.1 m28, noIter_ok _ _⟩
end Go.Ph
end
