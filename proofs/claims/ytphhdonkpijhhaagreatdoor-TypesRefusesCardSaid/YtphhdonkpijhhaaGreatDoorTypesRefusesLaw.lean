/- TypesRefuses returns true at every input: the cases put together. -/
import Derived.Test.YtphhdonkpijhhaaGreatDoorTypesRefusesE0
import Derived.Test.YtphhdonkpijhhaaGreatDoorTypesRefusesR0
set_option linter.all false
namespace Go.Proofs.YtphhdonkpijhhaaGreatDoor.Am.TypesRefuses
open Go.AM
set_option maxRecDepth 100000
theorem cgl (a0 a1 a2 a3 : Int) (b0 : (-9223372036854775808 : Int) ≤ a0 ∧ a0 ≤ 9223372036854775807) (b1 : (-9223372036854775808 : Int) ≤ a1 ∧ a1 ≤ 9223372036854775807) (b2 : (-9223372036854775808 : Int) ≤ a2 ∧ a2 ≤ 9223372036854775807) (b3 : (-9223372036854775808 : Int) ≤ a3 ∧ a3 ≤ 9223372036854775807) (hg : a0 < 1) (w : World) (htab : Lib.TabIs Tryz.prog w "internal/strconv.uint64pow10" .u64 Lib.pow10Tab) : Calls Tryz.prog 5 #[.int .i64 a0, .int .i64 a1, .agg #[.int .i64 a2, .int .i64 a3]] w fun e w' => e = .returned (.bool true) ∧ Kept w w' := by
  have hG := hgl a0 a1 a2 a3 b0 b1 hg
  have hl : a2 < 1 ∨ (1 ≤ a2 ∧ a2 ≤ 4096) ∨ 4096 < a2 := by omega
  have hb : a3 < 1 ∨ (1 ≤ a3 ∧ a3 ≤ 1024) ∨ 1024 < a3 := by omega
  rcases hl with hl | hl | hl <;> rcases hb with hb | hb | hb
  · have hL := hLl a0 a1 a2 a3 b2 hl
    have hB := hBl a0 a1 a2 a3 b3 hb
    exact fin htab rfl (cat_hold hG (cat_hold hL hB)) (sE htab hG egl) (sE htab hL eLl) (sE htab hB eBl) rglll
  · have hL := hLl a0 a1 a2 a3 b2 hl
    have hB := hBi a0 a1 a2 a3 b3 hb
    exact fin htab rfl (cat_hold hG (cat_hold hL hB)) (sE htab hG egl) (sE htab hL eLl) (sE htab hB eBi) rglli
  · have hL := hLl a0 a1 a2 a3 b2 hl
    have hB := hBb a0 a1 a2 a3 b3 hb
    exact fin htab rfl (cat_hold hG (cat_hold hL hB)) (sE htab hG egl) (sE htab hL eLl) (sE htab hB eBb) rgllb
  · have hL := hLi a0 a1 a2 a3 b2 hl
    have hB := hBl a0 a1 a2 a3 b3 hb
    exact fin htab rfl (cat_hold hG (cat_hold hL hB)) (sE htab hG egl) (sE htab hL eLi) (sE htab hB eBl) rglil
  · have hL := hLi a0 a1 a2 a3 b2 hl
    have hB := hBi a0 a1 a2 a3 b3 hb
    exact fin htab rfl (cat_hold hG (cat_hold hL hB)) (sE htab hG egl) (sE htab hL eLi) (sE htab hB eBi) rglii
  · have hL := hLi a0 a1 a2 a3 b2 hl
    have hB := hBb a0 a1 a2 a3 b3 hb
    exact fin htab rfl (cat_hold hG (cat_hold hL hB)) (sE htab hG egl) (sE htab hL eLi) (sE htab hB eBb) rglib
  · have hL := hLb a0 a1 a2 a3 b2 hl
    have hB := hBl a0 a1 a2 a3 b3 hb
    exact fin htab rfl (cat_hold hG (cat_hold hL hB)) (sE htab hG egl) (sE htab hL eLb) (sE htab hB eBl) rglbl
  · have hL := hLb a0 a1 a2 a3 b2 hl
    have hB := hBi a0 a1 a2 a3 b3 hb
    exact fin htab rfl (cat_hold hG (cat_hold hL hB)) (sE htab hG egl) (sE htab hL eLb) (sE htab hB eBi) rglbi
  · have hL := hLb a0 a1 a2 a3 b2 hl
    have hB := hBb a0 a1 a2 a3 b3 hb
    exact fin htab rfl (cat_hold hG (cat_hold hL hB)) (sE htab hG egl) (sE htab hL eLb) (sE htab hB eBb) rglbb
theorem cgb (a0 a1 a2 a3 : Int) (b0 : (-9223372036854775808 : Int) ≤ a0 ∧ a0 ≤ 9223372036854775807) (b1 : (-9223372036854775808 : Int) ≤ a1 ∧ a1 ≤ 9223372036854775807) (b2 : (-9223372036854775808 : Int) ≤ a2 ∧ a2 ≤ 9223372036854775807) (b3 : (-9223372036854775808 : Int) ≤ a3 ∧ a3 ≤ 9223372036854775807) (hg : 256 < a0) (w : World) (htab : Lib.TabIs Tryz.prog w "internal/strconv.uint64pow10" .u64 Lib.pow10Tab) : Calls Tryz.prog 5 #[.int .i64 a0, .int .i64 a1, .agg #[.int .i64 a2, .int .i64 a3]] w fun e w' => e = .returned (.bool true) ∧ Kept w w' := by
  have hG := hgb a0 a1 a2 a3 b0 b1 hg
  have hl : a2 < 1 ∨ (1 ≤ a2 ∧ a2 ≤ 4096) ∨ 4096 < a2 := by omega
  have hb : a3 < 1 ∨ (1 ≤ a3 ∧ a3 ≤ 1024) ∨ 1024 < a3 := by omega
  rcases hl with hl | hl | hl <;> rcases hb with hb | hb | hb
  · have hL := hLl a0 a1 a2 a3 b2 hl
    have hB := hBl a0 a1 a2 a3 b3 hb
    exact fin htab rfl (cat_hold hG (cat_hold hL hB)) (sE htab hG egb) (sE htab hL eLl) (sE htab hB eBl) rgbll
  · have hL := hLl a0 a1 a2 a3 b2 hl
    have hB := hBi a0 a1 a2 a3 b3 hb
    exact fin htab rfl (cat_hold hG (cat_hold hL hB)) (sE htab hG egb) (sE htab hL eLl) (sE htab hB eBi) rgbli
  · have hL := hLl a0 a1 a2 a3 b2 hl
    have hB := hBb a0 a1 a2 a3 b3 hb
    exact fin htab rfl (cat_hold hG (cat_hold hL hB)) (sE htab hG egb) (sE htab hL eLl) (sE htab hB eBb) rgblb
  · have hL := hLi a0 a1 a2 a3 b2 hl
    have hB := hBl a0 a1 a2 a3 b3 hb
    exact fin htab rfl (cat_hold hG (cat_hold hL hB)) (sE htab hG egb) (sE htab hL eLi) (sE htab hB eBl) rgbil
  · have hL := hLi a0 a1 a2 a3 b2 hl
    have hB := hBi a0 a1 a2 a3 b3 hb
    exact fin htab rfl (cat_hold hG (cat_hold hL hB)) (sE htab hG egb) (sE htab hL eLi) (sE htab hB eBi) rgbii
  · have hL := hLi a0 a1 a2 a3 b2 hl
    have hB := hBb a0 a1 a2 a3 b3 hb
    exact fin htab rfl (cat_hold hG (cat_hold hL hB)) (sE htab hG egb) (sE htab hL eLi) (sE htab hB eBb) rgbib
  · have hL := hLb a0 a1 a2 a3 b2 hl
    have hB := hBl a0 a1 a2 a3 b3 hb
    exact fin htab rfl (cat_hold hG (cat_hold hL hB)) (sE htab hG egb) (sE htab hL eLb) (sE htab hB eBl) rgbbl
  · have hL := hLb a0 a1 a2 a3 b2 hl
    have hB := hBi a0 a1 a2 a3 b3 hb
    exact fin htab rfl (cat_hold hG (cat_hold hL hB)) (sE htab hG egb) (sE htab hL eLb) (sE htab hB eBi) rgbbi
  · have hL := hLb a0 a1 a2 a3 b2 hl
    have hB := hBb a0 a1 a2 a3 b3 hb
    exact fin htab rfl (cat_hold hG (cat_hold hL hB)) (sE htab hG egb) (sE htab hL eLb) (sE htab hB eBb) rgbbb
theorem csl (a0 a1 a2 a3 : Int) (b0 : (-9223372036854775808 : Int) ≤ a0 ∧ a0 ≤ 9223372036854775807) (b1 : (-9223372036854775808 : Int) ≤ a1 ∧ a1 ≤ 9223372036854775807) (b2 : (-9223372036854775808 : Int) ≤ a2 ∧ a2 ≤ 9223372036854775807) (b3 : (-9223372036854775808 : Int) ≤ a3 ∧ a3 ≤ 9223372036854775807) (hg : (1 ≤ a0 ∧ a0 ≤ 256) ∧ a1 < 1) (w : World) (htab : Lib.TabIs Tryz.prog w "internal/strconv.uint64pow10" .u64 Lib.pow10Tab) : Calls Tryz.prog 5 #[.int .i64 a0, .int .i64 a1, .agg #[.int .i64 a2, .int .i64 a3]] w fun e w' => e = .returned (.bool true) ∧ Kept w w' := by
  have hG := hsl a0 a1 a2 a3 b0 b1 hg
  have hl : a2 < 1 ∨ (1 ≤ a2 ∧ a2 ≤ 4096) ∨ 4096 < a2 := by omega
  have hb : a3 < 1 ∨ (1 ≤ a3 ∧ a3 ≤ 1024) ∨ 1024 < a3 := by omega
  rcases hl with hl | hl | hl <;> rcases hb with hb | hb | hb
  · have hL := hLl a0 a1 a2 a3 b2 hl
    have hB := hBl a0 a1 a2 a3 b3 hb
    exact fin htab rfl (cat_hold hG (cat_hold hL hB)) (sE htab hG esl) (sE htab hL eLl) (sE htab hB eBl) rslll
  · have hL := hLl a0 a1 a2 a3 b2 hl
    have hB := hBi a0 a1 a2 a3 b3 hb
    exact fin htab rfl (cat_hold hG (cat_hold hL hB)) (sE htab hG esl) (sE htab hL eLl) (sE htab hB eBi) rslli
  · have hL := hLl a0 a1 a2 a3 b2 hl
    have hB := hBb a0 a1 a2 a3 b3 hb
    exact fin htab rfl (cat_hold hG (cat_hold hL hB)) (sE htab hG esl) (sE htab hL eLl) (sE htab hB eBb) rsllb
  · have hL := hLi a0 a1 a2 a3 b2 hl
    have hB := hBl a0 a1 a2 a3 b3 hb
    exact fin htab rfl (cat_hold hG (cat_hold hL hB)) (sE htab hG esl) (sE htab hL eLi) (sE htab hB eBl) rslil
  · have hL := hLi a0 a1 a2 a3 b2 hl
    have hB := hBi a0 a1 a2 a3 b3 hb
    exact fin htab rfl (cat_hold hG (cat_hold hL hB)) (sE htab hG esl) (sE htab hL eLi) (sE htab hB eBi) rslii
  · have hL := hLi a0 a1 a2 a3 b2 hl
    have hB := hBb a0 a1 a2 a3 b3 hb
    exact fin htab rfl (cat_hold hG (cat_hold hL hB)) (sE htab hG esl) (sE htab hL eLi) (sE htab hB eBb) rslib
  · have hL := hLb a0 a1 a2 a3 b2 hl
    have hB := hBl a0 a1 a2 a3 b3 hb
    exact fin htab rfl (cat_hold hG (cat_hold hL hB)) (sE htab hG esl) (sE htab hL eLb) (sE htab hB eBl) rslbl
  · have hL := hLb a0 a1 a2 a3 b2 hl
    have hB := hBi a0 a1 a2 a3 b3 hb
    exact fin htab rfl (cat_hold hG (cat_hold hL hB)) (sE htab hG esl) (sE htab hL eLb) (sE htab hB eBi) rslbi
  · have hL := hLb a0 a1 a2 a3 b2 hl
    have hB := hBb a0 a1 a2 a3 b3 hb
    exact fin htab rfl (cat_hold hG (cat_hold hL hB)) (sE htab hG esl) (sE htab hL eLb) (sE htab hB eBb) rslbb
theorem csb (a0 a1 a2 a3 : Int) (b0 : (-9223372036854775808 : Int) ≤ a0 ∧ a0 ≤ 9223372036854775807) (b1 : (-9223372036854775808 : Int) ≤ a1 ∧ a1 ≤ 9223372036854775807) (b2 : (-9223372036854775808 : Int) ≤ a2 ∧ a2 ≤ 9223372036854775807) (b3 : (-9223372036854775808 : Int) ≤ a3 ∧ a3 ≤ 9223372036854775807) (hg : (1 ≤ a0 ∧ a0 ≤ 256) ∧ 32 < a1) (w : World) (htab : Lib.TabIs Tryz.prog w "internal/strconv.uint64pow10" .u64 Lib.pow10Tab) : Calls Tryz.prog 5 #[.int .i64 a0, .int .i64 a1, .agg #[.int .i64 a2, .int .i64 a3]] w fun e w' => e = .returned (.bool true) ∧ Kept w w' := by
  have hG := hsb a0 a1 a2 a3 b0 b1 hg
  have hl : a2 < 1 ∨ (1 ≤ a2 ∧ a2 ≤ 4096) ∨ 4096 < a2 := by omega
  have hb : a3 < 1 ∨ (1 ≤ a3 ∧ a3 ≤ 1024) ∨ 1024 < a3 := by omega
  rcases hl with hl | hl | hl <;> rcases hb with hb | hb | hb
  · have hL := hLl a0 a1 a2 a3 b2 hl
    have hB := hBl a0 a1 a2 a3 b3 hb
    exact fin htab rfl (cat_hold hG (cat_hold hL hB)) (sE htab hG esb) (sE htab hL eLl) (sE htab hB eBl) rsbll
  · have hL := hLl a0 a1 a2 a3 b2 hl
    have hB := hBi a0 a1 a2 a3 b3 hb
    exact fin htab rfl (cat_hold hG (cat_hold hL hB)) (sE htab hG esb) (sE htab hL eLl) (sE htab hB eBi) rsbli
  · have hL := hLl a0 a1 a2 a3 b2 hl
    have hB := hBb a0 a1 a2 a3 b3 hb
    exact fin htab rfl (cat_hold hG (cat_hold hL hB)) (sE htab hG esb) (sE htab hL eLl) (sE htab hB eBb) rsblb
  · have hL := hLi a0 a1 a2 a3 b2 hl
    have hB := hBl a0 a1 a2 a3 b3 hb
    exact fin htab rfl (cat_hold hG (cat_hold hL hB)) (sE htab hG esb) (sE htab hL eLi) (sE htab hB eBl) rsbil
  · have hL := hLi a0 a1 a2 a3 b2 hl
    have hB := hBi a0 a1 a2 a3 b3 hb
    exact fin htab rfl (cat_hold hG (cat_hold hL hB)) (sE htab hG esb) (sE htab hL eLi) (sE htab hB eBi) rsbii
  · have hL := hLi a0 a1 a2 a3 b2 hl
    have hB := hBb a0 a1 a2 a3 b3 hb
    exact fin htab rfl (cat_hold hG (cat_hold hL hB)) (sE htab hG esb) (sE htab hL eLi) (sE htab hB eBb) rsbib
  · have hL := hLb a0 a1 a2 a3 b2 hl
    have hB := hBl a0 a1 a2 a3 b3 hb
    exact fin htab rfl (cat_hold hG (cat_hold hL hB)) (sE htab hG esb) (sE htab hL eLb) (sE htab hB eBl) rsbbl
  · have hL := hLb a0 a1 a2 a3 b2 hl
    have hB := hBi a0 a1 a2 a3 b3 hb
    exact fin htab rfl (cat_hold hG (cat_hold hL hB)) (sE htab hG esb) (sE htab hL eLb) (sE htab hB eBi) rsbbi
  · have hL := hLb a0 a1 a2 a3 b2 hl
    have hB := hBb a0 a1 a2 a3 b3 hb
    exact fin htab rfl (cat_hold hG (cat_hold hL hB)) (sE htab hG esb) (sE htab hL eLb) (sE htab hB eBb) rsbbb
theorem csn (a0 a1 a2 a3 : Int) (b0 : (-9223372036854775808 : Int) ≤ a0 ∧ a0 ≤ 9223372036854775807) (b1 : (-9223372036854775808 : Int) ≤ a1 ∧ a1 ≤ 9223372036854775807) (b2 : (-9223372036854775808 : Int) ≤ a2 ∧ a2 ≤ 9223372036854775807) (b3 : (-9223372036854775808 : Int) ≤ a3 ∧ a3 ≤ 9223372036854775807) (hg : (1 ≤ a0 ∧ a0 ≤ 256) ∧ (1 ≤ a1 ∧ a1 ≤ 32) ∧ bits .and .i64 a1 (IntKind.wrap .i64 (a1 - (1 : Int))) ≠ 0) (w : World) (htab : Lib.TabIs Tryz.prog w "internal/strconv.uint64pow10" .u64 Lib.pow10Tab) : Calls Tryz.prog 5 #[.int .i64 a0, .int .i64 a1, .agg #[.int .i64 a2, .int .i64 a3]] w fun e w' => e = .returned (.bool true) ∧ Kept w w' := by
  have hG := hsn a0 a1 a2 a3 b0 b1 hg
  have hl : a2 < 1 ∨ (1 ≤ a2 ∧ a2 ≤ 4096) ∨ 4096 < a2 := by omega
  have hb : a3 < 1 ∨ (1 ≤ a3 ∧ a3 ≤ 1024) ∨ 1024 < a3 := by omega
  rcases hl with hl | hl | hl <;> rcases hb with hb | hb | hb
  · have hL := hLl a0 a1 a2 a3 b2 hl
    have hB := hBl a0 a1 a2 a3 b3 hb
    exact fin htab rfl (cat_hold hG (cat_hold hL hB)) (sE htab hG esn) (sE htab hL eLl) (sE htab hB eBl) rsnll
  · have hL := hLl a0 a1 a2 a3 b2 hl
    have hB := hBi a0 a1 a2 a3 b3 hb
    exact fin htab rfl (cat_hold hG (cat_hold hL hB)) (sE htab hG esn) (sE htab hL eLl) (sE htab hB eBi) rsnli
  · have hL := hLl a0 a1 a2 a3 b2 hl
    have hB := hBb a0 a1 a2 a3 b3 hb
    exact fin htab rfl (cat_hold hG (cat_hold hL hB)) (sE htab hG esn) (sE htab hL eLl) (sE htab hB eBb) rsnlb
  · have hL := hLi a0 a1 a2 a3 b2 hl
    have hB := hBl a0 a1 a2 a3 b3 hb
    exact fin htab rfl (cat_hold hG (cat_hold hL hB)) (sE htab hG esn) (sE htab hL eLi) (sE htab hB eBl) rsnil
  · have hL := hLi a0 a1 a2 a3 b2 hl
    have hB := hBi a0 a1 a2 a3 b3 hb
    exact fin htab rfl (cat_hold hG (cat_hold hL hB)) (sE htab hG esn) (sE htab hL eLi) (sE htab hB eBi) rsnii
  · have hL := hLi a0 a1 a2 a3 b2 hl
    have hB := hBb a0 a1 a2 a3 b3 hb
    exact fin htab rfl (cat_hold hG (cat_hold hL hB)) (sE htab hG esn) (sE htab hL eLi) (sE htab hB eBb) rsnib
  · have hL := hLb a0 a1 a2 a3 b2 hl
    have hB := hBl a0 a1 a2 a3 b3 hb
    exact fin htab rfl (cat_hold hG (cat_hold hL hB)) (sE htab hG esn) (sE htab hL eLb) (sE htab hB eBl) rsnbl
  · have hL := hLb a0 a1 a2 a3 b2 hl
    have hB := hBi a0 a1 a2 a3 b3 hb
    exact fin htab rfl (cat_hold hG (cat_hold hL hB)) (sE htab hG esn) (sE htab hL eLb) (sE htab hB eBi) rsnbi
  · have hL := hLb a0 a1 a2 a3 b2 hl
    have hB := hBb a0 a1 a2 a3 b3 hb
    exact fin htab rfl (cat_hold hG (cat_hold hL hB)) (sE htab hG esn) (sE htab hL eLb) (sE htab hB eBb) rsnbb
theorem cp1y (a0 a2 a3 : Int) (b0 : (-9223372036854775808 : Int) ≤ a0 ∧ a0 ≤ 9223372036854775807) (b2 : (-9223372036854775808 : Int) ≤ a2 ∧ a2 ≤ 9223372036854775807) (b3 : (-9223372036854775808 : Int) ≤ a3 ∧ a3 ≤ 9223372036854775807) (hg : (1 ≤ a0 ∧ a0 ≤ 256)) (w : World) (htab : Lib.TabIs Tryz.prog w "internal/strconv.uint64pow10" .u64 Lib.pow10Tab) : Calls Tryz.prog 5 #[.int .i64 a0, .int .i64 1, .agg #[.int .i64 a2, .int .i64 a3]] w fun e w' => e = .returned (.bool true) ∧ Kept w w' := by
  have hG := hp1y a0 a2 a3 b0 hg
  have hl : a2 < 1 ∨ (1 ≤ a2 ∧ a2 ≤ 4096) ∨ 4096 < a2 := by omega
  have hb : a3 < 1 ∨ (1 ≤ a3 ∧ a3 ≤ 1024) ∨ 1024 < a3 := by omega
  rcases hl with hl | hl | hl <;> rcases hb with hb | hb | hb
  · have hL := hLl a0 1 a2 a3 b2 hl
    have hB := hBl a0 1 a2 a3 b3 hb
    exact fin htab rfl (cat_hold hG (cat_hold hL hB)) (sE htab hG ep1y) (sE htab hL eLl) (sE htab hB eBl) rp1yll
  · have hL := hLl a0 1 a2 a3 b2 hl
    have hB := hBi a0 1 a2 a3 b3 hb
    exact fin htab rfl (cat_hold hG (cat_hold hL hB)) (sE htab hG ep1y) (sE htab hL eLl) (sE htab hB eBi) rp1yli
  · have hL := hLl a0 1 a2 a3 b2 hl
    have hB := hBb a0 1 a2 a3 b3 hb
    exact fin htab rfl (cat_hold hG (cat_hold hL hB)) (sE htab hG ep1y) (sE htab hL eLl) (sE htab hB eBb) rp1ylb
  · have hL := hLi a0 1 a2 a3 b2 hl
    have hB := hBl a0 1 a2 a3 b3 hb
    exact fin htab rfl (cat_hold hG (cat_hold hL hB)) (sE htab hG ep1y) (sE htab hL eLi) (sE htab hB eBl) rp1yil
  · have hL := hLi a0 1 a2 a3 b2 hl
    have hB := hBi a0 1 a2 a3 b3 hb
    exact fin htab rfl (cat_hold hG (cat_hold hL hB)) (sE htab hG ep1y) (sE htab hL eLi) (sE htab hB eBi) rp1yii
  · have hL := hLi a0 1 a2 a3 b2 hl
    have hB := hBb a0 1 a2 a3 b3 hb
    exact fin htab rfl (cat_hold hG (cat_hold hL hB)) (sE htab hG ep1y) (sE htab hL eLi) (sE htab hB eBb) rp1yib
  · have hL := hLb a0 1 a2 a3 b2 hl
    have hB := hBl a0 1 a2 a3 b3 hb
    exact fin htab rfl (cat_hold hG (cat_hold hL hB)) (sE htab hG ep1y) (sE htab hL eLb) (sE htab hB eBl) rp1ybl
  · have hL := hLb a0 1 a2 a3 b2 hl
    have hB := hBi a0 1 a2 a3 b3 hb
    exact fin htab rfl (cat_hold hG (cat_hold hL hB)) (sE htab hG ep1y) (sE htab hL eLb) (sE htab hB eBi) rp1ybi
  · have hL := hLb a0 1 a2 a3 b2 hl
    have hB := hBb a0 1 a2 a3 b3 hb
    exact fin htab rfl (cat_hold hG (cat_hold hL hB)) (sE htab hG ep1y) (sE htab hL eLb) (sE htab hB eBb) rp1ybb
theorem cp2y (a0 a2 a3 : Int) (b0 : (-9223372036854775808 : Int) ≤ a0 ∧ a0 ≤ 9223372036854775807) (b2 : (-9223372036854775808 : Int) ≤ a2 ∧ a2 ≤ 9223372036854775807) (b3 : (-9223372036854775808 : Int) ≤ a3 ∧ a3 ≤ 9223372036854775807) (hg : (1 ≤ a0 ∧ a0 ≤ 256) ∧ Int.tmod a0 (2 : Int) = 0) (w : World) (htab : Lib.TabIs Tryz.prog w "internal/strconv.uint64pow10" .u64 Lib.pow10Tab) : Calls Tryz.prog 5 #[.int .i64 a0, .int .i64 2, .agg #[.int .i64 a2, .int .i64 a3]] w fun e w' => e = .returned (.bool true) ∧ Kept w w' := by
  have hG := hp2y a0 a2 a3 b0 hg
  have hl : a2 < 1 ∨ (1 ≤ a2 ∧ a2 ≤ 4096) ∨ 4096 < a2 := by omega
  have hb : a3 < 1 ∨ (1 ≤ a3 ∧ a3 ≤ 1024) ∨ 1024 < a3 := by omega
  rcases hl with hl | hl | hl <;> rcases hb with hb | hb | hb
  · have hL := hLl a0 2 a2 a3 b2 hl
    have hB := hBl a0 2 a2 a3 b3 hb
    exact fin htab rfl (cat_hold hG (cat_hold hL hB)) (sE htab hG ep2y) (sE htab hL eLl) (sE htab hB eBl) rp2yll
  · have hL := hLl a0 2 a2 a3 b2 hl
    have hB := hBi a0 2 a2 a3 b3 hb
    exact fin htab rfl (cat_hold hG (cat_hold hL hB)) (sE htab hG ep2y) (sE htab hL eLl) (sE htab hB eBi) rp2yli
  · have hL := hLl a0 2 a2 a3 b2 hl
    have hB := hBb a0 2 a2 a3 b3 hb
    exact fin htab rfl (cat_hold hG (cat_hold hL hB)) (sE htab hG ep2y) (sE htab hL eLl) (sE htab hB eBb) rp2ylb
  · have hL := hLi a0 2 a2 a3 b2 hl
    have hB := hBl a0 2 a2 a3 b3 hb
    exact fin htab rfl (cat_hold hG (cat_hold hL hB)) (sE htab hG ep2y) (sE htab hL eLi) (sE htab hB eBl) rp2yil
  · have hL := hLi a0 2 a2 a3 b2 hl
    have hB := hBi a0 2 a2 a3 b3 hb
    exact fin htab rfl (cat_hold hG (cat_hold hL hB)) (sE htab hG ep2y) (sE htab hL eLi) (sE htab hB eBi) rp2yii
  · have hL := hLi a0 2 a2 a3 b2 hl
    have hB := hBb a0 2 a2 a3 b3 hb
    exact fin htab rfl (cat_hold hG (cat_hold hL hB)) (sE htab hG ep2y) (sE htab hL eLi) (sE htab hB eBb) rp2yib
  · have hL := hLb a0 2 a2 a3 b2 hl
    have hB := hBl a0 2 a2 a3 b3 hb
    exact fin htab rfl (cat_hold hG (cat_hold hL hB)) (sE htab hG ep2y) (sE htab hL eLb) (sE htab hB eBl) rp2ybl
  · have hL := hLb a0 2 a2 a3 b2 hl
    have hB := hBi a0 2 a2 a3 b3 hb
    exact fin htab rfl (cat_hold hG (cat_hold hL hB)) (sE htab hG ep2y) (sE htab hL eLb) (sE htab hB eBi) rp2ybi
  · have hL := hLb a0 2 a2 a3 b2 hl
    have hB := hBb a0 2 a2 a3 b3 hb
    exact fin htab rfl (cat_hold hG (cat_hold hL hB)) (sE htab hG ep2y) (sE htab hL eLb) (sE htab hB eBb) rp2ybb
theorem cp2n (a0 a2 a3 : Int) (b0 : (-9223372036854775808 : Int) ≤ a0 ∧ a0 ≤ 9223372036854775807) (b2 : (-9223372036854775808 : Int) ≤ a2 ∧ a2 ≤ 9223372036854775807) (b3 : (-9223372036854775808 : Int) ≤ a3 ∧ a3 ≤ 9223372036854775807) (hg : (1 ≤ a0 ∧ a0 ≤ 256) ∧ Int.tmod a0 (2 : Int) ≠ 0) (w : World) (htab : Lib.TabIs Tryz.prog w "internal/strconv.uint64pow10" .u64 Lib.pow10Tab) : Calls Tryz.prog 5 #[.int .i64 a0, .int .i64 2, .agg #[.int .i64 a2, .int .i64 a3]] w fun e w' => e = .returned (.bool true) ∧ Kept w w' := by
  have hG := hp2n a0 a2 a3 b0 hg
  have hl : a2 < 1 ∨ (1 ≤ a2 ∧ a2 ≤ 4096) ∨ 4096 < a2 := by omega
  have hb : a3 < 1 ∨ (1 ≤ a3 ∧ a3 ≤ 1024) ∨ 1024 < a3 := by omega
  rcases hl with hl | hl | hl <;> rcases hb with hb | hb | hb
  · have hL := hLl a0 2 a2 a3 b2 hl
    have hB := hBl a0 2 a2 a3 b3 hb
    exact fin htab rfl (cat_hold hG (cat_hold hL hB)) (sE htab hG ep2n) (sE htab hL eLl) (sE htab hB eBl) rp2nll
  · have hL := hLl a0 2 a2 a3 b2 hl
    have hB := hBi a0 2 a2 a3 b3 hb
    exact fin htab rfl (cat_hold hG (cat_hold hL hB)) (sE htab hG ep2n) (sE htab hL eLl) (sE htab hB eBi) rp2nli
  · have hL := hLl a0 2 a2 a3 b2 hl
    have hB := hBb a0 2 a2 a3 b3 hb
    exact fin htab rfl (cat_hold hG (cat_hold hL hB)) (sE htab hG ep2n) (sE htab hL eLl) (sE htab hB eBb) rp2nlb
  · have hL := hLi a0 2 a2 a3 b2 hl
    have hB := hBl a0 2 a2 a3 b3 hb
    exact fin htab rfl (cat_hold hG (cat_hold hL hB)) (sE htab hG ep2n) (sE htab hL eLi) (sE htab hB eBl) rp2nil
  · have hL := hLi a0 2 a2 a3 b2 hl
    have hB := hBi a0 2 a2 a3 b3 hb
    exact fin htab rfl (cat_hold hG (cat_hold hL hB)) (sE htab hG ep2n) (sE htab hL eLi) (sE htab hB eBi) rp2nii
  · have hL := hLi a0 2 a2 a3 b2 hl
    have hB := hBb a0 2 a2 a3 b3 hb
    exact fin htab rfl (cat_hold hG (cat_hold hL hB)) (sE htab hG ep2n) (sE htab hL eLi) (sE htab hB eBb) rp2nib
  · have hL := hLb a0 2 a2 a3 b2 hl
    have hB := hBl a0 2 a2 a3 b3 hb
    exact fin htab rfl (cat_hold hG (cat_hold hL hB)) (sE htab hG ep2n) (sE htab hL eLb) (sE htab hB eBl) rp2nbl
  · have hL := hLb a0 2 a2 a3 b2 hl
    have hB := hBi a0 2 a2 a3 b3 hb
    exact fin htab rfl (cat_hold hG (cat_hold hL hB)) (sE htab hG ep2n) (sE htab hL eLb) (sE htab hB eBi) rp2nbi
  · have hL := hLb a0 2 a2 a3 b2 hl
    have hB := hBb a0 2 a2 a3 b3 hb
    exact fin htab rfl (cat_hold hG (cat_hold hL hB)) (sE htab hG ep2n) (sE htab hL eLb) (sE htab hB eBb) rp2nbb
theorem cp4y (a0 a2 a3 : Int) (b0 : (-9223372036854775808 : Int) ≤ a0 ∧ a0 ≤ 9223372036854775807) (b2 : (-9223372036854775808 : Int) ≤ a2 ∧ a2 ≤ 9223372036854775807) (b3 : (-9223372036854775808 : Int) ≤ a3 ∧ a3 ≤ 9223372036854775807) (hg : (1 ≤ a0 ∧ a0 ≤ 256) ∧ Int.tmod a0 (4 : Int) = 0) (w : World) (htab : Lib.TabIs Tryz.prog w "internal/strconv.uint64pow10" .u64 Lib.pow10Tab) : Calls Tryz.prog 5 #[.int .i64 a0, .int .i64 4, .agg #[.int .i64 a2, .int .i64 a3]] w fun e w' => e = .returned (.bool true) ∧ Kept w w' := by
  have hG := hp4y a0 a2 a3 b0 hg
  have hl : a2 < 1 ∨ (1 ≤ a2 ∧ a2 ≤ 4096) ∨ 4096 < a2 := by omega
  have hb : a3 < 1 ∨ (1 ≤ a3 ∧ a3 ≤ 1024) ∨ 1024 < a3 := by omega
  rcases hl with hl | hl | hl <;> rcases hb with hb | hb | hb
  · have hL := hLl a0 4 a2 a3 b2 hl
    have hB := hBl a0 4 a2 a3 b3 hb
    exact fin htab rfl (cat_hold hG (cat_hold hL hB)) (sE htab hG ep4y) (sE htab hL eLl) (sE htab hB eBl) rp4yll
  · have hL := hLl a0 4 a2 a3 b2 hl
    have hB := hBi a0 4 a2 a3 b3 hb
    exact fin htab rfl (cat_hold hG (cat_hold hL hB)) (sE htab hG ep4y) (sE htab hL eLl) (sE htab hB eBi) rp4yli
  · have hL := hLl a0 4 a2 a3 b2 hl
    have hB := hBb a0 4 a2 a3 b3 hb
    exact fin htab rfl (cat_hold hG (cat_hold hL hB)) (sE htab hG ep4y) (sE htab hL eLl) (sE htab hB eBb) rp4ylb
  · have hL := hLi a0 4 a2 a3 b2 hl
    have hB := hBl a0 4 a2 a3 b3 hb
    exact fin htab rfl (cat_hold hG (cat_hold hL hB)) (sE htab hG ep4y) (sE htab hL eLi) (sE htab hB eBl) rp4yil
  · have hL := hLi a0 4 a2 a3 b2 hl
    have hB := hBi a0 4 a2 a3 b3 hb
    exact fin htab rfl (cat_hold hG (cat_hold hL hB)) (sE htab hG ep4y) (sE htab hL eLi) (sE htab hB eBi) rp4yii
  · have hL := hLi a0 4 a2 a3 b2 hl
    have hB := hBb a0 4 a2 a3 b3 hb
    exact fin htab rfl (cat_hold hG (cat_hold hL hB)) (sE htab hG ep4y) (sE htab hL eLi) (sE htab hB eBb) rp4yib
  · have hL := hLb a0 4 a2 a3 b2 hl
    have hB := hBl a0 4 a2 a3 b3 hb
    exact fin htab rfl (cat_hold hG (cat_hold hL hB)) (sE htab hG ep4y) (sE htab hL eLb) (sE htab hB eBl) rp4ybl
  · have hL := hLb a0 4 a2 a3 b2 hl
    have hB := hBi a0 4 a2 a3 b3 hb
    exact fin htab rfl (cat_hold hG (cat_hold hL hB)) (sE htab hG ep4y) (sE htab hL eLb) (sE htab hB eBi) rp4ybi
  · have hL := hLb a0 4 a2 a3 b2 hl
    have hB := hBb a0 4 a2 a3 b3 hb
    exact fin htab rfl (cat_hold hG (cat_hold hL hB)) (sE htab hG ep4y) (sE htab hL eLb) (sE htab hB eBb) rp4ybb
theorem cp4n (a0 a2 a3 : Int) (b0 : (-9223372036854775808 : Int) ≤ a0 ∧ a0 ≤ 9223372036854775807) (b2 : (-9223372036854775808 : Int) ≤ a2 ∧ a2 ≤ 9223372036854775807) (b3 : (-9223372036854775808 : Int) ≤ a3 ∧ a3 ≤ 9223372036854775807) (hg : (1 ≤ a0 ∧ a0 ≤ 256) ∧ Int.tmod a0 (4 : Int) ≠ 0) (w : World) (htab : Lib.TabIs Tryz.prog w "internal/strconv.uint64pow10" .u64 Lib.pow10Tab) : Calls Tryz.prog 5 #[.int .i64 a0, .int .i64 4, .agg #[.int .i64 a2, .int .i64 a3]] w fun e w' => e = .returned (.bool true) ∧ Kept w w' := by
  have hG := hp4n a0 a2 a3 b0 hg
  have hl : a2 < 1 ∨ (1 ≤ a2 ∧ a2 ≤ 4096) ∨ 4096 < a2 := by omega
  have hb : a3 < 1 ∨ (1 ≤ a3 ∧ a3 ≤ 1024) ∨ 1024 < a3 := by omega
  rcases hl with hl | hl | hl <;> rcases hb with hb | hb | hb
  · have hL := hLl a0 4 a2 a3 b2 hl
    have hB := hBl a0 4 a2 a3 b3 hb
    exact fin htab rfl (cat_hold hG (cat_hold hL hB)) (sE htab hG ep4n) (sE htab hL eLl) (sE htab hB eBl) rp4nll
  · have hL := hLl a0 4 a2 a3 b2 hl
    have hB := hBi a0 4 a2 a3 b3 hb
    exact fin htab rfl (cat_hold hG (cat_hold hL hB)) (sE htab hG ep4n) (sE htab hL eLl) (sE htab hB eBi) rp4nli
  · have hL := hLl a0 4 a2 a3 b2 hl
    have hB := hBb a0 4 a2 a3 b3 hb
    exact fin htab rfl (cat_hold hG (cat_hold hL hB)) (sE htab hG ep4n) (sE htab hL eLl) (sE htab hB eBb) rp4nlb
  · have hL := hLi a0 4 a2 a3 b2 hl
    have hB := hBl a0 4 a2 a3 b3 hb
    exact fin htab rfl (cat_hold hG (cat_hold hL hB)) (sE htab hG ep4n) (sE htab hL eLi) (sE htab hB eBl) rp4nil
  · have hL := hLi a0 4 a2 a3 b2 hl
    have hB := hBi a0 4 a2 a3 b3 hb
    exact fin htab rfl (cat_hold hG (cat_hold hL hB)) (sE htab hG ep4n) (sE htab hL eLi) (sE htab hB eBi) rp4nii
  · have hL := hLi a0 4 a2 a3 b2 hl
    have hB := hBb a0 4 a2 a3 b3 hb
    exact fin htab rfl (cat_hold hG (cat_hold hL hB)) (sE htab hG ep4n) (sE htab hL eLi) (sE htab hB eBb) rp4nib
  · have hL := hLb a0 4 a2 a3 b2 hl
    have hB := hBl a0 4 a2 a3 b3 hb
    exact fin htab rfl (cat_hold hG (cat_hold hL hB)) (sE htab hG ep4n) (sE htab hL eLb) (sE htab hB eBl) rp4nbl
  · have hL := hLb a0 4 a2 a3 b2 hl
    have hB := hBi a0 4 a2 a3 b3 hb
    exact fin htab rfl (cat_hold hG (cat_hold hL hB)) (sE htab hG ep4n) (sE htab hL eLb) (sE htab hB eBi) rp4nbi
  · have hL := hLb a0 4 a2 a3 b2 hl
    have hB := hBb a0 4 a2 a3 b3 hb
    exact fin htab rfl (cat_hold hG (cat_hold hL hB)) (sE htab hG ep4n) (sE htab hL eLb) (sE htab hB eBb) rp4nbb
theorem cp8y (a0 a2 a3 : Int) (b0 : (-9223372036854775808 : Int) ≤ a0 ∧ a0 ≤ 9223372036854775807) (b2 : (-9223372036854775808 : Int) ≤ a2 ∧ a2 ≤ 9223372036854775807) (b3 : (-9223372036854775808 : Int) ≤ a3 ∧ a3 ≤ 9223372036854775807) (hg : (1 ≤ a0 ∧ a0 ≤ 256) ∧ Int.tmod a0 (8 : Int) = 0) (w : World) (htab : Lib.TabIs Tryz.prog w "internal/strconv.uint64pow10" .u64 Lib.pow10Tab) : Calls Tryz.prog 5 #[.int .i64 a0, .int .i64 8, .agg #[.int .i64 a2, .int .i64 a3]] w fun e w' => e = .returned (.bool true) ∧ Kept w w' := by
  have hG := hp8y a0 a2 a3 b0 hg
  have hl : a2 < 1 ∨ (1 ≤ a2 ∧ a2 ≤ 4096) ∨ 4096 < a2 := by omega
  have hb : a3 < 1 ∨ (1 ≤ a3 ∧ a3 ≤ 1024) ∨ 1024 < a3 := by omega
  rcases hl with hl | hl | hl <;> rcases hb with hb | hb | hb
  · have hL := hLl a0 8 a2 a3 b2 hl
    have hB := hBl a0 8 a2 a3 b3 hb
    exact fin htab rfl (cat_hold hG (cat_hold hL hB)) (sE htab hG ep8y) (sE htab hL eLl) (sE htab hB eBl) rp8yll
  · have hL := hLl a0 8 a2 a3 b2 hl
    have hB := hBi a0 8 a2 a3 b3 hb
    exact fin htab rfl (cat_hold hG (cat_hold hL hB)) (sE htab hG ep8y) (sE htab hL eLl) (sE htab hB eBi) rp8yli
  · have hL := hLl a0 8 a2 a3 b2 hl
    have hB := hBb a0 8 a2 a3 b3 hb
    exact fin htab rfl (cat_hold hG (cat_hold hL hB)) (sE htab hG ep8y) (sE htab hL eLl) (sE htab hB eBb) rp8ylb
  · have hL := hLi a0 8 a2 a3 b2 hl
    have hB := hBl a0 8 a2 a3 b3 hb
    exact fin htab rfl (cat_hold hG (cat_hold hL hB)) (sE htab hG ep8y) (sE htab hL eLi) (sE htab hB eBl) rp8yil
  · have hL := hLi a0 8 a2 a3 b2 hl
    have hB := hBi a0 8 a2 a3 b3 hb
    exact fin htab rfl (cat_hold hG (cat_hold hL hB)) (sE htab hG ep8y) (sE htab hL eLi) (sE htab hB eBi) rp8yii
  · have hL := hLi a0 8 a2 a3 b2 hl
    have hB := hBb a0 8 a2 a3 b3 hb
    exact fin htab rfl (cat_hold hG (cat_hold hL hB)) (sE htab hG ep8y) (sE htab hL eLi) (sE htab hB eBb) rp8yib
  · have hL := hLb a0 8 a2 a3 b2 hl
    have hB := hBl a0 8 a2 a3 b3 hb
    exact fin htab rfl (cat_hold hG (cat_hold hL hB)) (sE htab hG ep8y) (sE htab hL eLb) (sE htab hB eBl) rp8ybl
  · have hL := hLb a0 8 a2 a3 b2 hl
    have hB := hBi a0 8 a2 a3 b3 hb
    exact fin htab rfl (cat_hold hG (cat_hold hL hB)) (sE htab hG ep8y) (sE htab hL eLb) (sE htab hB eBi) rp8ybi
  · have hL := hLb a0 8 a2 a3 b2 hl
    have hB := hBb a0 8 a2 a3 b3 hb
    exact fin htab rfl (cat_hold hG (cat_hold hL hB)) (sE htab hG ep8y) (sE htab hL eLb) (sE htab hB eBb) rp8ybb
theorem cp8n (a0 a2 a3 : Int) (b0 : (-9223372036854775808 : Int) ≤ a0 ∧ a0 ≤ 9223372036854775807) (b2 : (-9223372036854775808 : Int) ≤ a2 ∧ a2 ≤ 9223372036854775807) (b3 : (-9223372036854775808 : Int) ≤ a3 ∧ a3 ≤ 9223372036854775807) (hg : (1 ≤ a0 ∧ a0 ≤ 256) ∧ Int.tmod a0 (8 : Int) ≠ 0) (w : World) (htab : Lib.TabIs Tryz.prog w "internal/strconv.uint64pow10" .u64 Lib.pow10Tab) : Calls Tryz.prog 5 #[.int .i64 a0, .int .i64 8, .agg #[.int .i64 a2, .int .i64 a3]] w fun e w' => e = .returned (.bool true) ∧ Kept w w' := by
  have hG := hp8n a0 a2 a3 b0 hg
  have hl : a2 < 1 ∨ (1 ≤ a2 ∧ a2 ≤ 4096) ∨ 4096 < a2 := by omega
  have hb : a3 < 1 ∨ (1 ≤ a3 ∧ a3 ≤ 1024) ∨ 1024 < a3 := by omega
  rcases hl with hl | hl | hl <;> rcases hb with hb | hb | hb
  · have hL := hLl a0 8 a2 a3 b2 hl
    have hB := hBl a0 8 a2 a3 b3 hb
    exact fin htab rfl (cat_hold hG (cat_hold hL hB)) (sE htab hG ep8n) (sE htab hL eLl) (sE htab hB eBl) rp8nll
  · have hL := hLl a0 8 a2 a3 b2 hl
    have hB := hBi a0 8 a2 a3 b3 hb
    exact fin htab rfl (cat_hold hG (cat_hold hL hB)) (sE htab hG ep8n) (sE htab hL eLl) (sE htab hB eBi) rp8nli
  · have hL := hLl a0 8 a2 a3 b2 hl
    have hB := hBb a0 8 a2 a3 b3 hb
    exact fin htab rfl (cat_hold hG (cat_hold hL hB)) (sE htab hG ep8n) (sE htab hL eLl) (sE htab hB eBb) rp8nlb
  · have hL := hLi a0 8 a2 a3 b2 hl
    have hB := hBl a0 8 a2 a3 b3 hb
    exact fin htab rfl (cat_hold hG (cat_hold hL hB)) (sE htab hG ep8n) (sE htab hL eLi) (sE htab hB eBl) rp8nil
  · have hL := hLi a0 8 a2 a3 b2 hl
    have hB := hBi a0 8 a2 a3 b3 hb
    exact fin htab rfl (cat_hold hG (cat_hold hL hB)) (sE htab hG ep8n) (sE htab hL eLi) (sE htab hB eBi) rp8nii
  · have hL := hLi a0 8 a2 a3 b2 hl
    have hB := hBb a0 8 a2 a3 b3 hb
    exact fin htab rfl (cat_hold hG (cat_hold hL hB)) (sE htab hG ep8n) (sE htab hL eLi) (sE htab hB eBb) rp8nib
  · have hL := hLb a0 8 a2 a3 b2 hl
    have hB := hBl a0 8 a2 a3 b3 hb
    exact fin htab rfl (cat_hold hG (cat_hold hL hB)) (sE htab hG ep8n) (sE htab hL eLb) (sE htab hB eBl) rp8nbl
  · have hL := hLb a0 8 a2 a3 b2 hl
    have hB := hBi a0 8 a2 a3 b3 hb
    exact fin htab rfl (cat_hold hG (cat_hold hL hB)) (sE htab hG ep8n) (sE htab hL eLb) (sE htab hB eBi) rp8nbi
  · have hL := hLb a0 8 a2 a3 b2 hl
    have hB := hBb a0 8 a2 a3 b3 hb
    exact fin htab rfl (cat_hold hG (cat_hold hL hB)) (sE htab hG ep8n) (sE htab hL eLb) (sE htab hB eBb) rp8nbb
theorem cp16y (a0 a2 a3 : Int) (b0 : (-9223372036854775808 : Int) ≤ a0 ∧ a0 ≤ 9223372036854775807) (b2 : (-9223372036854775808 : Int) ≤ a2 ∧ a2 ≤ 9223372036854775807) (b3 : (-9223372036854775808 : Int) ≤ a3 ∧ a3 ≤ 9223372036854775807) (hg : (1 ≤ a0 ∧ a0 ≤ 256) ∧ Int.tmod a0 (16 : Int) = 0) (w : World) (htab : Lib.TabIs Tryz.prog w "internal/strconv.uint64pow10" .u64 Lib.pow10Tab) : Calls Tryz.prog 5 #[.int .i64 a0, .int .i64 16, .agg #[.int .i64 a2, .int .i64 a3]] w fun e w' => e = .returned (.bool true) ∧ Kept w w' := by
  have hG := hp16y a0 a2 a3 b0 hg
  have hl : a2 < 1 ∨ (1 ≤ a2 ∧ a2 ≤ 4096) ∨ 4096 < a2 := by omega
  have hb : a3 < 1 ∨ (1 ≤ a3 ∧ a3 ≤ 1024) ∨ 1024 < a3 := by omega
  rcases hl with hl | hl | hl <;> rcases hb with hb | hb | hb
  · have hL := hLl a0 16 a2 a3 b2 hl
    have hB := hBl a0 16 a2 a3 b3 hb
    exact fin htab rfl (cat_hold hG (cat_hold hL hB)) (sE htab hG ep16y) (sE htab hL eLl) (sE htab hB eBl) rp16yll
  · have hL := hLl a0 16 a2 a3 b2 hl
    have hB := hBi a0 16 a2 a3 b3 hb
    exact fin htab rfl (cat_hold hG (cat_hold hL hB)) (sE htab hG ep16y) (sE htab hL eLl) (sE htab hB eBi) rp16yli
  · have hL := hLl a0 16 a2 a3 b2 hl
    have hB := hBb a0 16 a2 a3 b3 hb
    exact fin htab rfl (cat_hold hG (cat_hold hL hB)) (sE htab hG ep16y) (sE htab hL eLl) (sE htab hB eBb) rp16ylb
  · have hL := hLi a0 16 a2 a3 b2 hl
    have hB := hBl a0 16 a2 a3 b3 hb
    exact fin htab rfl (cat_hold hG (cat_hold hL hB)) (sE htab hG ep16y) (sE htab hL eLi) (sE htab hB eBl) rp16yil
  · have hL := hLi a0 16 a2 a3 b2 hl
    have hB := hBi a0 16 a2 a3 b3 hb
    exact fin htab rfl (cat_hold hG (cat_hold hL hB)) (sE htab hG ep16y) (sE htab hL eLi) (sE htab hB eBi) rp16yii
  · have hL := hLi a0 16 a2 a3 b2 hl
    have hB := hBb a0 16 a2 a3 b3 hb
    exact fin htab rfl (cat_hold hG (cat_hold hL hB)) (sE htab hG ep16y) (sE htab hL eLi) (sE htab hB eBb) rp16yib
  · have hL := hLb a0 16 a2 a3 b2 hl
    have hB := hBl a0 16 a2 a3 b3 hb
    exact fin htab rfl (cat_hold hG (cat_hold hL hB)) (sE htab hG ep16y) (sE htab hL eLb) (sE htab hB eBl) rp16ybl
  · have hL := hLb a0 16 a2 a3 b2 hl
    have hB := hBi a0 16 a2 a3 b3 hb
    exact fin htab rfl (cat_hold hG (cat_hold hL hB)) (sE htab hG ep16y) (sE htab hL eLb) (sE htab hB eBi) rp16ybi
  · have hL := hLb a0 16 a2 a3 b2 hl
    have hB := hBb a0 16 a2 a3 b3 hb
    exact fin htab rfl (cat_hold hG (cat_hold hL hB)) (sE htab hG ep16y) (sE htab hL eLb) (sE htab hB eBb) rp16ybb
theorem cp16n (a0 a2 a3 : Int) (b0 : (-9223372036854775808 : Int) ≤ a0 ∧ a0 ≤ 9223372036854775807) (b2 : (-9223372036854775808 : Int) ≤ a2 ∧ a2 ≤ 9223372036854775807) (b3 : (-9223372036854775808 : Int) ≤ a3 ∧ a3 ≤ 9223372036854775807) (hg : (1 ≤ a0 ∧ a0 ≤ 256) ∧ Int.tmod a0 (16 : Int) ≠ 0) (w : World) (htab : Lib.TabIs Tryz.prog w "internal/strconv.uint64pow10" .u64 Lib.pow10Tab) : Calls Tryz.prog 5 #[.int .i64 a0, .int .i64 16, .agg #[.int .i64 a2, .int .i64 a3]] w fun e w' => e = .returned (.bool true) ∧ Kept w w' := by
  have hG := hp16n a0 a2 a3 b0 hg
  have hl : a2 < 1 ∨ (1 ≤ a2 ∧ a2 ≤ 4096) ∨ 4096 < a2 := by omega
  have hb : a3 < 1 ∨ (1 ≤ a3 ∧ a3 ≤ 1024) ∨ 1024 < a3 := by omega
  rcases hl with hl | hl | hl <;> rcases hb with hb | hb | hb
  · have hL := hLl a0 16 a2 a3 b2 hl
    have hB := hBl a0 16 a2 a3 b3 hb
    exact fin htab rfl (cat_hold hG (cat_hold hL hB)) (sE htab hG ep16n) (sE htab hL eLl) (sE htab hB eBl) rp16nll
  · have hL := hLl a0 16 a2 a3 b2 hl
    have hB := hBi a0 16 a2 a3 b3 hb
    exact fin htab rfl (cat_hold hG (cat_hold hL hB)) (sE htab hG ep16n) (sE htab hL eLl) (sE htab hB eBi) rp16nli
  · have hL := hLl a0 16 a2 a3 b2 hl
    have hB := hBb a0 16 a2 a3 b3 hb
    exact fin htab rfl (cat_hold hG (cat_hold hL hB)) (sE htab hG ep16n) (sE htab hL eLl) (sE htab hB eBb) rp16nlb
  · have hL := hLi a0 16 a2 a3 b2 hl
    have hB := hBl a0 16 a2 a3 b3 hb
    exact fin htab rfl (cat_hold hG (cat_hold hL hB)) (sE htab hG ep16n) (sE htab hL eLi) (sE htab hB eBl) rp16nil
  · have hL := hLi a0 16 a2 a3 b2 hl
    have hB := hBi a0 16 a2 a3 b3 hb
    exact fin htab rfl (cat_hold hG (cat_hold hL hB)) (sE htab hG ep16n) (sE htab hL eLi) (sE htab hB eBi) rp16nii
  · have hL := hLi a0 16 a2 a3 b2 hl
    have hB := hBb a0 16 a2 a3 b3 hb
    exact fin htab rfl (cat_hold hG (cat_hold hL hB)) (sE htab hG ep16n) (sE htab hL eLi) (sE htab hB eBb) rp16nib
  · have hL := hLb a0 16 a2 a3 b2 hl
    have hB := hBl a0 16 a2 a3 b3 hb
    exact fin htab rfl (cat_hold hG (cat_hold hL hB)) (sE htab hG ep16n) (sE htab hL eLb) (sE htab hB eBl) rp16nbl
  · have hL := hLb a0 16 a2 a3 b2 hl
    have hB := hBi a0 16 a2 a3 b3 hb
    exact fin htab rfl (cat_hold hG (cat_hold hL hB)) (sE htab hG ep16n) (sE htab hL eLb) (sE htab hB eBi) rp16nbi
  · have hL := hLb a0 16 a2 a3 b2 hl
    have hB := hBb a0 16 a2 a3 b3 hb
    exact fin htab rfl (cat_hold hG (cat_hold hL hB)) (sE htab hG ep16n) (sE htab hL eLb) (sE htab hB eBb) rp16nbb
theorem cp32y (a0 a2 a3 : Int) (b0 : (-9223372036854775808 : Int) ≤ a0 ∧ a0 ≤ 9223372036854775807) (b2 : (-9223372036854775808 : Int) ≤ a2 ∧ a2 ≤ 9223372036854775807) (b3 : (-9223372036854775808 : Int) ≤ a3 ∧ a3 ≤ 9223372036854775807) (hg : (1 ≤ a0 ∧ a0 ≤ 256) ∧ Int.tmod a0 (32 : Int) = 0) (w : World) (htab : Lib.TabIs Tryz.prog w "internal/strconv.uint64pow10" .u64 Lib.pow10Tab) : Calls Tryz.prog 5 #[.int .i64 a0, .int .i64 32, .agg #[.int .i64 a2, .int .i64 a3]] w fun e w' => e = .returned (.bool true) ∧ Kept w w' := by
  have hG := hp32y a0 a2 a3 b0 hg
  have hl : a2 < 1 ∨ (1 ≤ a2 ∧ a2 ≤ 4096) ∨ 4096 < a2 := by omega
  have hb : a3 < 1 ∨ (1 ≤ a3 ∧ a3 ≤ 1024) ∨ 1024 < a3 := by omega
  rcases hl with hl | hl | hl <;> rcases hb with hb | hb | hb
  · have hL := hLl a0 32 a2 a3 b2 hl
    have hB := hBl a0 32 a2 a3 b3 hb
    exact fin htab rfl (cat_hold hG (cat_hold hL hB)) (sE htab hG ep32y) (sE htab hL eLl) (sE htab hB eBl) rp32yll
  · have hL := hLl a0 32 a2 a3 b2 hl
    have hB := hBi a0 32 a2 a3 b3 hb
    exact fin htab rfl (cat_hold hG (cat_hold hL hB)) (sE htab hG ep32y) (sE htab hL eLl) (sE htab hB eBi) rp32yli
  · have hL := hLl a0 32 a2 a3 b2 hl
    have hB := hBb a0 32 a2 a3 b3 hb
    exact fin htab rfl (cat_hold hG (cat_hold hL hB)) (sE htab hG ep32y) (sE htab hL eLl) (sE htab hB eBb) rp32ylb
  · have hL := hLi a0 32 a2 a3 b2 hl
    have hB := hBl a0 32 a2 a3 b3 hb
    exact fin htab rfl (cat_hold hG (cat_hold hL hB)) (sE htab hG ep32y) (sE htab hL eLi) (sE htab hB eBl) rp32yil
  · have hL := hLi a0 32 a2 a3 b2 hl
    have hB := hBi a0 32 a2 a3 b3 hb
    exact fin htab rfl (cat_hold hG (cat_hold hL hB)) (sE htab hG ep32y) (sE htab hL eLi) (sE htab hB eBi) rp32yii
  · have hL := hLi a0 32 a2 a3 b2 hl
    have hB := hBb a0 32 a2 a3 b3 hb
    exact fin htab rfl (cat_hold hG (cat_hold hL hB)) (sE htab hG ep32y) (sE htab hL eLi) (sE htab hB eBb) rp32yib
  · have hL := hLb a0 32 a2 a3 b2 hl
    have hB := hBl a0 32 a2 a3 b3 hb
    exact fin htab rfl (cat_hold hG (cat_hold hL hB)) (sE htab hG ep32y) (sE htab hL eLb) (sE htab hB eBl) rp32ybl
  · have hL := hLb a0 32 a2 a3 b2 hl
    have hB := hBi a0 32 a2 a3 b3 hb
    exact fin htab rfl (cat_hold hG (cat_hold hL hB)) (sE htab hG ep32y) (sE htab hL eLb) (sE htab hB eBi) rp32ybi
  · have hL := hLb a0 32 a2 a3 b2 hl
    have hB := hBb a0 32 a2 a3 b3 hb
    exact fin htab rfl (cat_hold hG (cat_hold hL hB)) (sE htab hG ep32y) (sE htab hL eLb) (sE htab hB eBb) rp32ybb
theorem cp32n (a0 a2 a3 : Int) (b0 : (-9223372036854775808 : Int) ≤ a0 ∧ a0 ≤ 9223372036854775807) (b2 : (-9223372036854775808 : Int) ≤ a2 ∧ a2 ≤ 9223372036854775807) (b3 : (-9223372036854775808 : Int) ≤ a3 ∧ a3 ≤ 9223372036854775807) (hg : (1 ≤ a0 ∧ a0 ≤ 256) ∧ Int.tmod a0 (32 : Int) ≠ 0) (w : World) (htab : Lib.TabIs Tryz.prog w "internal/strconv.uint64pow10" .u64 Lib.pow10Tab) : Calls Tryz.prog 5 #[.int .i64 a0, .int .i64 32, .agg #[.int .i64 a2, .int .i64 a3]] w fun e w' => e = .returned (.bool true) ∧ Kept w w' := by
  have hG := hp32n a0 a2 a3 b0 hg
  have hl : a2 < 1 ∨ (1 ≤ a2 ∧ a2 ≤ 4096) ∨ 4096 < a2 := by omega
  have hb : a3 < 1 ∨ (1 ≤ a3 ∧ a3 ≤ 1024) ∨ 1024 < a3 := by omega
  rcases hl with hl | hl | hl <;> rcases hb with hb | hb | hb
  · have hL := hLl a0 32 a2 a3 b2 hl
    have hB := hBl a0 32 a2 a3 b3 hb
    exact fin htab rfl (cat_hold hG (cat_hold hL hB)) (sE htab hG ep32n) (sE htab hL eLl) (sE htab hB eBl) rp32nll
  · have hL := hLl a0 32 a2 a3 b2 hl
    have hB := hBi a0 32 a2 a3 b3 hb
    exact fin htab rfl (cat_hold hG (cat_hold hL hB)) (sE htab hG ep32n) (sE htab hL eLl) (sE htab hB eBi) rp32nli
  · have hL := hLl a0 32 a2 a3 b2 hl
    have hB := hBb a0 32 a2 a3 b3 hb
    exact fin htab rfl (cat_hold hG (cat_hold hL hB)) (sE htab hG ep32n) (sE htab hL eLl) (sE htab hB eBb) rp32nlb
  · have hL := hLi a0 32 a2 a3 b2 hl
    have hB := hBl a0 32 a2 a3 b3 hb
    exact fin htab rfl (cat_hold hG (cat_hold hL hB)) (sE htab hG ep32n) (sE htab hL eLi) (sE htab hB eBl) rp32nil
  · have hL := hLi a0 32 a2 a3 b2 hl
    have hB := hBi a0 32 a2 a3 b3 hb
    exact fin htab rfl (cat_hold hG (cat_hold hL hB)) (sE htab hG ep32n) (sE htab hL eLi) (sE htab hB eBi) rp32nii
  · have hL := hLi a0 32 a2 a3 b2 hl
    have hB := hBb a0 32 a2 a3 b3 hb
    exact fin htab rfl (cat_hold hG (cat_hold hL hB)) (sE htab hG ep32n) (sE htab hL eLi) (sE htab hB eBb) rp32nib
  · have hL := hLb a0 32 a2 a3 b2 hl
    have hB := hBl a0 32 a2 a3 b3 hb
    exact fin htab rfl (cat_hold hG (cat_hold hL hB)) (sE htab hG ep32n) (sE htab hL eLb) (sE htab hB eBl) rp32nbl
  · have hL := hLb a0 32 a2 a3 b2 hl
    have hB := hBi a0 32 a2 a3 b3 hb
    exact fin htab rfl (cat_hold hG (cat_hold hL hB)) (sE htab hG ep32n) (sE htab hL eLb) (sE htab hB eBi) rp32nbi
  · have hL := hLb a0 32 a2 a3 b2 hl
    have hB := hBb a0 32 a2 a3 b3 hb
    exact fin htab rfl (cat_hold hG (cat_hold hL hB)) (sE htab hG ep32n) (sE htab hL eLb) (sE htab hB eBb) rp32nbb
theorem pow2 : ∀ n : Fin 33, 1 ≤ n.val → bits .and .i64 (n.val : Int) (IntKind.wrap .i64 ((n.val : Int) - (1 : Int))) = 0 → n.val = 1 ∨ n.val = 2 ∨ n.val = 4 ∨ n.val = 8 ∨ n.val = 16 ∨ n.val = 32 := by decide +kernel
theorem law (a0 a1 a2 a3 : Int) (b0 : (-9223372036854775808 : Int) ≤ a0 ∧ a0 ≤ 9223372036854775807) (b1 : (-9223372036854775808 : Int) ≤ a1 ∧ a1 ≤ 9223372036854775807) (b2 : (-9223372036854775808 : Int) ≤ a2 ∧ a2 ≤ 9223372036854775807) (b3 : (-9223372036854775808 : Int) ≤ a3 ∧ a3 ≤ 9223372036854775807) (w : World) (htab : Lib.TabIs Tryz.prog w "internal/strconv.uint64pow10" .u64 Lib.pow10Tab) : Calls Tryz.prog 5 #[.int .i64 a0, .int .i64 a1, .agg #[.int .i64 a2, .int .i64 a3]] w fun e w' => e = .returned (.bool true) ∧ Kept w w' := by
  by_cases h1 : a0 < 1
  · exact cgl a0 a1 a2 a3 b0 b1 b2 b3 h1 w htab
  by_cases h2 : 256 < a0
  · exact cgb a0 a1 a2 a3 b0 b1 b2 b3 h2 w htab
  have hr : 1 ≤ a0 ∧ a0 ≤ 256 := by omega
  by_cases h3 : a1 < 1
  · exact csl a0 a1 a2 a3 b0 b1 b2 b3 ⟨hr, h3⟩ w htab
  by_cases h4 : 32 < a1
  · exact csb a0 a1 a2 a3 b0 b1 b2 b3 ⟨hr, h4⟩ w htab
  have hs : 1 ≤ a1 ∧ a1 ≤ 32 := by omega
  by_cases h5 : bits .and .i64 a1 (IntKind.wrap .i64 (a1 - (1 : Int))) ≠ 0
  · exact csn a0 a1 a2 a3 b0 b1 b2 b3 ⟨hr, hs, h5⟩ w htab
  have h5 := Decidable.not_not.1 h5
  obtain ⟨n, rfl⟩ : ∃ n : Nat, a1 = n := ⟨a1.toNat, by omega⟩
  have hp := pow2 ⟨n, by omega⟩ (by show 1 ≤ n; omega) h5
  have hp : n = 1 ∨ n = 2 ∨ n = 4 ∨ n = 8 ∨ n = 16 ∨ n = 32 := hp
  rcases hp with rfl | rfl | rfl | rfl | rfl | rfl
  · exact cp1y a0 a2 a3 b0 b2 b3 hr w htab
  · by_cases hm : Int.tmod a0 (2 : Int) = 0
    · exact cp2y a0 a2 a3 b0 b2 b3 ⟨hr, hm⟩ w htab
    · exact cp2n a0 a2 a3 b0 b2 b3 ⟨hr, hm⟩ w htab
  · by_cases hm : Int.tmod a0 (4 : Int) = 0
    · exact cp4y a0 a2 a3 b0 b2 b3 ⟨hr, hm⟩ w htab
    · exact cp4n a0 a2 a3 b0 b2 b3 ⟨hr, hm⟩ w htab
  · by_cases hm : Int.tmod a0 (8 : Int) = 0
    · exact cp8y a0 a2 a3 b0 b2 b3 ⟨hr, hm⟩ w htab
    · exact cp8n a0 a2 a3 b0 b2 b3 ⟨hr, hm⟩ w htab
  · by_cases hm : Int.tmod a0 (16 : Int) = 0
    · exact cp16y a0 a2 a3 b0 b2 b3 ⟨hr, hm⟩ w htab
    · exact cp16n a0 a2 a3 b0 b2 b3 ⟨hr, hm⟩ w htab
  · by_cases hm : Int.tmod a0 (32 : Int) = 0
    · exact cp32y a0 a2 a3 b0 b2 b3 ⟨hr, hm⟩ w htab
    · exact cp32n a0 a2 a3 b0 b2 b3 ⟨hr, hm⟩ w htab
end Go.Proofs.YtphhdonkpijhhaaGreatDoor.Am.TypesRefuses
