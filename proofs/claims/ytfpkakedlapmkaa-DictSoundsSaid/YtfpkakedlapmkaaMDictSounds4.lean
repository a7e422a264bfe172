/- Contracts of Go functions and plain facts, of several texts, one behind the other; no condition. -/
import Derived.Test.YtfpkakedlapmkaaMDictSounds2
import Derived.Test.YtfpkakedlapmkaaMDictSounds3
import Derived.Laws.RangeString
import Derived.Laws.RangeAny
import Derived.ChangeArms
import Derived.OpenShut
import Derived.SizedLaws
section
set_option linter.unusedSimpArgs false
set_option linter.unusedVariables false
namespace Go.Proofs.Ytfpkakedlapmkaa.Q
open Go.RowKit Go.Shelf Go.Proofs.YtfpkakedlapmkaaW.PrintWords Go.Proofs.YtfpkakedlapmkaaW.PrintLast
attribute [local go_sem] Oper.semAt_some
set_option maxRecDepth 100000 in
def primsL : List S37 := [(⟨(⟨#[105]⟩ : ByteArray), 25⟩ : S37), (⟨(⟨#[106]⟩ : ByteArray), 26⟩ : S37), (⟨(⟨#[101, 120, 101, 99, 117, 116, 101]⟩ : ByteArray), 29⟩ : S37), (⟨(⟨#[43]⟩ : ByteArray), 30⟩ : S37), (⟨(⟨#[45]⟩ : ByteArray), 31⟩ : S37), (⟨(⟨#[42]⟩ : ByteArray), 32⟩ : S37), (⟨(⟨#[47]⟩ : ByteArray), 33⟩ : S37), (⟨(⟨#[109, 111, 100]⟩ : ByteArray), 34⟩ : S37), (⟨(⟨#[97, 110, 100]⟩ : ByteArray), 35⟩ : S37), (⟨(⟨#[111, 114]⟩ : ByteArray), 36⟩ : S37), (⟨(⟨#[120, 111, 114]⟩ : ByteArray), 37⟩ : S37), (⟨(⟨#[105, 110, 118, 101, 114, 116]⟩ : ByteArray), 38⟩ : S37), (⟨(⟨#[108, 115, 104, 105, 102, 116]⟩ : ByteArray), 39⟩ : S37), (⟨(⟨#[114, 115, 104, 105, 102, 116]⟩ : ByteArray), 40⟩ : S37), (⟨(⟨#[62, 62, 97]⟩ : ByteArray), 41⟩ : S37), (⟨(⟨#[47, 109, 111, 100]⟩ : ByteArray), 42⟩ : S37), (⟨(⟨#[117, 47, 109, 111, 100]⟩ : ByteArray), 43⟩ : S37), (⟨(⟨#[110, 101, 103, 97, 116, 101]⟩ : ByteArray), 44⟩ : S37), (⟨(⟨#[97, 98, 115]⟩ : ByteArray), 45⟩ : S37), (⟨(⟨#[109, 105, 110]⟩ : ByteArray), 46⟩ : S37), (⟨(⟨#[109, 97, 120]⟩ : ByteArray), 47⟩ : S37), (⟨(⟨#[62, 114]⟩ : ByteArray), 48⟩ : S37), (⟨(⟨#[114, 62]⟩ : ByteArray), 49⟩ : S37), (⟨(⟨#[114, 64]⟩ : ByteArray), 50⟩ : S37), (⟨(⟨#[48, 61]⟩ : ByteArray), 52⟩ : S37), (⟨(⟨#[48, 60, 62]⟩ : ByteArray), 53⟩ : S37), (⟨(⟨#[48, 60]⟩ : ByteArray), 54⟩ : S37), (⟨(⟨#[48, 60, 61]⟩ : ByteArray), 55⟩ : S37), (⟨(⟨#[48, 62]⟩ : ByteArray), 56⟩ : S37), (⟨(⟨#[48, 62, 61]⟩ : ByteArray), 57⟩ : S37), (⟨(⟨#[60]⟩ : ByteArray), 58⟩ : S37), (⟨(⟨#[62]⟩ : ByteArray), 59⟩ : S37), (⟨(⟨#[61]⟩ : ByteArray), 60⟩ : S37), (⟨(⟨#[60, 62]⟩ : ByteArray), 61⟩ : S37), (⟨(⟨#[117, 62]⟩ : ByteArray), 62⟩ : S37), (⟨(⟨#[117, 60, 61]⟩ : ByteArray), 63⟩ : S37), (⟨(⟨#[117, 60]⟩ : ByteArray), 64⟩ : S37), (⟨(⟨#[117, 62, 61]⟩ : ByteArray), 65⟩ : S37), (⟨(⟨#[62, 61]⟩ : ByteArray), 66⟩ : S37), (⟨(⟨#[60, 61]⟩ : ByteArray), 67⟩ : S37), (⟨(⟨#[100, 114, 111, 112]⟩ : ByteArray), 70⟩ : S37), (⟨(⟨#[100, 117, 112]⟩ : ByteArray), 71⟩ : S37), (⟨(⟨#[111, 118, 101, 114]⟩ : ByteArray), 72⟩ : S37), (⟨(⟨#[115, 119, 97, 112]⟩ : ByteArray), 73⟩ : S37), (⟨(⟨#[114, 111, 116]⟩ : ByteArray), 74⟩ : S37), (⟨(⟨#[45, 114, 111, 116]⟩ : ByteArray), 75⟩ : S37), (⟨(⟨#[116, 117, 99, 107]⟩ : ByteArray), 76⟩ : S37), (⟨(⟨#[110, 105, 112]⟩ : ByteArray), 77⟩ : S37), (⟨(⟨#[112, 105, 99, 107]⟩ : ByteArray), 78⟩ : S37), (⟨(⟨#[114, 111, 108, 108]⟩ : ByteArray), 79⟩ : S37), (⟨(⟨#[63, 100, 117, 112]⟩ : ByteArray), 80⟩ : S37), (⟨(⟨#[100, 101, 112, 116, 104]⟩ : ByteArray), 81⟩ : S37), (⟨(⟨#[50, 100, 114, 111, 112]⟩ : ByteArray), 82⟩ : S37), (⟨(⟨#[50, 100, 117, 112]⟩ : ByteArray), 83⟩ : S37), (⟨(⟨#[50, 111, 118, 101, 114]⟩ : ByteArray), 84⟩ : S37), (⟨(⟨#[50, 115, 119, 97, 112]⟩ : ByteArray), 85⟩ : S37), (⟨(⟨#[50, 114, 111, 116]⟩ : ByteArray), 86⟩ : S37), (⟨(⟨#[50, 47]⟩ : ByteArray), 87⟩ : S37), (⟨(⟨#[117, 50, 47]⟩ : ByteArray), 88⟩ : S37), (⟨(⟨#[50, 42]⟩ : ByteArray), 89⟩ : S37), (⟨(⟨#[43, 33]⟩ : ByteArray), 108⟩ : S37), (⟨(⟨#[64]⟩ : ByteArray), 109⟩ : S37), (⟨(⟨#[119, 64]⟩ : ByteArray), 111⟩ : S37), (⟨(⟨#[99, 64]⟩ : ByteArray), 113⟩ : S37), (⟨(⟨#[33]⟩ : ByteArray), 114⟩ : S37), (⟨(⟨#[119, 33]⟩ : ByteArray), 116⟩ : S37), (⟨(⟨#[99, 33]⟩ : ByteArray), 117⟩ : S37), (⟨(⟨#[109, 111, 118, 101]⟩ : ByteArray), 120⟩ : S37), (⟨(⟨#[102, 105, 108, 108]⟩ : ByteArray), 121⟩ : S37), (⟨(⟨#[99, 111, 109, 112]⟩ : ByteArray), 122⟩ : S37), (⟨(⟨#[108, 98, 115, 112, 108, 105, 116]⟩ : ByteArray), 126⟩ : S37), (⟨(⟨#[98, 108, 106, 111, 105, 110]⟩ : ByteArray), 127⟩ : S37), (⟨(⟨#[119, 98, 102, 108, 105, 112]⟩ : ByteArray), 128⟩ : S37), (⟨(⟨#[117, 112, 99]⟩ : ByteArray), 129⟩ : S37), (⟨(⟨#[108, 99, 99]⟩ : ByteArray), 130⟩ : S37), (⟨(⟨#[117, 110, 108, 111, 111, 112]⟩ : ByteArray), 137⟩ : S37), (⟨(⟨#[97, 108, 108, 111, 99, 45, 109, 101, 109]⟩ : ByteArray), 139⟩ : S37), (⟨(⟨#[101, 109, 105, 116]⟩ : ByteArray), 143⟩ : S37), (⟨(⟨#[116, 121, 112, 101]⟩ : ByteArray), 144⟩ : S37), (⟨(⟨#[99, 114]⟩ : ByteArray), 146⟩ : S37), (⟨(⟨#[117, 46]⟩ : ByteArray), 155⟩ : S37), (⟨(⟨#[46]⟩ : ByteArray), 157⟩ : S37), (⟨(⟨#[98, 97, 115, 101, 33]⟩ : ByteArray), 160⟩ : S37), (⟨(⟨#[45, 49]⟩ : ByteArray), 164⟩ : S37), (⟨(⟨#[48]⟩ : ByteArray), 165⟩ : S37), (⟨(⟨#[49]⟩ : ByteArray), 166⟩ : S37), (⟨(⟨#[50]⟩ : ByteArray), 167⟩ : S37), (⟨(⟨#[51]⟩ : ByteArray), 168⟩ : S37), (⟨(⟨#[98, 108]⟩ : ByteArray), 169⟩ : S37), (⟨(⟨#[104, 101, 114, 101]⟩ : ByteArray), 173⟩ : S37), (⟨(⟨#[117, 109, 42]⟩ : ByteArray), 212⟩ : S37), (⟨(⟨#[117, 109, 47, 109, 111, 100]⟩ : ByteArray), 213⟩ : S37), (⟨(⟨#[100, 43]⟩ : ByteArray), 216⟩ : S37), (⟨(⟨#[100, 45]⟩ : ByteArray), 217⟩ : S37), (⟨(⟨#[112, 114, 111, 112, 101, 114, 116, 121]⟩ : ByteArray), 272⟩ : S37), (⟨(⟨#[101, 110, 99, 111, 100, 101, 45, 105, 110, 116]⟩ : ByteArray), 273⟩ : S37), (⟨(⟨#[101, 110, 99, 111, 100, 101, 43]⟩ : ByteArray), 274⟩ : S37), (⟨(⟨#[101, 110, 99, 111, 100, 101, 45, 115, 116, 114, 105, 110, 103]⟩ : ByteArray), 276⟩ : S37), (⟨(⟨#[110, 101, 119, 45, 100, 101, 118, 105, 99, 101]⟩ : ByteArray), 287⟩ : S37), (⟨(⟨#[102, 105, 110, 105, 115, 104, 45, 100, 101, 118, 105, 99, 101]⟩ : ByteArray), 295⟩ : S37), (⟨(⟨#[115, 109, 47, 114, 101, 109]⟩ : ByteArray), 469⟩ : S37), (⟨(⟨#[109, 121, 45, 115, 101, 108, 102]⟩ : ByteArray), 515⟩ : S37), (⟨(⟨#[109, 121, 45, 112, 97, 114, 101, 110, 116]⟩ : ByteArray), 522⟩ : S37), (⟨(⟨#[36, 99, 97, 108, 108, 45, 109, 101, 116, 104, 111, 100]⟩ : ByteArray), 526⟩ : S37), (⟨(⟨#[99, 97, 116, 99, 104]⟩ : ByteArray), 535⟩ : S37), (⟨(⟨#[116, 104, 114, 111, 119]⟩ : ByteArray), 536⟩ : S37), (⟨(⟨#[103, 101, 116, 45, 109, 121, 45, 112, 114, 111, 112, 101, 114, 116, 121]⟩ : ByteArray), 538⟩ : S37), (⟨(⟨#[100, 101, 99, 111, 100, 101, 45, 105, 110, 116]⟩ : ByteArray), 539⟩ : S37), (⟨(⟨#[100, 101, 99, 111, 100, 101, 45, 115, 116, 114, 105, 110, 103]⟩ : ByteArray), 540⟩ : S37), (⟨(⟨#[100, 101, 108, 101, 116, 101, 45, 112, 114, 111, 112, 101, 114, 116, 121]⟩ : ByteArray), 542⟩ : S37), (⟨(⟨#[102, 109, 47, 109, 111, 100]⟩ : ByteArray), 725⟩ : S37)]
set_option maxRecDepth 100000 in
def primCells : List Value := [.string (⟨#[105]⟩ : ByteArray), .int .i64 25, .string (⟨#[106]⟩ : ByteArray), .int .i64 26, .string (⟨#[101, 120, 101, 99, 117, 116, 101]⟩ : ByteArray), .int .i64 29, .string (⟨#[43]⟩ : ByteArray), .int .i64 30, .string (⟨#[45]⟩ : ByteArray), .int .i64 31, .string (⟨#[42]⟩ : ByteArray), .int .i64 32, .string (⟨#[47]⟩ : ByteArray), .int .i64 33, .string (⟨#[109, 111, 100]⟩ : ByteArray), .int .i64 34, .string (⟨#[97, 110, 100]⟩ : ByteArray), .int .i64 35, .string (⟨#[111, 114]⟩ : ByteArray), .int .i64 36, .string (⟨#[120, 111, 114]⟩ : ByteArray), .int .i64 37, .string (⟨#[105, 110, 118, 101, 114, 116]⟩ : ByteArray), .int .i64 38, .string (⟨#[108, 115, 104, 105, 102, 116]⟩ : ByteArray), .int .i64 39, .string (⟨#[114, 115, 104, 105, 102, 116]⟩ : ByteArray), .int .i64 40, .string (⟨#[62, 62, 97]⟩ : ByteArray), .int .i64 41, .string (⟨#[47, 109, 111, 100]⟩ : ByteArray), .int .i64 42, .string (⟨#[117, 47, 109, 111, 100]⟩ : ByteArray), .int .i64 43, .string (⟨#[110, 101, 103, 97, 116, 101]⟩ : ByteArray), .int .i64 44, .string (⟨#[97, 98, 115]⟩ : ByteArray), .int .i64 45, .string (⟨#[109, 105, 110]⟩ : ByteArray), .int .i64 46, .string (⟨#[109, 97, 120]⟩ : ByteArray), .int .i64 47, .string (⟨#[62, 114]⟩ : ByteArray), .int .i64 48, .string (⟨#[114, 62]⟩ : ByteArray), .int .i64 49, .string (⟨#[114, 64]⟩ : ByteArray), .int .i64 50, .string (⟨#[48, 61]⟩ : ByteArray), .int .i64 52, .string (⟨#[48, 60, 62]⟩ : ByteArray), .int .i64 53, .string (⟨#[48, 60]⟩ : ByteArray), .int .i64 54, .string (⟨#[48, 60, 61]⟩ : ByteArray), .int .i64 55, .string (⟨#[48, 62]⟩ : ByteArray), .int .i64 56, .string (⟨#[48, 62, 61]⟩ : ByteArray), .int .i64 57, .string (⟨#[60]⟩ : ByteArray), .int .i64 58, .string (⟨#[62]⟩ : ByteArray), .int .i64 59, .string (⟨#[61]⟩ : ByteArray), .int .i64 60, .string (⟨#[60, 62]⟩ : ByteArray), .int .i64 61, .string (⟨#[117, 62]⟩ : ByteArray), .int .i64 62, .string (⟨#[117, 60, 61]⟩ : ByteArray), .int .i64 63, .string (⟨#[117, 60]⟩ : ByteArray), .int .i64 64, .string (⟨#[117, 62, 61]⟩ : ByteArray), .int .i64 65, .string (⟨#[62, 61]⟩ : ByteArray), .int .i64 66, .string (⟨#[60, 61]⟩ : ByteArray), .int .i64 67, .string (⟨#[100, 114, 111, 112]⟩ : ByteArray), .int .i64 70, .string (⟨#[100, 117, 112]⟩ : ByteArray), .int .i64 71, .string (⟨#[111, 118, 101, 114]⟩ : ByteArray), .int .i64 72, .string (⟨#[115, 119, 97, 112]⟩ : ByteArray), .int .i64 73, .string (⟨#[114, 111, 116]⟩ : ByteArray), .int .i64 74, .string (⟨#[45, 114, 111, 116]⟩ : ByteArray), .int .i64 75, .string (⟨#[116, 117, 99, 107]⟩ : ByteArray), .int .i64 76, .string (⟨#[110, 105, 112]⟩ : ByteArray), .int .i64 77, .string (⟨#[112, 105, 99, 107]⟩ : ByteArray), .int .i64 78, .string (⟨#[114, 111, 108, 108]⟩ : ByteArray), .int .i64 79, .string (⟨#[63, 100, 117, 112]⟩ : ByteArray), .int .i64 80, .string (⟨#[100, 101, 112, 116, 104]⟩ : ByteArray), .int .i64 81, .string (⟨#[50, 100, 114, 111, 112]⟩ : ByteArray), .int .i64 82, .string (⟨#[50, 100, 117, 112]⟩ : ByteArray), .int .i64 83, .string (⟨#[50, 111, 118, 101, 114]⟩ : ByteArray), .int .i64 84, .string (⟨#[50, 115, 119, 97, 112]⟩ : ByteArray), .int .i64 85, .string (⟨#[50, 114, 111, 116]⟩ : ByteArray), .int .i64 86, .string (⟨#[50, 47]⟩ : ByteArray), .int .i64 87, .string (⟨#[117, 50, 47]⟩ : ByteArray), .int .i64 88, .string (⟨#[50, 42]⟩ : ByteArray), .int .i64 89, .string (⟨#[43, 33]⟩ : ByteArray), .int .i64 108, .string (⟨#[64]⟩ : ByteArray), .int .i64 109, .string (⟨#[119, 64]⟩ : ByteArray), .int .i64 111, .string (⟨#[99, 64]⟩ : ByteArray), .int .i64 113, .string (⟨#[33]⟩ : ByteArray), .int .i64 114, .string (⟨#[119, 33]⟩ : ByteArray), .int .i64 116, .string (⟨#[99, 33]⟩ : ByteArray), .int .i64 117, .string (⟨#[109, 111, 118, 101]⟩ : ByteArray), .int .i64 120, .string (⟨#[102, 105, 108, 108]⟩ : ByteArray), .int .i64 121, .string (⟨#[99, 111, 109, 112]⟩ : ByteArray), .int .i64 122, .string (⟨#[108, 98, 115, 112, 108, 105, 116]⟩ : ByteArray), .int .i64 126, .string (⟨#[98, 108, 106, 111, 105, 110]⟩ : ByteArray), .int .i64 127, .string (⟨#[119, 98, 102, 108, 105, 112]⟩ : ByteArray), .int .i64 128, .string (⟨#[117, 112, 99]⟩ : ByteArray), .int .i64 129, .string (⟨#[108, 99, 99]⟩ : ByteArray), .int .i64 130, .string (⟨#[117, 110, 108, 111, 111, 112]⟩ : ByteArray), .int .i64 137, .string (⟨#[97, 108, 108, 111, 99, 45, 109, 101, 109]⟩ : ByteArray), .int .i64 139, .string (⟨#[101, 109, 105, 116]⟩ : ByteArray), .int .i64 143, .string (⟨#[116, 121, 112, 101]⟩ : ByteArray), .int .i64 144, .string (⟨#[99, 114]⟩ : ByteArray), .int .i64 146, .string (⟨#[117, 46]⟩ : ByteArray), .int .i64 155, .string (⟨#[46]⟩ : ByteArray), .int .i64 157, .string (⟨#[98, 97, 115, 101, 33]⟩ : ByteArray), .int .i64 160, .string (⟨#[45, 49]⟩ : ByteArray), .int .i64 164, .string (⟨#[48]⟩ : ByteArray), .int .i64 165, .string (⟨#[49]⟩ : ByteArray), .int .i64 166, .string (⟨#[50]⟩ : ByteArray), .int .i64 167, .string (⟨#[51]⟩ : ByteArray), .int .i64 168, .string (⟨#[98, 108]⟩ : ByteArray), .int .i64 169, .string (⟨#[104, 101, 114, 101]⟩ : ByteArray), .int .i64 173, .string (⟨#[117, 109, 42]⟩ : ByteArray), .int .i64 212, .string (⟨#[117, 109, 47, 109, 111, 100]⟩ : ByteArray), .int .i64 213, .string (⟨#[100, 43]⟩ : ByteArray), .int .i64 216, .string (⟨#[100, 45]⟩ : ByteArray), .int .i64 217, .string (⟨#[112, 114, 111, 112, 101, 114, 116, 121]⟩ : ByteArray), .int .i64 272, .string (⟨#[101, 110, 99, 111, 100, 101, 45, 105, 110, 116]⟩ : ByteArray), .int .i64 273, .string (⟨#[101, 110, 99, 111, 100, 101, 43]⟩ : ByteArray), .int .i64 274, .string (⟨#[101, 110, 99, 111, 100, 101, 45, 115, 116, 114, 105, 110, 103]⟩ : ByteArray), .int .i64 276, .string (⟨#[110, 101, 119, 45, 100, 101, 118, 105, 99, 101]⟩ : ByteArray), .int .i64 287, .string (⟨#[102, 105, 110, 105, 115, 104, 45, 100, 101, 118, 105, 99, 101]⟩ : ByteArray), .int .i64 295, .string (⟨#[115, 109, 47, 114, 101, 109]⟩ : ByteArray), .int .i64 469, .string (⟨#[109, 121, 45, 115, 101, 108, 102]⟩ : ByteArray), .int .i64 515, .string (⟨#[109, 121, 45, 112, 97, 114, 101, 110, 116]⟩ : ByteArray), .int .i64 522, .string (⟨#[36, 99, 97, 108, 108, 45, 109, 101, 116, 104, 111, 100]⟩ : ByteArray), .int .i64 526, .string (⟨#[99, 97, 116, 99, 104]⟩ : ByteArray), .int .i64 535, .string (⟨#[116, 104, 114, 111, 119]⟩ : ByteArray), .int .i64 536, .string (⟨#[103, 101, 116, 45, 109, 121, 45, 112, 114, 111, 112, 101, 114, 116, 121]⟩ : ByteArray), .int .i64 538, .string (⟨#[100, 101, 99, 111, 100, 101, 45, 105, 110, 116]⟩ : ByteArray), .int .i64 539, .string (⟨#[100, 101, 99, 111, 100, 101, 45, 115, 116, 114, 105, 110, 103]⟩ : ByteArray), .int .i64 540, .string (⟨#[100, 101, 108, 101, 116, 101, 45, 112, 114, 111, 112, 101, 114, 116, 121]⟩ : ByteArray), .int .i64 542, .string (⟨#[102, 109, 47, 109, 111, 100]⟩ : ByteArray), .int .i64 725]
set_option maxRecDepth 100000 in
theorem primCells_eq : primCells = flat37 primsL := by rfl
theorem primsL_len : primsL.length = 111 := by rfl
set_option maxHeartbeats 8000000 in
set_option maxRecDepth 100000 in
theorem prims_exact (w : World) :
    Calls Try.prog 14 #[] w fun e w' => e = .returned (.slice (some ⟨w.heap.size, 0, none⟩) 111 111) ∧ w' = w.alloc (.cells (flat37 primsL).toArray 37 (0, 0)) := by
  have hu37 := Try.underlying37
  rw [← primCells_eq]
  go_enter Try.func14, Try.ntmps14
  go_wp2_with (((with_reducible refine gate_dst (N := 112) rfl ?_); refine Kd.event_run ?hg (w1 := w.alloc (.cells primCells.toArray 37 (0, 0))) (v := .slice (some ⟨w.heap.size, 0, none⟩) 111 111) ?hr ?_; (case hg => rfl); (case hr => kernel_rfl)))
  go_ret
  exact ⟨rfl, rfl⟩
end Go.Proofs.Ytfpkakedlapmkaa.Q
end
section
set_option linter.unusedSimpArgs false
set_option linter.unusedVariables false
namespace Go.Proofs.Ytfpkakedlapmkaa.Q
open Go.RowKit Go.Proofs.YtfpkakedlapmkaaW.PrintWords Go.Proofs.YtfpkakedlapmkaaW.PrintLast
end Go.Proofs.Ytfpkakedlapmkaa.Q
end
section
set_option linter.unusedSimpArgs false
set_option linter.unusedVariables false
namespace Go.Proofs.Ytfpkakedlapmkaa.Q
open Go.RowKit Go.Proofs.YtfpkakedlapmkaaW.PrintWords Go.Proofs.YtfpkakedlapmkaaW.PrintLast
def root91 : S91 := ⟨⟨#[]⟩, [], -1, [], []⟩
theorem treeF_root : treeF [root91] = true := by kernel_rfl
theorem wordsF_new : wordsF primsL (wordsN primsL 111) = true := by kernel_rfl
set_option maxHeartbeats 2000000 in
set_option maxRecDepth 100000 in
theorem formedNew (Av : Option Addr) (c : Nat) (A5 : Option Addr) (c5 : Nat) (w : World) (hC : Kd.C k51 w Av 111 (wordsN primsL 111)) (hc : 111 ≤ c) (hT : Kd.C k91 w A5 1 [root91]) (hc5 : 1 ≤ c5) :
    Calls Try.prog 26 #[.agg (mcells (.slice Av 111 c) (.slice A5 1 c5))] w fun e w' => e = .returned (.bool true) ∧ Below w.heap.size w w' := by
  obtain ⟨l, hl⟩ : ∃ l, l = wordsN primsL 111 := ⟨_, rfl⟩
  have hlen : l.length = 111 := by rw [hl]; exact wordsN_len primsL 111 (by rw [primsL_len]; omega)
  have hF : wordsF primsL l = true := by rw [hl]; exact wordsF_new
  rw [← hl] at hC
  clear hl
  have HTF := Aside0.mk (fun (X : World) (hX : Below w.heap.size w X) => treeFormed_calls A5 c5 [root91] X (Kd.C_below hT hX) hc5)
  rw [treeF_root] at HTF
  obtain ⟨ad, rfl⟩ : ∃ ad, Av = some ad := by
    rw [← hlen] at hC
    obtain ⟨ad, _, _, hA, _⟩ := at_T51 hC 0 (by omega) (by omega)
    exact ⟨ad, hA⟩
  have HI := Aside0.mk (fun X : World => instsRight_nil (.slice none 0 0) (.slice none 0 0) (.slice (some ad) 111 c) (.slice none 0 0) 16 (.slice A5 1 c5) (-1) none 0 ⟨#[]⟩ X)
  have HWR := Aside0.mk (show ∀ X : World, Below w.heap.size w X → Calls Try.prog 47 #[.agg (mcells (.slice (some ad) 111 c) (.slice A5 1 c5))] X fun e w' => e = .returned (.bool true) ∧ Below X.heap.size X w' from fun X hX => by
    have hCX := Kd.C_below hC hX
    rw [← hlen] at hCX
    have h := wordsRight_calls primsL primsL_len prims_exact (.slice none 0 0) (.slice none 0 0) ad c l (.slice none 0 0) 16 (.slice A5 1 c5) (-1) (.slice none 0 0) (-1) ⟨#[]⟩ X hCX (by omega) (by omega) (by omega) false (fun Y hY _ => by
      have h0 : l.length - 111 = 0 := by omega
      rw [h0]
      refine (containsW_nil _ _ _ Y).mono ?_
      rintro e w' ⟨rfl, rfl⟩
      exact ⟨rfl, Below.refl _ _⟩)
    rw [hF, hlen] at h
    exact h)
  have HB := Aside0.mk (Below.refl w.heap.size w)
  clear hC hT hF hlen hc hc5
  unfold mcells at HWR ⊢
  have BK := Aside0.mk (blk_new w (.cells #[.slice none 0 0, .slice none 0 0, .slice (some ad) 111 c, .slice none 0 0, .int .u32 16, .slice A5 1 c5, .int .i64 (-1), .slice none 0 0, .int .i64 (-1), .string ⟨#[]⟩] 32 (0, 0)))
  go_enter Try.func26, Try.ntmps26
  go_wp2_with (first
    | (go_at_call 44; refine (HTF.out _ (below_alloc (Below.refl _ _) _)).mono ?_; rintro e w1 ⟨rfl, hb⟩; replace BK := Aside0.mk (blk_below BK.out hb); replace HB := Aside0.mk (below_step (below_alloc (Below.refl _ _) _) hb); clear hb; have z1_0 : w1.cell? ⟨w.heap.size, 0, none⟩ = some (.slice none 0 0) := (blk_cell BK.out 0).trans rfl; have z1_1 : w1.cell? ⟨w.heap.size, 1, none⟩ = some (.slice none 0 0) := (blk_cell BK.out 1).trans rfl; have z1_2 : w1.cell? ⟨w.heap.size, 2, none⟩ = some (.slice (some ad) 111 c) := (blk_cell BK.out 2).trans rfl; have z1_3 : w1.cell? ⟨w.heap.size, 3, none⟩ = some (.slice none 0 0) := (blk_cell BK.out 3).trans rfl; have z1_4 : w1.cell? ⟨w.heap.size, 4, none⟩ = some (.int .u32 16) := (blk_cell BK.out 4).trans rfl; have z1_5 : w1.cell? ⟨w.heap.size, 5, none⟩ = some (.slice A5 1 c5) := (blk_cell BK.out 5).trans rfl; have z1_6 : w1.cell? ⟨w.heap.size, 6, none⟩ = some (.int .i64 (-1)) := (blk_cell BK.out 6).trans rfl; have z1_7 : w1.cell? ⟨w.heap.size, 7, none⟩ = some (.slice none 0 0) := (blk_cell BK.out 7).trans rfl; have z1_8 : w1.cell? ⟨w.heap.size, 8, none⟩ = some (.int .i64 (-1)) := (blk_cell BK.out 8).trans rfl; have z1_9 : w1.cell? ⟨w.heap.size, 9, none⟩ = some (.string ⟨#[]⟩) := (blk_cell BK.out 9).trans rfl)
    | (go_at_call 46; refine (HI.out _).mono ?_; rintro e w2 ⟨rfl, hb⟩; replace BK := Aside0.mk (blk_below BK.out hb); replace HB := Aside0.mk (below_step HB.out hb); clear hb; have z2_0 : w2.cell? ⟨w.heap.size, 0, none⟩ = some (.slice none 0 0) := (blk_cell BK.out 0).trans rfl; have z2_1 : w2.cell? ⟨w.heap.size, 1, none⟩ = some (.slice none 0 0) := (blk_cell BK.out 1).trans rfl; have z2_2 : w2.cell? ⟨w.heap.size, 2, none⟩ = some (.slice (some ad) 111 c) := (blk_cell BK.out 2).trans rfl; have z2_3 : w2.cell? ⟨w.heap.size, 3, none⟩ = some (.slice none 0 0) := (blk_cell BK.out 3).trans rfl; have z2_4 : w2.cell? ⟨w.heap.size, 4, none⟩ = some (.int .u32 16) := (blk_cell BK.out 4).trans rfl; have z2_5 : w2.cell? ⟨w.heap.size, 5, none⟩ = some (.slice A5 1 c5) := (blk_cell BK.out 5).trans rfl; have z2_6 : w2.cell? ⟨w.heap.size, 6, none⟩ = some (.int .i64 (-1)) := (blk_cell BK.out 6).trans rfl; have z2_7 : w2.cell? ⟨w.heap.size, 7, none⟩ = some (.slice none 0 0) := (blk_cell BK.out 7).trans rfl; have z2_8 : w2.cell? ⟨w.heap.size, 8, none⟩ = some (.int .i64 (-1)) := (blk_cell BK.out 8).trans rfl; have z2_9 : w2.cell? ⟨w.heap.size, 9, none⟩ = some (.string ⟨#[]⟩) := (blk_cell BK.out 9).trans rfl)
    | (go_at_call 47; refine (HWR.out _ HB.out).mono ?_; rintro e w3 ⟨rfl, hb⟩; replace BK := Aside0.mk (blk_below BK.out hb); replace HB := Aside0.mk (below_step HB.out hb); clear hb; have z3_0 : w3.cell? ⟨w.heap.size, 0, none⟩ = some (.slice none 0 0) := (blk_cell BK.out 0).trans rfl; have z3_1 : w3.cell? ⟨w.heap.size, 1, none⟩ = some (.slice none 0 0) := (blk_cell BK.out 1).trans rfl; have z3_2 : w3.cell? ⟨w.heap.size, 2, none⟩ = some (.slice (some ad) 111 c) := (blk_cell BK.out 2).trans rfl; have z3_3 : w3.cell? ⟨w.heap.size, 3, none⟩ = some (.slice none 0 0) := (blk_cell BK.out 3).trans rfl; have z3_4 : w3.cell? ⟨w.heap.size, 4, none⟩ = some (.int .u32 16) := (blk_cell BK.out 4).trans rfl; have z3_5 : w3.cell? ⟨w.heap.size, 5, none⟩ = some (.slice A5 1 c5) := (blk_cell BK.out 5).trans rfl; have z3_6 : w3.cell? ⟨w.heap.size, 6, none⟩ = some (.int .i64 (-1)) := (blk_cell BK.out 6).trans rfl; have z3_7 : w3.cell? ⟨w.heap.size, 7, none⟩ = some (.slice none 0 0) := (blk_cell BK.out 7).trans rfl; have z3_8 : w3.cell? ⟨w.heap.size, 8, none⟩ = some (.int .i64 (-1)) := (blk_cell BK.out 8).trans rfl; have z3_9 : w3.cell? ⟨w.heap.size, 9, none⟩ = some (.string ⟨#[]⟩) := (blk_cell BK.out 9).trans rfl)
    | (go_at_call 48; refine (containsI_nil _ _ _ _).mono ?_; rintro e w4 ⟨rfl, rfl⟩))
  go_ret
  exact ⟨rfl, HB.out⟩
end Go.Proofs.Ytfpkakedlapmkaa.Q
end
section
set_option linter.unusedSimpArgs false
set_option linter.unusedVariables false
namespace Go.Proofs.Ytfpkakedlapmkaa.Q
open Go.RowKit Go.Proofs.YtfpkakedlapmkaaW.PrintWords Go.Proofs.YtfpkakedlapmkaaW.PrintLast
def dupB : ByteArray := ⟨#[100, 117, 112]⟩
theorem lastP_dup : lastP (isN51 dupB) (wordsN primsL 111) = (41, true) := by kernel_rfl
theorem primIdx_dup : primIdx primsL 71 = (41, true) := by kernel_rfl
theorem new2 (w : World) : Calls Try.prog 12 #[] w fun e w' => ∃ A c A5 c5, e = .returned (.agg (mcells (.slice A 111 c) (.slice A5 1 c5))) ∧ 111 ≤ c ∧ Kd.C k51 w' A 111 (wordsN primsL 111) ∧ 1 ≤ c5 ∧ Kd.C k91 w' A5 1 [root91] ∧ Below w.heap.size w w' := by
  refine (new_calls primsL primsL_len prims_exact w).mono ?_
  rintro e w' ⟨v, v5, rfl, hv, hv5, hb⟩
  obtain ⟨A, c, rfl, hc, hC⟩ := Kd.R_reads hv
  obtain ⟨A5, c5, rfl, hc5, hC5⟩ := Kd.R_reads hv5
  have hl : (wordsN primsL 111).length = 111 := wordsN_len primsL 111 (by rw [primsL_len]; omega)
  rw [hl] at hc hC ⊢
  exact ⟨A, c, A5, c5, rfl, hc, hC, hc5, hC5, hb⟩
theorem find_new (A : Option Addr) (c : Nat) (A5 : Option Addr) (c5 : Nat) (X : World) (hC : Kd.C k51 X A 111 (wordsN primsL 111)) :
    Calls Try.prog 16 #[.agg (mcells (.slice A 111 c) (.slice A5 1 c5)), .string dupB] X fun e w' => e = .returned (.tuple #[.int .i64 41, .bool true]) ∧ Below X.heap.size X w' := by
  have hl : (wordsN primsL 111).length = 111 := wordsN_len primsL 111 (by rw [primsL_len]; omega)
  have hC2 := hC
  rw [← hl] at hC2
  have h := find_calls (.slice none 0 0) (.slice none 0 0) A c (wordsN primsL 111) (.slice none 0 0) 16 (.slice A5 1 c5) (-1) (.slice none 0 0) (-1) ⟨#[]⟩ dupB X (by rw [hl]; exact hC)
  rw [lastP_dup, hl] at h
  exact h
theorem code_new (A : Option Addr) (c : Nat) (A5 : Option Addr) (c5 : Nat) (X : World) :
    Calls Try.prog 17 #[.agg (mcells (.slice A 111 c) (.slice A5 1 c5)), .int .i64 71] X fun e w' => e = .returned (.tuple #[.int .i64 41, .bool true]) ∧ Below X.heap.size X w' := by
  have h := code_low primsL primsL_len prims_exact (.slice none 0 0) (.slice none 0 0) (.slice A 111 c) (.slice none 0 0) 16 (.slice A5 1 c5) (-1) (.slice none 0 0) (-1) ⟨#[]⟩ 71 (by omega) X
  rw [primIdx_dup] at h
  exact h
set_option maxHeartbeats 2000000 in
set_option maxRecDepth 100000 in
theorem alive_calls (w : World) : Calls Try.prog 10 #[] w fun e w' => e = .returned (.bool true) ∧ Below w.heap.size w w' := by
  have HB := Aside0.mk (Below.refl w.heap.size w)
  have HN := Aside0.mk new2
  have HFD := Aside0.mk find_new
  have HCD := Aside0.mk code_new
  have HFM := Aside0.mk formedNew
  unfold mcells dupB at HFD
  unfold mcells at HN HCD HFM
  go_enter Try.func10, Try.ntmps10
  go_wp2_with (first
    | (go_at_call 12; refine (HN.out _).mono ?_; rintro e w1 ⟨A, c, A5, c5, rfl, hc, hC, hc5, hC5, hb⟩; replace HB := Aside0.mk (below_step HB.out hb); have H1 := Aside0.mk hc; have H2 := Aside0.mk hC; have H3 := Aside0.mk hc5; have H4 := Aside0.mk hC5; clear hb hc hC hc5 hC5)
    | (go_at_call 16; refine (HFD.out _ _ _ _ _ H2.out).mono ?_; rintro e w2 ⟨rfl, hb⟩; replace HB := Aside0.mk (below_step HB.out hb); clear hb)
    | (go_at_call 17; refine (HCD.out _ _ _ _ _).mono ?_; rintro e w2 ⟨rfl, hb⟩; replace HB := Aside0.mk (below_step HB.out hb); clear hb)
    | (go_at_call 26; refine (HFM.out _ _ _ _ _ H2.out H1.out H4.out H3.out).mono ?_; rintro e w2 ⟨rfl, hb⟩; replace HB := Aside0.mk (below_step HB.out hb); clear hb))
  go_ret
  exact ⟨rfl, HB.out⟩
def tinderlaw09_alive.f : Option Bool := some true
theorem tinderlaw09_alive.calls (r : Bool) (w : World) (h : tinderlaw09_alive.f = some r) : Calls Try.prog 10 #[] w fun e w' => e = .returned (.bool r) ∧ Below w.heap.size w w' := by
  obtain rfl := Option.some.inj h
  exact alive_calls w
end Go.Proofs.Ytfpkakedlapmkaa.Q
end
section
set_option linter.unusedSimpArgs false
set_option linter.unusedVariables false
namespace Go.Proofs.Ytfpkakedlapmkaa.Q
open Go.RowKit Go.Proofs.YtfpkakedlapmkaaW.PrintWords Go.Proofs.YtfpkakedlapmkaaW.PrintLast
def oddR (c : Int) : Bool := decide (c ≤ 32) || decide (126 < c) || (decide (65 ≤ c) && decide (c ≤ 90))
set_option maxHeartbeats 1000000 in
set_option maxRecDepth 100000 in
theorem oddC_calls (c : Int) (w : World) : Calls Try.prog 41 #[.int .i32 c] w fun e w' => e = .returned (.bool (oddR c)) ∧ w' = w := by
  unfold oddR
  by_cases h1 : c ≤ 32
  · have d1 : decide (c ≤ 32) = true := decide_eq_true h1
    rw [d1]
    clear h1
    go_enter Try.func41, Try.ntmps41
    go_wp2
    go_ret
    exact ⟨by simp, rfl⟩
  · have d1 : decide (c ≤ 32) = false := decide_eq_false h1
    rw [d1]
    clear h1
    by_cases h2 : 126 < c
    · have d2 : decide (126 < c) = true := decide_eq_true h2
      rw [d2]
      clear h2
      go_enter Try.func41, Try.ntmps41
      go_wp2
      go_ret
      exact ⟨by simp, rfl⟩
    · have d2 : decide (126 < c) = false := decide_eq_false h2
      rw [d2]
      clear h2
      by_cases h3 : 65 ≤ c
      · have d3 : decide (65 ≤ c) = true := decide_eq_true h3
        rw [d3]
        clear h3
        go_enter Try.func41, Try.ntmps41
        go_wp2
        go_ret
        exact ⟨by simp, rfl⟩
      · have d3 : decide (65 ≤ c) = false := decide_eq_false h3
        rw [d3]
        clear h3
        go_enter Try.func41, Try.ntmps41
        go_wp2
        go_ret
        exact ⟨by simp, rfl⟩
def okB (b : UInt8) : Bool := !oddR (b.toNat : Int)
def okS (s : ByteArray) : Prop := ∀ (i : Nat) (h : i < s.size), okB (s[i]'h) = true
theorem odd_high (c : Int) (h : 128 ≤ c) : oddR c = true := by
  unfold oddR
  rw [decide_eq_true (show 126 < c by omega)]
  simp
set_option maxHeartbeats 2000000 in
set_option maxRecDepth 100000 in
theorem indexFunc_calls (s : ByteArray) (w : World) :
    Calls Try.prog 71 #[.string s, .func (.func 41) #[] #[], .bool true] w fun e w' => ∃ r : Int, e = .returned (.int .i64 r) ∧ (r < 0 ↔ okS s) ∧ Below w.heap.size w w' := by
  have hu9 := Try.underlying9
  have hB : ∀ p, Below w.heap.size w (w.iter s p) := fun p => below_alloc (Below.refl _ _) _
  have HB := Aside0.mk hB
  clear hB
  go_enter Try.func71, Try.ntmps71
  go_wp2
  go_loopw [11] (fun _ wr => ∃ i : Nat, i ≤ s.size ∧ wr = w.iter s i ∧ Aside0 (∀ (j : Nat) (h : j < s.size), j < i → okB (s[j]'h) = true)) (fun _ wr => s.size - wr.iterPos w.heap.size)
  case atStart => exact ⟨0, by omega, rfl, ⟨fun j h hj => absurd hj (by omega)⟩⟩
  case round =>
    obtain ⟨i, hi, rfl, HO⟩ := hrel
    by_cases hlt : i < s.size
    · obtain ⟨c, n, hnx, hod, hn⟩ : ∃ (c : Int) (n : Nat), (∀ ty, (Instr.next (.pointer (some ⟨w.heap.size, 0, none⟩)) true ty).run Try.prog (w.iter s i) = .ok (.tuple #[.bool true, .int .i64 i, .int .i32 c]) (w.iter s (i + n))) ∧ oddR c = !okB (s[i]'hlt) ∧ (oddR c = false → n = 1) := by
        by_cases ha : (s[i]'hlt).toNat < 128
        · exact ⟨((s[i]'hlt).toNat : Int), 1, fun ty => run_next_ascii (P := Try.prog) w s i ty hlt ha, by unfold okB; simp, fun _ => rfl⟩
        · have hd := (decode_high s i hlt (by omega)).1
          refine ⟨((Utf8.decode s i).1 : Int), (Utf8.decode s i).2, fun ty => run_next_any (P := Try.prog) w s i ty hlt, ?_, fun h => ?_⟩
          · unfold okB
            rw [odd_high _ (by omega), odd_high _ (by omega)]
            rfl
          · rw [odd_high _ (by omega)] at h
            cases h
      have HC := Aside0.mk (fun X : World => oddC_calls c X)
      have HH := Aside0.mk hlt
      cases hd : oddR c with
      | true =>
        rw [hd] at HC hod
        have hbad : okB (s[i]'hlt) = false := by simpa using hod
        have HX := Aside0.mk (show ((i : Int) < 0 ↔ okS s) from ⟨fun h => absurd h (by omega), fun h => by have := h i hlt; rw [hbad] at this; cases this⟩)
        clear hd hod hn hi hlt hbad
        go_wp2_with (go_at_call 41; (with_reducible refine (HC.out _).mono ?_); rintro e w7 ⟨rfl, rfl⟩)
        go_ret
        exact ⟨i, rfl, HX.out, HB.out _⟩
      | false =>
        obtain rfl := hn hd
        rw [hd] at HC hod
        have hgood : okB (s[i]'hlt) = true := by simpa using hod
        have HX := Aside0.mk hgood
        clear hd hod hn hi hgood
        go_wp2_with (go_at_call 41; (with_reducible refine (HC.out _).mono ?_); rintro e w7 ⟨rfl, rfl⟩)
        go_roundw
        case rel =>
          refine ⟨i + 1, HH.out, rfl, ⟨fun j h hj => ?_⟩⟩
          rcases Nat.lt_or_eq_of_le (Nat.le_of_lt_succ hj) with h2 | h2
          · exact HO.out j h h2
          · subst h2; exact HX.out
        case measure =>
          have := HH.out
          simp
          omega
    · have hnx := fun ty => run_next_end (P := Try.prog) w s i ty hlt
      go_wp2
      go_ret
      exact ⟨-1, rfl, ⟨fun _ j h => HO.out j h (by omega), fun _ => by decide⟩, HB.out _⟩
instance okS_dec (s : ByteArray) : Decidable (okS s) := by unfold okS; infer_instance
def dNamed (s : ByteArray) : Bool := !s.toList.isEmpty && (decide ((s.size : Int) ≤ 31) && decide (okS s))
set_option maxHeartbeats 2000000 in
set_option maxRecDepth 100000 in
theorem named_calls (s : ByteArray) (w : World) : Calls Try.prog 18 #[.string s] w fun e w' => e = .returned (.bool (dNamed s)) ∧ Below w.heap.size w w' := by
  have HI := Aside0.mk (indexFunc_calls s)
  have HB := Aside0.mk (Below.refl w.heap.size w)
  unfold dNamed
  by_cases d1 : s.toList.isEmpty = true
  · rw [d1]
    go_enter Try.func18, Try.ntmps18
    go_wp2
    go_ret
    exact ⟨by simp, HB.out⟩
  · replace d1 : s.toList.isEmpty = false := by simpa using d1
    rw [d1]
    by_cases h2 : (s.size : Int) ≤ 31
    · have d2 : decide ((s.size : Int) ≤ 31) = true := decide_eq_true h2
      rw [d2]
      clear h2
      have HS := Aside0.mk (show ∀ X : World, Calls Try.prog 42 #[.string s, .func (.func 41) #[] #[]] X fun e w' => ∃ r : Int, e = .returned (.int .i64 r) ∧ (r < 0 ↔ okS s) ∧ Below X.heap.size X w' from fun X => by
        have HI2 := Aside0.mk (HI.out X)
        clear HI HB d1 d2
        go_enter Try.func42, Try.ntmps42
        go_wp2_with (go_at_call 71; (with_reducible refine HI2.out.mono ?_); rintro e w7 ⟨r, rfl, hr, hb⟩; have HR := Aside0.mk hr; have HB := Aside0.mk hb; clear hr hb)
        go_ret
        exact ⟨r, rfl, HR.out, HB.out⟩)
      go_enter Try.func18, Try.ntmps18
      go_wp2_with (go_at_call 42; (with_reducible refine (HS.out _).mono ?_); rintro e w7 ⟨r, rfl, hr, hb⟩; have HR := Aside0.mk hr; have HB := Aside0.mk hb; clear hr hb)
      go_ret
      refine ⟨?_, HB.out⟩
      have : decide (r < 0) = decide (okS s) := decide_eq_decide.2 HR.out
      simp [this]
    · have d2 : decide ((s.size : Int) ≤ 31) = false := decide_eq_false h2
      rw [d2]
      clear h2
      go_enter Try.func18, Try.ntmps18
      go_wp2
      go_ret
      exact ⟨by simp, HB.out⟩
def dict_Named.f (a0 : ByteArray) : Option Bool := some (dNamed a0)
theorem dict_Named.calls (a0 : ByteArray) (r : Bool) (w : World) (h : dict_Named.f a0 = some r) : Calls Try.prog 18 #[.string a0] w fun e w' => e = .returned (.bool r) ∧ Below w.heap.size w w' := by
  obtain rfl := Option.some.inj h
  exact named_calls a0 w
end Go.Proofs.Ytfpkakedlapmkaa.Q
end
section
namespace Go.Proofs.Ytfpkakedlapmkaa.Q
open Go.RowKit Go.Proofs.YtfpkakedlapmkaaW.PrintWords Go.Proofs.YtfpkakedlapmkaaW.PrintLast Go.Proofs.YtfpkakedlapmkaaW.PrintMore
set_option linter.unusedVariables false
set_option linter.unusedSimpArgs false

attribute [local go_sem] max2_int min2_int max_two min_two max_three min_three max_four min_four
/-! ### tinderlaw09_DictSounds: function 4 -/
def tinderlaw09_DictSounds.f (k : Nat) (l0 : List (S69)) (a1 : Int) (a2 : ByteArray) : Option (Bool) := (tinderlaw09_alive.f).bind fun t5001 => (if t5001 = true then ((dict_Sound.f k l0 a1).bind fun t5002 => ((tinderref09_Sound.f k l0 a1).bind fun t5003 => (if (t5002 == t5003) = true then ((dict_Named.f a2).bind fun t5004 => ((tinderref09_Named.f k a2).bind fun t5005 => (some (t5004 == t5005)))) else (some false)))) else (some false))
set_option maxHeartbeats 8000000 in
set_option maxRecDepth 100000 in
theorem tinderlaw09_DictSounds.calls (k : Nat) (A0 : Option Addr) (c0 : Nat) (l0 : List (S69)) (a1 : Int) (a2 : ByteArray) (r : Bool) (w : World) (hr0 : Kd.C k69 w A0 l0.length l0) (hc0 : l0.length ≤ c0) (h : tinderlaw09_DictSounds.f k l0 a1 a2 = some r) :
    Calls Try.prog 4 #[.slice A0 l0.length c0, .int .i64 a1, .string a2] w fun e w' => e = .returned (.bool r) ∧ Below w.heap.size w w' := by
  have HR0 := Aside0.mk hr0
  have HC0 := Aside0.mk hc0
  clear hr0 hc0
  have HB := Aside0.mk (Below.refl w.heap.size w)
  have H : ((tinderlaw09_alive.f).bind fun t5001 => (if t5001 = true then ((dict_Sound.f k l0 a1).bind fun t5002 => ((tinderref09_Sound.f k l0 a1).bind fun t5003 => (if (t5002 == t5003) = true then ((dict_Named.f a2).bind fun t5004 => ((tinderref09_Named.f k a2).bind fun t5005 => (some (t5004 == t5005)))) else (some false)))) else (some false))) = some r := h
  clear h
  replace H := Option.bind_eq_some_iff.mp H
  obtain ⟨t5001, A40, H⟩ := H
  replace H : (if t5001 = true then ((dict_Sound.f k l0 a1).bind fun t5002 => ((tinderref09_Sound.f k l0 a1).bind fun t5003 => (if (t5002 == t5003) = true then ((dict_Named.f a2).bind fun t5004 => ((tinderref09_Named.f k a2).bind fun t5005 => (some (t5004 == t5005)))) else (some false)))) else (some false)) = some r := H
  have A4 := Aside0.mk A40
  clear A40
  by_cases c5 : t5001 = true
  · subst c5
    have H1 : ((dict_Sound.f k l0 a1).bind fun t5002 => ((tinderref09_Sound.f k l0 a1).bind fun t5003 => (if (t5002 == t5003) = true then ((dict_Named.f a2).bind fun t5004 => ((tinderref09_Named.f k a2).bind fun t5005 => (some (t5004 == t5005)))) else (some false)))) = some r := by rw [if_pos rfl] at H; exact H
    clear H
    have H := H1
    clear H1
    replace H := Option.bind_eq_some_iff.mp H
    obtain ⟨t5002, A60, H⟩ := H
    replace H : ((tinderref09_Sound.f k l0 a1).bind fun t5003 => (if (t5002 == t5003) = true then ((dict_Named.f a2).bind fun t5004 => ((tinderref09_Named.f k a2).bind fun t5005 => (some (t5004 == t5005)))) else (some false))) = some r := H
    have A6 := Aside0.mk A60
    clear A60
    replace H := Option.bind_eq_some_iff.mp H
    obtain ⟨t5003, A70, H⟩ := H
    replace H : (if (t5002 == t5003) = true then ((dict_Named.f a2).bind fun t5004 => ((tinderref09_Named.f k a2).bind fun t5005 => (some (t5004 == t5005)))) else (some false)) = some r := H
    have A7 := Aside0.mk A70
    clear A70
    by_cases c8 : (t5002 == t5003) = true
    · rw [if_pos c8] at H
      have c8b0 : (t5002 == t5003) = true := c8
      (try (have c8b1 : decide (t5002 = t5003) = true := by simpa using c8))
      (try (have c8b2 : (t5002 == t5003) = true := by simpa using c8))
      clear c8
      replace H := Option.bind_eq_some_iff.mp H
      obtain ⟨t5004, A90, H⟩ := H
      replace H : ((tinderref09_Named.f k a2).bind fun t5005 => (some (t5004 == t5005))) = some r := H
      have A9 := Aside0.mk A90
      clear A90
      replace H := Option.bind_eq_some_iff.mp H
      obtain ⟨t5005, A100, H⟩ := H
      replace H : (some (t5004 == t5005)) = some r := H
      have A10 := Aside0.mk A100
      clear A100
      obtain rfl := Option.some.inj H
      go_enter Try.func4, Try.ntmps4
      go_wp2_with (first | ((with_reducible refine gate_callee (f := 10) rfl ?_); refine goesL_ (some 7) rfl rfl Try.func10 (by kernel_rfl) rfl #[] rfl (by (try simp only [List.map_toArray, List.map_cons, List.map_nil]); first | done | rfl | (simp only [List.length_drop, List.length_take]; rfl)) ?_; (with_reducible refine (tinderlaw09_alive.calls  true _ A4.out).mono ?_); rintro e w11 ⟨rfl, hb⟩; refine ⟨_, rfl, ?_⟩; have n0_ := Aside0.mk (below_step (by repeat (first | (with_reducible first | exact HB.out | apply below_alloc | apply pw_below_drewN | apply below_drew1) | exact HB.out)) hb); clear HB; have HB := n0_; clear n0_; (try clear hb); (try clear hb2); (try clear hk); (try clear hi)) | (go_at_call 19; (with_reducible refine (dict_Sound.calls k _ _ l0 a1 t5002 _ ?side1 ?side2 A6.out).mono ?_); (case side1 => repeat (first | exact (Kd.C_below HR0.out HB.out) | (with_reducible refine Kd.C_alloc ?_ _) | (with_reducible refine Kd.C_drewN ?_ _) | (with_reducible refine Kd.C_drew ?_))); (case side2 => exact HC0.out); rintro e w12 ⟨rfl, hb⟩; have n0_ := Aside0.mk (below_step (by repeat (first | (with_reducible first | exact HB.out | apply below_alloc | apply pw_below_drewN | apply below_drew1) | exact HB.out)) hb); clear HB; have HB := n0_; clear n0_; (try clear hb); (try clear hb2); (try clear hk); (try clear hi)) | (go_at_call 20; (with_reducible refine (tinderref09_Sound.calls k _ _ l0 a1 t5003 _ ?side1 ?side2 A7.out).mono ?_); (case side1 => repeat (first | exact (Kd.C_below HR0.out HB.out) | (with_reducible refine Kd.C_alloc ?_ _) | (with_reducible refine Kd.C_drewN ?_ _) | (with_reducible refine Kd.C_drew ?_))); (case side2 => exact HC0.out); rintro e w' ⟨rfl, ⟨nd, rfl⟩⟩) | (go_at_call 18; (with_reducible refine (dict_Named.calls a2 t5004 _ A9.out).mono ?_); rintro e w13 ⟨rfl, hb⟩; have n0_ := Aside0.mk (below_step (by repeat (first | (with_reducible first | exact HB.out | apply below_alloc | apply pw_below_drewN | apply below_drew1) | exact HB.out)) hb); clear HB; have HB := n0_; clear n0_; (try clear hb); (try clear hb2); (try clear hk); (try clear hi)) | (go_at_call 21; (with_reducible refine (tinderref09_Named.calls k a2 t5005 _ A10.out).mono ?_); rintro e w' ⟨rfl, ⟨nd, rfl⟩⟩))
      go_ret
      exact ⟨by first | rfl | (simp [errW_none, errW_some] <;> rfl) | (simp [*, errW_none, errW_some] <;> rfl), by repeat (first | (with_reducible first | exact HB.out | apply below_alloc | apply pw_below_drewN | apply below_drew1) | exact HB.out)⟩
    · rw [if_neg c8] at H
      have c8b0 : (t5002 == t5003) = false := by simpa using c8
      (try (have c8b1 : decide (t5002 = t5003) = false := by simpa using c8))
      (try (have c8b2 : (t5002 == t5003) = false := by simpa using c8))
      (try (have c8b3 : ¬ (t5002 = t5003) := by simpa using c8))
      clear c8
      obtain rfl := Option.some.inj H
      go_enter Try.func4, Try.ntmps4
      go_wp2_with (first | ((with_reducible refine gate_callee (f := 10) rfl ?_); refine goesL_ (some 7) rfl rfl Try.func10 (by kernel_rfl) rfl #[] rfl (by (try simp only [List.map_toArray, List.map_cons, List.map_nil]); first | done | rfl | (simp only [List.length_drop, List.length_take]; rfl)) ?_; (with_reducible refine (tinderlaw09_alive.calls  true _ A4.out).mono ?_); rintro e w14 ⟨rfl, hb⟩; refine ⟨_, rfl, ?_⟩; have n0_ := Aside0.mk (below_step (by repeat (first | (with_reducible first | exact HB.out | apply below_alloc | apply pw_below_drewN | apply below_drew1) | exact HB.out)) hb); clear HB; have HB := n0_; clear n0_; (try clear hb); (try clear hb2); (try clear hk); (try clear hi)) | (go_at_call 19; (with_reducible refine (dict_Sound.calls k _ _ l0 a1 t5002 _ ?side1 ?side2 A6.out).mono ?_); (case side1 => repeat (first | exact (Kd.C_below HR0.out HB.out) | (with_reducible refine Kd.C_alloc ?_ _) | (with_reducible refine Kd.C_drewN ?_ _) | (with_reducible refine Kd.C_drew ?_))); (case side2 => exact HC0.out); rintro e w15 ⟨rfl, hb⟩; have n0_ := Aside0.mk (below_step (by repeat (first | (with_reducible first | exact HB.out | apply below_alloc | apply pw_below_drewN | apply below_drew1) | exact HB.out)) hb); clear HB; have HB := n0_; clear n0_; (try clear hb); (try clear hb2); (try clear hk); (try clear hi)) | (go_at_call 20; (with_reducible refine (tinderref09_Sound.calls k _ _ l0 a1 t5003 _ ?side1 ?side2 A7.out).mono ?_); (case side1 => repeat (first | exact (Kd.C_below HR0.out HB.out) | (with_reducible refine Kd.C_alloc ?_ _) | (with_reducible refine Kd.C_drewN ?_ _) | (with_reducible refine Kd.C_drew ?_))); (case side2 => exact HC0.out); rintro e w' ⟨rfl, ⟨nd, rfl⟩⟩))
      go_ret
      exact ⟨by first | rfl | (simp [errW_none, errW_some] <;> rfl) | (simp [*, errW_none, errW_some] <;> rfl), by repeat (first | (with_reducible first | exact HB.out | apply below_alloc | apply pw_below_drewN | apply below_drew1) | exact HB.out)⟩
  · replace c5 := Bool.eq_false_iff.mpr c5
    subst c5
    have H1 : (some false) = some r := by rw [if_neg (show ¬ (false = true) by decide)] at H; exact H
    clear H
    have H := H1
    clear H1
    obtain rfl := Option.some.inj H
    go_enter Try.func4, Try.ntmps4
    go_wp2_with (first | ((with_reducible refine gate_callee (f := 10) rfl ?_); refine goesL_ (some 7) rfl rfl Try.func10 (by kernel_rfl) rfl #[] rfl (by (try simp only [List.map_toArray, List.map_cons, List.map_nil]); first | done | rfl | (simp only [List.length_drop, List.length_take]; rfl)) ?_; (with_reducible refine (tinderlaw09_alive.calls  false _ A4.out).mono ?_); rintro e w16 ⟨rfl, hb⟩; refine ⟨_, rfl, ?_⟩; have n0_ := Aside0.mk (below_step (by repeat (first | (with_reducible first | exact HB.out | apply below_alloc | apply pw_below_drewN | apply below_drew1) | exact HB.out)) hb); clear HB; have HB := n0_; clear n0_; (try clear hb); (try clear hb2); (try clear hk); (try clear hi)))
    go_ret
    exact ⟨by first | rfl | (simp [errW_none, errW_some] <;> rfl) | (simp [*, errW_none, errW_some] <;> rfl), by repeat (first | (with_reducible first | exact HB.out | apply below_alloc | apply pw_below_drewN | apply below_drew1) | exact HB.out)⟩

end Go.Proofs.Ytfpkakedlapmkaa.Q
end
section
set_option linter.unusedSimpArgs false
set_option linter.unusedVariables false
namespace Go.Proofs.Ytfpkakedlapmkaa.Q
open Go.RowKit Go.Proofs.YtfpkakedlapmkaaW.PrintWords Go.Proofs.YtfpkakedlapmkaaW.PrintLast
/-- Is an instruction sound, among so many and so many words? -/
def opB (len words : Int) (x : S69) : Bool :=
  if x.f0 = 1 then true else if x.f0 = 2 ∨ x.f0 = 13 then decide (wrap64 x.f1 < words) else if x.f0 = 11 ∨ x.f0 = 12 then decide (wrap64 x.f1 = 0)
  else if x.f0 = 3 ∨ x.f0 = 4 ∨ x.f0 = 5 ∨ x.f0 = 6 ∨ x.f0 = 7 ∨ x.f0 = 8 ∨ x.f0 = 9 ∨ x.f0 = 10 then decide (wrap64 x.f1 ≤ len) else false
def soundF (l : List S69) (words : Int) : Bool := !decide (256 < (l.length : Int)) && l.all (opB l.length words)
theorem all_at {α : Type} (P : α → Bool) (z : α) (l : List α) (i : Int) (h0 : 0 ≤ i) (h1 : i < l.length) : (l.drop i.toNat).all P = (P (l.getD i.toNat z) && (l.drop (i + 1).toNat).all P) := by
  rw [List.drop_eq_getElem_cons (show i.toNat < l.length by omega), show (i + 1).toNat = i.toNat + 1 by omega, List.all_cons]
  simp [List.getD_eq_getElem?_getD, List.getElem?_eq_getElem (show i.toNat < l.length by omega)]
theorem ite_some_and (p : Prop) [Decidable p] (R : Bool) : (if p then some R else some false) = some (decide p && R) := by
  by_cases h : p
  · rw [if_pos h, decide_eq_true h]; rfl
  · rw [if_neg h, decide_eq_false h]; rfl
theorem ite_some_nand (p q : Prop) [Decidable p] [Decidable q] (R : Bool) (hpq : p ↔ ¬ q) : (if p then some false else some R) = some (decide q && R) := by
  by_cases h : p
  · rw [if_pos h, decide_eq_false (hpq.1 h)]; rfl
  · rw [if_neg h, decide_eq_true (Decidable.not_not.1 fun hq => h (hpq.2 hq))]; rfl
theorem dsound_go (l : List S69) (words : Int) (hl : l.length ≤ 256) : ∀ (d k : Nat) (i : Int), 0 ≤ i → i + d = l.length → 4 * d + 4 ≤ k → dict_Sound.l0 k l words l (l.length : Int) i = some ((l.drop i.toNat).all (opB l.length words))
  | 0, k, i, h0, h1, hk => by
    obtain ⟨k, rfl⟩ : ∃ m, k = m + 1 := ⟨k - 1, by omega⟩
    rw [dict_Sound.l0, if_neg (by omega), List.drop_eq_nil_of_le (by omega)]
    rfl
  | d + 1, k, i, h0, h1, hk => by
    obtain ⟨k, rfl⟩ : ∃ m, k = m + 4 := ⟨k - 4, by omega⟩
    have hw : wrap64 (i + 1) = i + 1 := by unfold wrap64; omega
    have ih := fun (k' : Nat) (h : 4 * d + 4 ≤ k') => dsound_go l words hl d k' (i + 1) (by omega) (by omega) h
    rw [all_at (opB l.length words) z69 l i h0 (by omega)]
    generalize hR : (l.drop (i + 1).toNat).all (opB l.length words) = R at ih ⊢
    rw [show l.getD i.toNat z69 = rd_T69 l i from rfl]
    generalize hx : rd_T69 l i = x
    rw [dict_Sound.l0, if_pos (by omega), if_pos h0, if_pos (by omega), hw, hx]
    unfold opB
    by_cases e1 : x.f0 = 1
    · rw [if_pos e1, if_pos e1, ih _ (by omega)]; rfl
    rw [if_neg e1, if_neg e1]
    by_cases e2 : x.f0 = 2
    · rw [if_pos e2, if_pos (.inl e2), beq_iff_eq.2 e2, dict_Sound.j1, if_pos rfl, hw, ih _ (by omega), ite_some_and]
    rw [if_neg e2]
    by_cases e3 : x.f0 = 13
    · rw [if_pos (.inr e3), beq_iff_eq.2 e3, dict_Sound.j1, if_pos rfl, hw, ih _ (by omega), ite_some_and]
    rw [if_neg (by omega), beq_eq_false_iff_ne.2 e3, dict_Sound.j1, if_neg (by simp)]
    by_cases e4 : x.f0 = 11
    · rw [if_pos e4, if_pos (.inl e4), beq_iff_eq.2 e4, dict_Sound.j2, if_pos rfl, hw, ih _ (by omega), ite_some_and]
    rw [if_neg e4]
    by_cases e5 : x.f0 = 12
    · rw [if_pos (.inr e5), beq_iff_eq.2 e5, dict_Sound.j2, if_pos rfl, hw, ih _ (by omega), ite_some_and]
    rw [if_neg (by omega), beq_eq_false_iff_ne.2 e5, dict_Sound.j2, if_neg (by simp)]
    by_cases f3 : x.f0 = 3
    · rw [if_pos f3, if_pos (by omega), beq_iff_eq.2 f3, dict_Sound.j3, if_pos rfl, hw, ih _ (by omega), ite_some_and]
    rw [if_neg f3]
    by_cases f4 : x.f0 = 4
    · rw [if_pos f4, if_pos (by omega), beq_iff_eq.2 f4, dict_Sound.j3, if_pos rfl, hw, ih _ (by omega), ite_some_and]
    rw [if_neg f4]
    by_cases f5 : x.f0 = 5
    · rw [if_pos f5, if_pos (by omega), beq_iff_eq.2 f5, dict_Sound.j3, if_pos rfl, hw, ih _ (by omega), ite_some_and]
    rw [if_neg f5]
    by_cases f6 : x.f0 = 6
    · rw [if_pos f6, if_pos (by omega), beq_iff_eq.2 f6, dict_Sound.j3, if_pos rfl, hw, ih _ (by omega), ite_some_and]
    rw [if_neg f6]
    by_cases f7 : x.f0 = 7
    · rw [if_pos f7, if_pos (by omega), beq_iff_eq.2 f7, dict_Sound.j3, if_pos rfl, hw, ih _ (by omega), ite_some_and]
    rw [if_neg f7]
    by_cases f8 : x.f0 = 8
    · rw [if_pos f8, if_pos (by omega), beq_iff_eq.2 f8, dict_Sound.j3, if_pos rfl, hw, ih _ (by omega), ite_some_and]
    rw [if_neg f8]
    by_cases f9 : x.f0 = 9
    · rw [if_pos f9, if_pos (by omega), beq_iff_eq.2 f9, dict_Sound.j3, if_pos rfl, hw, ih _ (by omega), ite_some_and]
    rw [if_neg f9]
    by_cases f10 : x.f0 = 10
    · rw [if_pos (by omega), beq_iff_eq.2 f10, dict_Sound.j3, if_pos rfl, hw, ih _ (by omega), ite_some_and]
    rw [if_neg (by omega), beq_eq_false_iff_ne.2 f10, dict_Sound.j3, if_neg (by simp), if_neg (by simp)]
    rfl
theorem dsound_eq (l : List S69) (words : Int) (k : Nat) (hk : 2000 ≤ k) : dict_Sound.f k l words = some (soundF l words) := by
  unfold dict_Sound.f soundF
  by_cases h : (l.length : Int) > 256
  · rw [if_pos h, decide_eq_true (show 256 < (l.length : Int) from h)]; rfl
  · rw [if_neg h, decide_eq_false (show ¬ 256 < (l.length : Int) from h), dsound_go l words (by omega) l.length k 0 (Int.le_refl _) (by omega) (by omega)]
    rfl
theorem rsound_go (l : List S69) (words : Int) (hl : l.length ≤ 256) : ∀ (d k : Nat) (i : Int), 0 ≤ i → i + d = l.length → 4 * d + 4 ≤ k → tinderref09_Sound.l0 k l words i = some ((l.drop i.toNat).all (opB l.length words))
  | 0, k, i, h0, h1, hk => by
    obtain ⟨k, rfl⟩ : ∃ m, k = m + 1 := ⟨k - 1, by omega⟩
    rw [tinderref09_Sound.l0, if_neg (by omega), List.drop_eq_nil_of_le (by omega)]
    rfl
  | d + 1, k, i, h0, h1, hk => by
    obtain ⟨k, rfl⟩ : ∃ m, k = m + 4 := ⟨k - 4, by omega⟩
    have hw : wrap64 (i + 1) = i + 1 := by unfold wrap64; omega
    have ih := fun (k' : Nat) (h : 4 * d + 4 ≤ k') => rsound_go l words hl d k' (i + 1) (by omega) (by omega) h
    rw [all_at (opB l.length words) z69 l i h0 (by omega)]
    generalize hR : (l.drop (i + 1).toNat).all (opB l.length words) = R at ih ⊢
    rw [show l.getD i.toNat z69 = rd_T69 l i from rfl]
    generalize hx : rd_T69 l i = x
    rw [tinderref09_Sound.l0, if_pos (by omega), if_pos h0, hw, hx]
    unfold opB
    by_cases e1 : x.f0 = 1
    · rw [if_pos e1, if_pos e1, ih _ (by omega)]; rfl
    rw [if_neg e1, if_neg e1]
    by_cases e2 : x.f0 = 2
    · rw [if_pos e2, if_pos (.inl e2), beq_iff_eq.2 e2, tinderref09_Sound.j1, if_pos rfl, hw, ih _ (by omega), ite_some_nand _ (wrap64 x.f1 < words) _ (by omega)]
    rw [if_neg e2]
    by_cases e3 : x.f0 = 13
    · rw [if_pos (.inr e3), beq_iff_eq.2 e3, tinderref09_Sound.j1, if_pos rfl, hw, ih _ (by omega), ite_some_nand _ (wrap64 x.f1 < words) _ (by omega)]
    rw [if_neg (by omega), beq_eq_false_iff_ne.2 e3, tinderref09_Sound.j1, if_neg (by simp)]
    by_cases e4 : x.f0 = 11
    · rw [if_pos e4, if_pos (.inl e4), beq_iff_eq.2 e4, tinderref09_Sound.j2, if_pos rfl, hw, ih _ (by omega), ite_some_and]
    rw [if_neg e4]
    by_cases e5 : x.f0 = 12
    · rw [if_pos (.inr e5), beq_iff_eq.2 e5, tinderref09_Sound.j2, if_pos rfl, hw, ih _ (by omega), ite_some_and]
    rw [if_neg (by omega), beq_eq_false_iff_ne.2 e5, tinderref09_Sound.j2, if_neg (by simp)]
    by_cases f3 : x.f0 = 3
    · rw [if_pos f3, if_pos (by omega), beq_iff_eq.2 f3, tinderref09_Sound.j3, if_pos rfl, hw, ih _ (by omega), ite_some_nand _ (wrap64 x.f1 ≤ l.length) _ (by omega)]
    rw [if_neg f3]
    by_cases f4 : x.f0 = 4
    · rw [if_pos f4, if_pos (by omega), beq_iff_eq.2 f4, tinderref09_Sound.j3, if_pos rfl, hw, ih _ (by omega), ite_some_nand _ (wrap64 x.f1 ≤ l.length) _ (by omega)]
    rw [if_neg f4]
    by_cases f5 : x.f0 = 5
    · rw [if_pos f5, if_pos (by omega), beq_iff_eq.2 f5, tinderref09_Sound.j3, if_pos rfl, hw, ih _ (by omega), ite_some_nand _ (wrap64 x.f1 ≤ l.length) _ (by omega)]
    rw [if_neg f5]
    by_cases f6 : x.f0 = 6
    · rw [if_pos f6, if_pos (by omega), beq_iff_eq.2 f6, tinderref09_Sound.j3, if_pos rfl, hw, ih _ (by omega), ite_some_nand _ (wrap64 x.f1 ≤ l.length) _ (by omega)]
    rw [if_neg f6]
    by_cases f7 : x.f0 = 7
    · rw [if_pos f7, if_pos (by omega), beq_iff_eq.2 f7, tinderref09_Sound.j3, if_pos rfl, hw, ih _ (by omega), ite_some_nand _ (wrap64 x.f1 ≤ l.length) _ (by omega)]
    rw [if_neg f7]
    by_cases f8 : x.f0 = 8
    · rw [if_pos f8, if_pos (by omega), beq_iff_eq.2 f8, tinderref09_Sound.j3, if_pos rfl, hw, ih _ (by omega), ite_some_nand _ (wrap64 x.f1 ≤ l.length) _ (by omega)]
    rw [if_neg f8]
    by_cases f9 : x.f0 = 9
    · rw [if_pos f9, if_pos (by omega), beq_iff_eq.2 f9, tinderref09_Sound.j3, if_pos rfl, hw, ih _ (by omega), ite_some_nand _ (wrap64 x.f1 ≤ l.length) _ (by omega)]
    rw [if_neg f9]
    by_cases f10 : x.f0 = 10
    · rw [if_pos (by omega), beq_iff_eq.2 f10, tinderref09_Sound.j3, if_pos rfl, hw, ih _ (by omega), ite_some_nand _ (wrap64 x.f1 ≤ l.length) _ (by omega)]
    rw [if_neg (by omega), beq_eq_false_iff_ne.2 f10, tinderref09_Sound.j3, if_neg (by simp)]
    rfl
theorem rsound_eq (l : List S69) (words : Int) (k : Nat) (hk : 2000 ≤ k) : tinderref09_Sound.f k l words = some (soundF l words) := by
  unfold tinderref09_Sound.f soundF
  by_cases h : (l.length : Int) > 256
  · rw [if_pos h, decide_eq_true (show 256 < (l.length : Int) from h)]; rfl
  · rw [if_neg h, decide_eq_false (show ¬ 256 < (l.length : Int) from h), rsound_go l words (by omega) l.length k 0 (Int.le_refl _) (by omega) (by omega)]
    rfl
theorem okB_bt (s : ByteArray) (i : Int) (h : i.toNat < s.size) : okB (s[i.toNat]'h) = (!(decide (bt s i ≤ 32) || decide (126 < bt s i) || (decide (65 ≤ bt s i) && decide (bt s i ≤ 90)))) := by
  unfold okB oddR
  rw [bt_at]
theorem rnamed_go (s : ByteArray) (hs : s.size ≤ 1000000000000000) : ∀ (d k : Nat) (i : Int), 0 ≤ i → i + d = s.size → d < k → ∃ r, tinderref09_Named.l0 k s i = some r ∧ (r = true ↔ ((∀ (j : Nat) (h : j < s.size), i.toNat ≤ j → okB (s[j]'h) = true) ∧ 1 ≤ s.size ∧ s.size ≤ 31))
  | 0, k, i, h0, h1, hk => by
    obtain ⟨k, rfl⟩ : ∃ m, k = m + 1 := ⟨k - 1, by omega⟩
    rw [tinderref09_Named.l0, if_neg (by omega)]
    by_cases h2 : (s.size : Int) ≥ 1
    · rw [if_pos h2]
      exact ⟨_, rfl, by rw [decide_eq_true_eq]; exact ⟨fun h => ⟨fun j hj hi => absurd hj (by omega), by omega, by omega⟩, fun h => by omega⟩⟩
    · rw [if_neg h2]
      exact ⟨_, rfl, ⟨fun h => (Bool.false_ne_true h).elim, fun h => absurd h.2.1 (by omega)⟩⟩
  | d + 1, k, i, h0, h1, hk => by
    obtain ⟨k, rfl⟩ : ∃ m, k = m + 1 := ⟨k - 1, by omega⟩
    have hw : wrap64 (i + 1) = i + 1 := by unfold wrap64; omega
    obtain ⟨r, hr, hi⟩ := rnamed_go s hs d k (i + 1) (by omega) (by omega) (by omega)
    have hlt : i.toNat < s.size := by omega
    have hok := okB_bt s i hlt
    rw [tinderref09_Named.l0, if_pos (by omega), if_pos h0, hw, hr]
    generalize bt s i = c at hok
    have bad : okB (s[i.toNat]'hlt) = false → ∃ r, (some false : Option Bool) = some r ∧ (r = true ↔ ((∀ (j : Nat) (h : j < s.size), i.toNat ≤ j → okB (s[j]'h) = true) ∧ 1 ≤ s.size ∧ s.size ≤ 31)) := fun hb =>
      ⟨false, rfl, ⟨fun h => (Bool.false_ne_true h).elim, fun h => by rw [h.1 i.toNat hlt (Nat.le_refl _)] at hb; cases hb⟩⟩
    have good : okB (s[i.toNat]'hlt) = true → ∃ r', (some r : Option Bool) = some r' ∧ (r' = true ↔ ((∀ (j : Nat) (h : j < s.size), i.toNat ≤ j → okB (s[j]'h) = true) ∧ 1 ≤ s.size ∧ s.size ≤ 31)) := fun hg =>
      ⟨r, rfl, hi.trans ⟨fun h => ⟨fun j hj hij => by
        by_cases e : j = i.toNat
        · subst e; exact hg
        · exact h.1 j hj (by omega), h.2⟩, fun h => ⟨fun j hj hij => h.1 j hj (by omega), h.2⟩⟩⟩
    by_cases c1 : c < 33
    · rw [if_pos c1]; exact bad (by rw [hok, decide_eq_true (show c ≤ 32 by omega)]; rfl)
    rw [if_neg c1]
    by_cases c2 : c > 126
    · rw [if_pos c2]; exact bad (by rw [hok, decide_eq_true (show 126 < c from c2)]; simp)
    rw [if_neg c2]
    by_cases c3 : c ≥ 65
    · rw [if_pos c3]
      by_cases c4 : c ≤ 90
      · rw [if_pos c4]; exact bad (by rw [hok, decide_eq_true (show 65 ≤ c from c3), decide_eq_true c4]; simp)
      · rw [if_neg c4]; exact good (by rw [hok, decide_eq_false (show ¬ c ≤ 32 by omega), decide_eq_false (show ¬ 126 < c from c2), decide_eq_false c4]; simp)
    · rw [if_neg c3]; exact good (by rw [hok, decide_eq_false (show ¬ c ≤ 32 by omega), decide_eq_false (show ¬ 126 < c from c2), decide_eq_false (show ¬ 65 ≤ c from c3)]; simp)
theorem toList_empty (s : ByteArray) : s.toList.isEmpty = decide (s.size = 0) := by
  have e : s.toList.length = s.size := by rw [ByteArray.toList_eq, data_length]
  cases h : s.toList with
  | nil => rw [h] at e; simp at e; simp [← e]
  | cons a l => rw [h, List.length_cons] at e; rw [decide_eq_false (by omega)]; rfl
theorem rnamed_eq (s : ByteArray) (hs : s.size ≤ 1000000000000000) (k : Nat) (hk : s.size < k) : tinderref09_Named.f k s = some (dNamed s) := by
  unfold tinderref09_Named.f
  obtain ⟨r, hr, hi⟩ := rnamed_go s hs s.size k 0 (Int.le_refl _) (by omega) hk
  rw [hr]
  congr 1
  rw [Bool.eq_iff_iff, hi]
  unfold dNamed
  rw [toList_empty]
  simp only [Bool.and_eq_true, Bool.not_eq_true', decide_eq_false_iff_not, decide_eq_true_eq]
  constructor
  · rintro ⟨h1, h2, h3⟩
    exact ⟨by omega, by omega, fun j hj => h1 j hj (Nat.zero_le _)⟩
  · rintro ⟨h1, h2, h3⟩
    exact ⟨fun j hj _ => h3 j hj, by omega, by omega⟩
end Go.Proofs.Ytfpkakedlapmkaa.Q
end
section
set_option linter.unusedVariables false
namespace Go.Proofs.Ytfpkakedlapmkaa.Q
open Go.RowKit Go.Proofs.YtfpkakedlapmkaaW.PrintWords Go.Proofs.YtfpkakedlapmkaaW.PrintLast
def OpG (a : S69) : Prop := (Lit.int .i64 a.f0).wf = true ∧ (Lit.int .u32 a.f1).wf = true
def OpsG (l : List S69) : Prop := l.length * 16 ≤ 140737488351232 ∧ ∀ b ∈ l, OpG b
def WordG (a : S51) : Prop := a.f0.size ≤ 140737488351232 ∧ (Lit.int .i64 a.f1).wf = true ∧ (Lit.int .i64 a.f2).wf = true ∧ (Lit.int .u32 a.f3).wf = true ∧ OpsG a.f4
def PropG (p : S106) : Prop := p.f0.size ≤ 140737488351232 ∧ (p.f1.length * 1 ≤ 140737488351232 ∧ ∀ b ∈ p.f1, (Lit.int .u8 b).wf = true)
def NodeG (a : S91) : Prop := a.f0.size ≤ 140737488351232 ∧ (a.f1.length * 4 ≤ 140737488351232 ∧ ∀ b ∈ a.f1, (Lit.int .u32 b).wf = true) ∧ (Lit.int .i64 a.f2).wf = true ∧ (a.f3.length * 40 ≤ 140737488351232 ∧ ∀ b ∈ a.f3, PropG b) ∧ (a.f4.length * 4 ≤ 140737488351232 ∧ ∀ b ∈ a.f4, (Lit.int .u32 b).wf = true)
def InstG (a : S82) : Prop := (Lit.int .i64 a.f0).wf = true ∧ (Lit.int .i64 a.f1).wf = true ∧ a.f2.size ≤ 140737488351232 ∧ (a.f3.length * 4 ≤ 140737488351232 ∧ ∀ b ∈ a.f3, (Lit.int .u32 b).wf = true)
def MachG (z : S32) : Prop := (z.f0.length * 4 ≤ 140737488351232 ∧ ∀ b ∈ z.f0, (Lit.int .u32 b).wf = true) ∧ (z.f1.length * 1 ≤ 140737488351232 ∧ ∀ b ∈ z.f1, (Lit.int .u8 b).wf = true) ∧ (z.f2.length * 64 ≤ 140737488351232 ∧ ∀ b ∈ z.f2, WordG b) ∧ (z.f3.length * 8 ≤ 140737488351232 ∧ ∀ b ∈ z.f3, (Lit.int .i64 b).wf = true) ∧ (Lit.int .u32 z.f4).wf = true ∧ (z.f5.length * 96 ≤ 140737488351232 ∧ ∀ b ∈ z.f5, NodeG b) ∧ (Lit.int .i64 z.f6).wf = true ∧ (z.f7.length * 56 ≤ 140737488351232 ∧ ∀ b ∈ z.f7, InstG b) ∧ (Lit.int .i64 z.f8).wf = true ∧ z.f9.size ≤ 140737488351232
end Go.Proofs.Ytfpkakedlapmkaa.Q
end
section
namespace Go.Proofs.Ytfpkakedlapmkaa.Q
open Go.RowKit Go.Proofs.YtfpkakedlapmkaaW.PrintWords Go.Proofs.YtfpkakedlapmkaaW.PrintLast
theorem dictSounds_row {w : World} (A : Option Addr) (c : Nat) (z : List S69) (hC : Kd.C k69 w A z.length z) (hc : z.length ≤ c) (_hg : OpsG z) (n : Int) (_hn : (Lit.int .i64 n).wf = true) (s : ByteArray) (hs : s.size ≤ 140737488351232) :
    Calls Try.prog 4 #[.slice A z.length c, .int .i64 n, .string s] w fun e w' => e = .returned (.bool true) ∧ Below w.heap.size w w' := by
  refine tinderlaw09_DictSounds.calls 1000000000000000 A c z n s true w hC hc ?_
  unfold tinderlaw09_DictSounds.f
  rw [show tinderlaw09_alive.f = some true from rfl, Option.bind_some, if_pos rfl, dsound_eq _ _ _ (by omega), Option.bind_some, rsound_eq _ _ _ (by omega), Option.bind_some, beq_self_eq_true, if_pos rfl, show dict_Named.f s = some (dNamed s) from rfl, Option.bind_some, rnamed_eq s (by omega) _ (by omega), Option.bind_some, beq_self_eq_true]
end Go.Proofs.Ytfpkakedlapmkaa.Q
end
section
namespace Go.Proofs.Ytfpkakedlapmkaa.Q
open Go.RowKit Go.Proofs.YtfpkakedlapmkaaW.PrintWords Go.Proofs.YtfpkakedlapmkaaW.PrintLast Go.Proofs.YtfpkakedlapmkaaW.PrintMore
def Opens {α : Type} (P : Program) (t : TypeId) (d : Kd α) (G : α → Prop) : Prop :=
  ∀ (H : Type) (enc : TypeId × Value → H) (W : World) (fuel : Nat) (cs : List Value) (x : DataW H × List MemPlace), DataW.trod enc P W 0 (fun _ => true) true fuel t cs = some x → (∀ n ∈ x.1.weights P t, n ≤ reachBytes) → ∃ a, d.K W a cs ∧ G a
section
variable {P : Program} {t e : TypeId}
theorem opens_int {k : IntKind} (ht : P.underlying t = some (.int k)) : Opens P t (Kd.int k) (fun n => (Lit.int k n).wf = true) := by
  intro H enc W fuel cs x h _
  obtain ⟨n, rfl, _, hw⟩ := DataW.trod_int ht h
  exact ⟨n, rfl, hw⟩
theorem weights_all {H : Type} {P : Program} {e : TypeId} : ∀ {l : List (DataW H)} {d : DataW H}, d ∈ l → ∀ n ∈ d.weights P e, n ∈ DataW.weightsAll P e l
  | d0 :: l, d, hd, n, hn => by
    simp only [DataW.weightsAll, List.mem_append]
    rcases List.mem_cons.1 hd with rfl | hd
    · exact .inl hn
    · exact .inr (weights_all hd n hn)
theorem cells_get {W : World} {base : Nat} {a : Addr} {n : Nat} {c : List Value} (h : W.cells? base a n = some c) : c.length = n ∧ ∀ i u, c[i]? = some u → W.cell? (a.add i) = some u := by
  unfold World.cells? at h
  split at h
  · have hl := mapM_some_length h
    refine ⟨by simpa using hl, fun i u hu => ?_⟩
    have hi : i < n := by
      have := (List.getElem?_eq_some_iff.1 hu).1
      simp at hl
      omega
    have := mapM_some_get h i i (by simp [hi])
    rw [this, hu]
  · cases h
theorem opens_slice {α : Type} {d : Kd α} {G : α → Prop} (ht : P.underlying t = some (.slice e)) (hc : P.cellsOf e = d.sz) (b : Nat) (hb : P.bytesOf e = b) (he : Opens P e d G) :
    Opens P t (Kd.slice e d) (fun xs => xs.length * b ≤ 140737488351232 ∧ ∀ a ∈ xs, G a) := by
  intro H enc W fuel cs x h hw
  rcases DataW.trod_slice ht h with ⟨rfl, _⟩ | ⟨a, len, cap, elems, rest, n, _, rfl, rfl, _, hl, hm, hlen, hel, _⟩
  · exact ⟨[], ⟨none, 0, rfl, Nat.le_refl _, Kd.C_nil d W⟩, by simp, fun a h => by cases h⟩
  · have hwt : (elems.length + rest.length) * b ≤ 140737488351232 := by
      have := hw ((elems.length + rest.length) * P.bytesOf e) (by simp [DataW.weights, ht])
      rw [hb] at this
      simpa [reachBytes] using this
    have hall : ∀ i : Fin len, ∃ p : α, ∃ c, c.length = d.sz ∧ d.K W p c ∧ G p ∧ ∀ j u, c[j]? = some u → W.cell? (a.add (i.1 * d.sz + j)) = some u := by
      intro i
      have hi : i.1 < elems.length := by have := i.2; omega
      have h1 := hel i.1 i.2
      rw [List.getElem?_eq_getElem hi] at h1
      obtain ⟨c, hcs, htr⟩ := Option.bind_eq_some_iff.1 h1
      obtain ⟨hcl, hcg⟩ := cells_get hcs
      obtain ⟨p, hK, hG⟩ := he H enc W n c _ htr (fun m hm => hw m (by
        simp only [DataW.weights, ht, List.mem_cons, List.mem_append]
        exact .inr (.inl (weights_all (List.mem_map.2 ⟨_, List.getElem_mem hi, rfl⟩) m hm))))
      refine ⟨p, c, by rw [hcl, hc], hK, hG, fun j u hu => ?_⟩
      have := hcg j u hu
      rw [add_add, hc] at this
      exact this
    refine ⟨List.ofFn fun i => Classical.choose (hall i), ⟨some a, cap, by simp, by simpa using hl, by simp, by simp only [maxLen] at hm; simp; omega, fun _ => ⟨a, rfl, fun j p hj => ?_⟩⟩, ?_, ?_⟩
    · obtain ⟨hjl, hjp⟩ := List.getElem?_eq_some_iff.1 hj
      simp only [List.length_ofFn] at hjl
      have h2 := Classical.choose_spec (hall ⟨j, hjl⟩)
      rw [List.getElem_ofFn] at hjp
      rw [hjp] at h2
      obtain ⟨c, h3, h4, _, h6⟩ := h2
      exact ⟨c, h3, h4, h6⟩
    · rw [List.length_ofFn]
      refine Nat.le_trans (Nat.mul_le_mul_right b ?_) hwt
      omega
    · intro p hp
      obtain ⟨i, rfl⟩ := (List.mem_ofFn).1 hp
      obtain ⟨_, _, _, h5, _⟩ := Classical.choose_spec (hall i)
      exact h5
/-- The fields of a struct from one on, one behind the other. -/
def OpensFields {α : Type} (P : Program) (fs : List Field) (off : Nat) (d : Kd α) (G : α → Prop) : Prop :=
  ∀ (H : Type) (enc : TypeId × Value → H) (W : World) (fuel : Nat) (cs : List Value) (xs : List (DataW H × List MemPlace)), off + d.sz = cs.length → xs.length = fs.length →
    (∀ (i : Nat) (f : Field), fs[i]? = some f → DataW.trod enc P W 0 (fun _ => true) true fuel f.type ((cs.drop f.offset).take (P.cellsOf f.type)) = xs[i]?) →
    (∀ n ∈ DataW.weightsEach P (fs.map (·.type)) (xs.map (·.1)), n ≤ reachBytes) → ∃ a, d.K W a (cs.drop off) ∧ G a
theorem opens_one {α : Type} {d : Kd α} {G : α → Prop} {f : Field} {off : Nat} (ho : f.offset = off) (hc : P.cellsOf f.type = d.sz) (he : Opens P f.type d G) : OpensFields P [f] off d G := by
  intro H enc W fuel cs xs hl hx hf hw
  match xs, hx with
  | [x], _ =>
    have h0 := hf 0 f rfl
    rw [ho, hc, List.take_of_length_le (by rw [List.length_drop]; omega)] at h0
    exact he H enc W fuel _ x h0 (fun n hn => hw n (by simpa [DataW.weightsEach] using hn))
theorem opens_more {α β : Type} {d : Kd α} {d2 : Kd β} {G : α → Prop} {G2 : β → Prop} {f : Field} {fs : List Field} {off : Nat} (ho : f.offset = off) (hc : P.cellsOf f.type = d.sz) (he : Opens P f.type d G) (hs : OpensFields P fs (off + d.sz) d2 G2) :
    OpensFields P (f :: fs) off (Kd.pair d d2) (fun p => G p.1 ∧ G2 p.2) := by
  intro H enc W fuel cs xs hl hx hf hw
  have hl' : off + (d.sz + d2.sz) = cs.length := hl
  match xs, hx with
  | x :: xs, hx =>
    have h0 := hf 0 f rfl
    rw [ho, hc] at h0
    obtain ⟨a, h1, h2⟩ := he H enc W fuel _ x h0 (fun n hn => hw n (by simp only [List.map_cons, DataW.weightsEach, List.mem_append]; exact .inl hn))
    obtain ⟨b, h3, h4⟩ := hs H enc W fuel cs xs (by omega) (by simpa using hx) (fun i g hg => by simpa using hf (i + 1) g (by simpa using hg)) (fun n hn => hw n (by simp only [List.map_cons, DataW.weightsEach, List.mem_append]; exact .inr hn))
    refine ⟨(a, b), ⟨_, _, ?_, h1, h3⟩, h2, h4⟩
    rw [← List.drop_drop, List.take_append_drop]
theorem opens_struct {α : Type} {d : Kd α} {G : α → Prop} {fs : Array Field} (ht : P.underlying t = some (.struct fs)) (hc : P.cellsOf t = d.sz) (hf : OpensFields P fs.toList 0 d G) : Opens P t d G := by
  intro H enc W fuel cs x h hw
  obtain ⟨xs, n, _, rfl, hl, hlen, hg⟩ := DataW.trod_struct ht h
  have := hf H enc W n cs xs (by omega) (by simpa using hlen) (fun i f hi => hg i f (by simpa using hi)) (fun m hm => hw m (by simpa [DataW.weights, ht] using hm))
  simpa using this
theorem opens_iso {α β : Type} {d : Kd α} {G : α → Prop} (f : β → α) (g : α → β) (hfg : ∀ a, f (g a) = a) (h : Opens P t d G) : Opens P t (Kd.iso d f) (fun b => G (f b)) := by
  intro H enc W fuel cs x hx hw
  obtain ⟨a, h1, h2⟩ := h H enc W fuel cs x hx hw
  exact ⟨g a, by show d.K W (f (g a)) cs; rw [hfg]; exact h1, by show G (f (g a)); rw [hfg]; exact h2⟩
theorem weights_each {H : Type} {P : Program} {ts : List TypeId} {ds : List (DataW H)} (h : (DataW.weightsEach P ts ds).all (· ≤ reachBytes) = true) {j : Nat} {t : TypeId} {d : DataW H} (ht : ts[j]? = some t) (hd : ds[j]? = some d) : ∀ n ∈ d.weights P t, n ≤ reachBytes := fun n hn => by
  simpa using List.all_eq_true.1 h _ (DataW.weights_mem_each ht hd n hn)
end
end Go.Proofs.Ytfpkakedlapmkaa.Q
end
