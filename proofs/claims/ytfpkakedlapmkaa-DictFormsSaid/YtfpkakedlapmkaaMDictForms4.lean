/- Contracts of Go functions and plain facts, of several texts, one behind the other; no condition. -/
import Derived.Test.YtfpkakedlapmkaaMDictForms2
import Derived.Shelf.Small.Strs
import Derived.Shelf.Strings.Search1
import Derived.Shelf.Strings.Search2
import Derived.Shelf.Strings.Search3
import Derived.Shelf.LaysM
import Derived.Shelf.Strings.Shaped
import Derived.Ground.Names2Prog
import Derived.Shelf.Slices.Clone
import Derived.Ground.SlgnProg
import Derived.Shelf.SlicesE.Clone
import Derived.Test.YtfpkakedlapmkaaProg
section
set_option linter.unusedSimpArgs false
set_option linter.unusedVariables false
namespace Go.Proofs.Ytfpkakedlapmkaa.Q
open Go.RowKit Go.Shelf Go.Proofs.YtfpkakedlapmkaaW.PrintWords Go.Proofs.YtfpkakedlapmkaaW.PrintLast
attribute [local go_sem] Oper.semAt_some
set_option maxRecDepth 100000 in
def primsL : List S37 := [(⟨(⟨#[105]⟩ : ByteArray), 25⟩ : S37), (⟨(⟨#[106]⟩ : ByteArray), 26⟩ : S37), (⟨(⟨#[101, 120, 101, 99, 117, 116, 101]⟩ : ByteArray), 29⟩ : S37), (⟨(⟨#[43]⟩ : ByteArray), 30⟩ : S37), (⟨(⟨#[45]⟩ : ByteArray), 31⟩ : S37), (⟨(⟨#[42]⟩ : ByteArray), 32⟩ : S37), (⟨(⟨#[47]⟩ : ByteArray), 33⟩ : S37), (⟨(⟨#[109, 111, 100]⟩ : ByteArray), 34⟩ : S37), (⟨(⟨#[97, 110, 100]⟩ : ByteArray), 35⟩ : S37), (⟨(⟨#[111, 114]⟩ : ByteArray), 36⟩ : S37), (⟨(⟨#[120, 111, 114]⟩ : ByteArray), 37⟩ : S37), (⟨(⟨#[105, 110, 118, 101, 114, 116]⟩ : ByteArray), 38⟩ : S37), (⟨(⟨#[108, 115, 104, 105, 102, 116]⟩ : ByteArray), 39⟩ : S37), (⟨(⟨#[114, 115, 104, 105, 102, 116]⟩ : ByteArray), 40⟩ : S37), (⟨(⟨#[62, 62, 97]⟩ : ByteArray), 41⟩ : S37), (⟨(⟨#[47, 109, 111, 100]⟩ : ByteArray), 42⟩ : S37), (⟨(⟨#[117, 47, 109, 111, 100]⟩ : ByteArray), 43⟩ : S37), (⟨(⟨#[110, 101, 103, 97, 116, 101]⟩ : ByteArray), 44⟩ : S37), (⟨(⟨#[97, 98, 115]⟩ : ByteArray), 45⟩ : S37), (⟨(⟨#[109, 105, 110]⟩ : ByteArray), 46⟩ : S37), (⟨(⟨#[109, 97, 120]⟩ : ByteArray), 47⟩ : S37), (⟨(⟨#[62, 114]⟩ : ByteArray), 48⟩ : S37), (⟨(⟨#[114, 62]⟩ : ByteArray), 49⟩ : S37), (⟨(⟨#[114, 64]⟩ : ByteArray), 50⟩ : S37), (⟨(⟨#[48, 61]⟩ : ByteArray), 52⟩ : S37), (⟨(⟨#[48, 60, 62]⟩ : ByteArray), 53⟩ : S37), (⟨(⟨#[48, 60]⟩ : ByteArray), 54⟩ : S37), (⟨(⟨#[48, 60, 61]⟩ : ByteArray), 55⟩ : S37), (⟨(⟨#[48, 62]⟩ : ByteArray), 56⟩ : S37), (⟨(⟨#[48, 62, 61]⟩ : ByteArray), 57⟩ : S37), (⟨(⟨#[60]⟩ : ByteArray), 58⟩ : S37), (⟨(⟨#[62]⟩ : ByteArray), 59⟩ : S37), (⟨(⟨#[61]⟩ : ByteArray), 60⟩ : S37), (⟨(⟨#[60, 62]⟩ : ByteArray), 61⟩ : S37), (⟨(⟨#[117, 62]⟩ : ByteArray), 62⟩ : S37), (⟨(⟨#[117, 60, 61]⟩ : ByteArray), 63⟩ : S37), (⟨(⟨#[117, 60]⟩ : ByteArray), 64⟩ : S37), (⟨(⟨#[117, 62, 61]⟩ : ByteArray), 65⟩ : S37), (⟨(⟨#[62, 61]⟩ : ByteArray), 66⟩ : S37), (⟨(⟨#[60, 61]⟩ : ByteArray), 67⟩ : S37), (⟨(⟨#[100, 114, 111, 112]⟩ : ByteArray), 70⟩ : S37), (⟨(⟨#[100, 117, 112]⟩ : ByteArray), 71⟩ : S37), (⟨(⟨#[111, 118, 101, 114]⟩ : ByteArray), 72⟩ : S37), (⟨(⟨#[115, 119, 97, 112]⟩ : ByteArray), 73⟩ : S37), (⟨(⟨#[114, 111, 116]⟩ : ByteArray), 74⟩ : S37), (⟨(⟨#[45, 114, 111, 116]⟩ : ByteArray), 75⟩ : S37), (⟨(⟨#[116, 117, 99, 107]⟩ : ByteArray), 76⟩ : S37), (⟨(⟨#[110, 105, 112]⟩ : ByteArray), 77⟩ : S37), (⟨(⟨#[112, 105, 99, 107]⟩ : ByteArray), 78⟩ : S37), (⟨(⟨#[114, 111, 108, 108]⟩ : ByteArray), 79⟩ : S37), (⟨(⟨#[63, 100, 117, 112]⟩ : ByteArray), 80⟩ : S37), (⟨(⟨#[100, 101, 112, 116, 104]⟩ : ByteArray), 81⟩ : S37), (⟨(⟨#[50, 100, 114, 111, 112]⟩ : ByteArray), 82⟩ : S37), (⟨(⟨#[50, 100, 117, 112]⟩ : ByteArray), 83⟩ : S37), (⟨(⟨#[50, 111, 118, 101, 114]⟩ : ByteArray), 84⟩ : S37), (⟨(⟨#[50, 115, 119, 97, 112]⟩ : ByteArray), 85⟩ : S37), (⟨(⟨#[50, 114, 111, 116]⟩ : ByteArray), 86⟩ : S37), (⟨(⟨#[50, 47]⟩ : ByteArray), 87⟩ : S37), (⟨(⟨#[117, 50, 47]⟩ : ByteArray), 88⟩ : S37), (⟨(⟨#[50, 42]⟩ : ByteArray), 89⟩ : S37), (⟨(⟨#[43, 33]⟩ : ByteArray), 108⟩ : S37), (⟨(⟨#[64]⟩ : ByteArray), 109⟩ : S37), (⟨(⟨#[119, 64]⟩ : ByteArray), 111⟩ : S37), (⟨(⟨#[99, 64]⟩ : ByteArray), 113⟩ : S37), (⟨(⟨#[33]⟩ : ByteArray), 114⟩ : S37), (⟨(⟨#[119, 33]⟩ : ByteArray), 116⟩ : S37), (⟨(⟨#[99, 33]⟩ : ByteArray), 117⟩ : S37), (⟨(⟨#[109, 111, 118, 101]⟩ : ByteArray), 120⟩ : S37), (⟨(⟨#[102, 105, 108, 108]⟩ : ByteArray), 121⟩ : S37), (⟨(⟨#[99, 111, 109, 112]⟩ : ByteArray), 122⟩ : S37), (⟨(⟨#[108, 98, 115, 112, 108, 105, 116]⟩ : ByteArray), 126⟩ : S37), (⟨(⟨#[98, 108, 106, 111, 105, 110]⟩ : ByteArray), 127⟩ : S37), (⟨(⟨#[119, 98, 102, 108, 105, 112]⟩ : ByteArray), 128⟩ : S37), (⟨(⟨#[117, 112, 99]⟩ : ByteArray), 129⟩ : S37), (⟨(⟨#[108, 99, 99]⟩ : ByteArray), 130⟩ : S37), (⟨(⟨#[117, 110, 108, 111, 111, 112]⟩ : ByteArray), 137⟩ : S37), (⟨(⟨#[97, 108, 108, 111, 99, 45, 109, 101, 109]⟩ : ByteArray), 139⟩ : S37), (⟨(⟨#[101, 109, 105, 116]⟩ : ByteArray), 143⟩ : S37), (⟨(⟨#[116, 121, 112, 101]⟩ : ByteArray), 144⟩ : S37), (⟨(⟨#[99, 114]⟩ : ByteArray), 146⟩ : S37), (⟨(⟨#[117, 46]⟩ : ByteArray), 155⟩ : S37), (⟨(⟨#[46]⟩ : ByteArray), 157⟩ : S37), (⟨(⟨#[98, 97, 115, 101, 33]⟩ : ByteArray), 160⟩ : S37), (⟨(⟨#[45, 49]⟩ : ByteArray), 164⟩ : S37), (⟨(⟨#[48]⟩ : ByteArray), 165⟩ : S37), (⟨(⟨#[49]⟩ : ByteArray), 166⟩ : S37), (⟨(⟨#[50]⟩ : ByteArray), 167⟩ : S37), (⟨(⟨#[51]⟩ : ByteArray), 168⟩ : S37), (⟨(⟨#[98, 108]⟩ : ByteArray), 169⟩ : S37), (⟨(⟨#[104, 101, 114, 101]⟩ : ByteArray), 173⟩ : S37), (⟨(⟨#[117, 109, 42]⟩ : ByteArray), 212⟩ : S37), (⟨(⟨#[117, 109, 47, 109, 111, 100]⟩ : ByteArray), 213⟩ : S37), (⟨(⟨#[100, 43]⟩ : ByteArray), 216⟩ : S37), (⟨(⟨#[100, 45]⟩ : ByteArray), 217⟩ : S37), (⟨(⟨#[112, 114, 111, 112, 101, 114, 116, 121]⟩ : ByteArray), 272⟩ : S37), (⟨(⟨#[101, 110, 99, 111, 100, 101, 45, 105, 110, 116]⟩ : ByteArray), 273⟩ : S37), (⟨(⟨#[101, 110, 99, 111, 100, 101, 43]⟩ : ByteArray), 274⟩ : S37), (⟨(⟨#[101, 110, 99, 111, 100, 101, 45, 115, 116, 114, 105, 110, 103]⟩ : ByteArray), 276⟩ : S37), (⟨(⟨#[110, 101, 119, 45, 100, 101, 118, 105, 99, 101]⟩ : ByteArray), 287⟩ : S37), (⟨(⟨#[102, 105, 110, 105, 115, 104, 45, 100, 101, 118, 105, 99, 101]⟩ : ByteArray), 295⟩ : S37), (⟨(⟨#[115, 109, 47, 114, 101, 109]⟩ : ByteArray), 469⟩ : S37), (⟨(⟨#[109, 121, 45, 115, 101, 108, 102]⟩ : ByteArray), 515⟩ : S37), (⟨(⟨#[109, 121, 45, 112, 97, 114, 101, 110, 116]⟩ : ByteArray), 522⟩ : S37), (⟨(⟨#[36, 99, 97, 108, 108, 45, 109, 101, 116, 104, 111, 100]⟩ : ByteArray), 526⟩ : S37), (⟨(⟨#[99, 97, 116, 99, 104]⟩ : ByteArray), 535⟩ : S37), (⟨(⟨#[116, 104, 114, 111, 119]⟩ : ByteArray), 536⟩ : S37), (⟨(⟨#[103, 101, 116, 45, 109, 121, 45, 112, 114, 111, 112, 101, 114, 116, 121]⟩ : ByteArray), 538⟩ : S37), (⟨(⟨#[100, 101, 99, 111, 100, 101, 45, 105, 110, 116]⟩ : ByteArray), 539⟩ : S37), (⟨(⟨#[100, 101, 99, 111, 100, 101, 45, 115, 116, 114, 105, 110, 103]⟩ : ByteArray), 540⟩ : S37), (⟨(⟨#[100, 101, 108, 101, 116, 101, 45, 112, 114, 111, 112, 101, 114, 116, 121]⟩ : ByteArray), 542⟩ : S37), (⟨(⟨#[102, 109, 47, 109, 111, 100]⟩ : ByteArray), 725⟩ : S37)]
set_option maxRecDepth 100000 in
def primCells : List Value := [.string (⟨#[105]⟩ : ByteArray), .int .i64 25, .string (⟨#[106]⟩ : ByteArray), .int .i64 26, .string (⟨#[101, 120, 101, 99, 117, 116, 101]⟩ : ByteArray), .int .i64 29, .string (⟨#[43]⟩ : ByteArray), .int .i64 30, .string (⟨#[45]⟩ : ByteArray), .int .i64 31, .string (⟨#[42]⟩ : ByteArray), .int .i64 32, .string (⟨#[47]⟩ : ByteArray), .int .i64 33, .string (⟨#[109, 111, 100]⟩ : ByteArray), .int .i64 34, .string (⟨#[97, 110, 100]⟩ : ByteArray), .int .i64 35, .string (⟨#[111, 114]⟩ : ByteArray), .int .i64 36, .string (⟨#[120, 111, 114]⟩ : ByteArray), .int .i64 37, .string (⟨#[105, 110, 118, 101, 114, 116]⟩ : ByteArray), .int .i64 38, .string (⟨#[108, 115, 104, 105, 102, 116]⟩ : ByteArray), .int .i64 39, .string (⟨#[114, 115, 104, 105, 102, 116]⟩ : ByteArray), .int .i64 40, .string (⟨#[62, 62, 97]⟩ : ByteArray), .int .i64 41, .string (⟨#[47, 109, 111, 100]⟩ : ByteArray), .int .i64 42, .string (⟨#[117, 47, 109, 111, 100]⟩ : ByteArray), .int .i64 43, .string (⟨#[110, 101, 103, 97, 116, 101]⟩ : ByteArray), .int .i64 44, .string (⟨#[97, 98, 115]⟩ : ByteArray), .int .i64 45, .string (⟨#[109, 105, 110]⟩ : ByteArray), .int .i64 46, .string (⟨#[109, 97, 120]⟩ : ByteArray), .int .i64 47, .string (⟨#[62, 114]⟩ : ByteArray), .int .i64 48, .string (⟨#[114, 62]⟩ : ByteArray), .int .i64 49, .string (⟨#[114, 64]⟩ : ByteArray), .int .i64 50, .string (⟨#[48, 61]⟩ : ByteArray), .int .i64 52, .string (⟨#[48, 60, 62]⟩ : ByteArray), .int .i64 53, .string (⟨#[48, 60]⟩ : ByteArray), .int .i64 54, .string (⟨#[48, 60, 61]⟩ : ByteArray), .int .i64 55, .string (⟨#[48, 62]⟩ : ByteArray), .int .i64 56, .string (⟨#[48, 62, 61]⟩ : ByteArray), .int .i64 57, .string (⟨#[60]⟩ : ByteArray), .int .i64 58, .string (⟨#[62]⟩ : ByteArray), .int .i64 59, .string (⟨#[61]⟩ : ByteArray), .int .i64 60, .string (⟨#[60, 62]⟩ : ByteArray), .int .i64 61, .string (⟨#[117, 62]⟩ : ByteArray), .int .i64 62, .string (⟨#[117, 60, 61]⟩ : ByteArray), .int .i64 63, .string (⟨#[117, 60]⟩ : ByteArray), .int .i64 64, .string (⟨#[117, 62, 61]⟩ : ByteArray), .int .i64 65, .string (⟨#[62, 61]⟩ : ByteArray), .int .i64 66, .string (⟨#[60, 61]⟩ : ByteArray), .int .i64 67, .string (⟨#[100, 114, 111, 112]⟩ : ByteArray), .int .i64 70, .string (⟨#[100, 117, 112]⟩ : ByteArray), .int .i64 71, .string (⟨#[111, 118, 101, 114]⟩ : ByteArray), .int .i64 72, .string (⟨#[115, 119, 97, 112]⟩ : ByteArray), .int .i64 73, .string (⟨#[114, 111, 116]⟩ : ByteArray), .int .i64 74, .string (⟨#[45, 114, 111, 116]⟩ : ByteArray), .int .i64 75, .string (⟨#[116, 117, 99, 107]⟩ : ByteArray), .int .i64 76, .string (⟨#[110, 105, 112]⟩ : ByteArray), .int .i64 77, .string (⟨#[112, 105, 99, 107]⟩ : ByteArray), .int .i64 78, .string (⟨#[114, 111, 108, 108]⟩ : ByteArray), .int .i64 79, .string (⟨#[63, 100, 117, 112]⟩ : ByteArray), .int .i64 80, .string (⟨#[100, 101, 112, 116, 104]⟩ : ByteArray), .int .i64 81, .string (⟨#[50, 100, 114, 111, 112]⟩ : ByteArray), .int .i64 82, .string (⟨#[50, 100, 117, 112]⟩ : ByteArray), .int .i64 83, .string (⟨#[50, 111, 118, 101, 114]⟩ : ByteArray), .int .i64 84, .string (⟨#[50, 115, 119, 97, 112]⟩ : ByteArray), .int .i64 85, .string (⟨#[50, 114, 111, 116]⟩ : ByteArray), .int .i64 86, .string (⟨#[50, 47]⟩ : ByteArray), .int .i64 87, .string (⟨#[117, 50, 47]⟩ : ByteArray), .int .i64 88, .string (⟨#[50, 42]⟩ : ByteArray), .int .i64 89, .string (⟨#[43, 33]⟩ : ByteArray), .int .i64 108, .string (⟨#[64]⟩ : ByteArray), .int .i64 109, .string (⟨#[119, 64]⟩ : ByteArray), .int .i64 111, .string (⟨#[99, 64]⟩ : ByteArray), .int .i64 113, .string (⟨#[33]⟩ : ByteArray), .int .i64 114, .string (⟨#[119, 33]⟩ : ByteArray), .int .i64 116, .string (⟨#[99, 33]⟩ : ByteArray), .int .i64 117, .string (⟨#[109, 111, 118, 101]⟩ : ByteArray), .int .i64 120, .string (⟨#[102, 105, 108, 108]⟩ : ByteArray), .int .i64 121, .string (⟨#[99, 111, 109, 112]⟩ : ByteArray), .int .i64 122, .string (⟨#[108, 98, 115, 112, 108, 105, 116]⟩ : ByteArray), .int .i64 126, .string (⟨#[98, 108, 106, 111, 105, 110]⟩ : ByteArray), .int .i64 127, .string (⟨#[119, 98, 102, 108, 105, 112]⟩ : ByteArray), .int .i64 128, .string (⟨#[117, 112, 99]⟩ : ByteArray), .int .i64 129, .string (⟨#[108, 99, 99]⟩ : ByteArray), .int .i64 130, .string (⟨#[117, 110, 108, 111, 111, 112]⟩ : ByteArray), .int .i64 137, .string (⟨#[97, 108, 108, 111, 99, 45, 109, 101, 109]⟩ : ByteArray), .int .i64 139, .string (⟨#[101, 109, 105, 116]⟩ : ByteArray), .int .i64 143, .string (⟨#[116, 121, 112, 101]⟩ : ByteArray), .int .i64 144, .string (⟨#[99, 114]⟩ : ByteArray), .int .i64 146, .string (⟨#[117, 46]⟩ : ByteArray), .int .i64 155, .string (⟨#[46]⟩ : ByteArray), .int .i64 157, .string (⟨#[98, 97, 115, 101, 33]⟩ : ByteArray), .int .i64 160, .string (⟨#[45, 49]⟩ : ByteArray), .int .i64 164, .string (⟨#[48]⟩ : ByteArray), .int .i64 165, .string (⟨#[49]⟩ : ByteArray), .int .i64 166, .string (⟨#[50]⟩ : ByteArray), .int .i64 167, .string (⟨#[51]⟩ : ByteArray), .int .i64 168, .string (⟨#[98, 108]⟩ : ByteArray), .int .i64 169, .string (⟨#[104, 101, 114, 101]⟩ : ByteArray), .int .i64 173, .string (⟨#[117, 109, 42]⟩ : ByteArray), .int .i64 212, .string (⟨#[117, 109, 47, 109, 111, 100]⟩ : ByteArray), .int .i64 213, .string (⟨#[100, 43]⟩ : ByteArray), .int .i64 216, .string (⟨#[100, 45]⟩ : ByteArray), .int .i64 217, .string (⟨#[112, 114, 111, 112, 101, 114, 116, 121]⟩ : ByteArray), .int .i64 272, .string (⟨#[101, 110, 99, 111, 100, 101, 45, 105, 110, 116]⟩ : ByteArray), .int .i64 273, .string (⟨#[101, 110, 99, 111, 100, 101, 43]⟩ : ByteArray), .int .i64 274, .string (⟨#[101, 110, 99, 111, 100, 101, 45, 115, 116, 114, 105, 110, 103]⟩ : ByteArray), .int .i64 276, .string (⟨#[110, 101, 119, 45, 100, 101, 118, 105, 99, 101]⟩ : ByteArray), .int .i64 287, .string (⟨#[102, 105, 110, 105, 115, 104, 45, 100, 101, 118, 105, 99, 101]⟩ : ByteArray), .int .i64 295, .string (⟨#[115, 109, 47, 114, 101, 109]⟩ : ByteArray), .int .i64 469, .string (⟨#[109, 121, 45, 115, 101, 108, 102]⟩ : ByteArray), .int .i64 515, .string (⟨#[109, 121, 45, 112, 97, 114, 101, 110, 116]⟩ : ByteArray), .int .i64 522, .string (⟨#[36, 99, 97, 108, 108, 45, 109, 101, 116, 104, 111, 100]⟩ : ByteArray), .int .i64 526, .string (⟨#[99, 97, 116, 99, 104]⟩ : ByteArray), .int .i64 535, .string (⟨#[116, 104, 114, 111, 119]⟩ : ByteArray), .int .i64 536, .string (⟨#[103, 101, 116, 45, 109, 121, 45, 112, 114, 111, 112, 101, 114, 116, 121]⟩ : ByteArray), .int .i64 538, .string (⟨#[100, 101, 99, 111, 100, 101, 45, 105, 110, 116]⟩ : ByteArray), .int .i64 539, .string (⟨#[100, 101, 99, 111, 100, 101, 45, 115, 116, 114, 105, 110, 103]⟩ : ByteArray), .int .i64 540, .string (⟨#[100, 101, 108, 101, 116, 101, 45, 112, 114, 111, 112, 101, 114, 116, 121]⟩ : ByteArray), .int .i64 542, .string (⟨#[102, 109, 47, 109, 111, 100]⟩ : ByteArray), .int .i64 725]
set_option maxRecDepth 100000 in
theorem primCells_eq : primCells = flat37 primsL := by rfl
theorem primsL_len : primsL.length = 111 := by rfl
set_option maxHeartbeats 8000000 in
set_option maxRecDepth 100000 in
theorem prims_exact (w : World) :
  Calls Try.prog 14 #[] w fun e w' => e = .returned (.slice (some ⟨w.heap.size, 0, none⟩) 111 111) ∧ w' = w.alloc (.cells (flat37 primsL).toArray 37 (0, 0)) := by
 have hu37 := Try.underlying37
 rw [← primCells_eq]
 go_enter Try.func14, Try.ntmps14
 go_wp2_with (((with_reducible refine gate_dst (N := 112) rfl ?_); refine Kd.event_run ?hg (w1 := w.alloc (.cells primCells.toArray 37 (0, 0))) (v := .slice (some ⟨w.heap.size, 0, none⟩) 111 111) ?hr ?_; (case hg => rfl); (case hr => kernel_rfl)))
 go_ret
 exact ⟨rfl, rfl⟩
end Go.Proofs.Ytfpkakedlapmkaa.Q
end
section
namespace Go.Proofs.Ytfpkakedlapmkaa.Q
open Go.RowKit Go.Proofs.YtfpkakedlapmkaaW.PrintWords Go.Proofs.YtfpkakedlapmkaaW.PrintLast Go.Proofs.YtfpkakedlapmkaaW.PrintMore
set_option linter.unusedVariables false
set_option linter.unusedSimpArgs false

attribute [local go_sem] max2_int min2_int max_two min_two max_three min_three max_four min_four
/-! ### dict_ends: function 78 -/
def dict_ends.l0 : Nat → List (S82) → Int → Int → Int → Option (Bool)
 | 0, _, _, _, _ => none
 | k + 1, x0, x1, x7, x8 => if x8 < x7 then (if x1 = (-1) then (some true) else (if 0 ≤ x1 then (if x1 < (x0.length : Int) then (dict_ends.l0 k x0 ((rd_T82 x0 x1).f1) x7 (wrap64 (x8 + 1))) else (none)) else (none))) else (some false)
def dict_ends.f (k : Nat) (l0 : List (S82)) (a1 : Int) : Option (Bool) := dict_ends.l0 k l0 a1 (wrap64 ((l0.length : Int) + 1)) 0
set_option maxHeartbeats 8000000 in
set_option maxRecDepth 100000 in
theorem dict_ends.calls (k : Nat) (A0 : Option Addr) (c0 : Nat) (l0 : List (S82)) (a1 : Int) (r : Bool) (w : World) (hr0 : Kd.C k82 w A0 l0.length l0) (hc0 : l0.length ≤ c0) (h : dict_ends.f k l0 a1 = some r) :
  Calls Try.prog 78 #[.slice A0 l0.length c0, .int .i64 a1] w fun e w' => e = .returned (.bool r) ∧ Drawn0 w w' := by
 have HR0 := Aside0.mk hr0
 have HC0 := Aside0.mk hc0
 clear hr0 hc0
 have H : (dict_ends.l0 k l0 a1 (wrap64 ((l0.length : Int) + 1)) 0) = some r := h
 clear h
 have H' := Aside0.mk H
 clear H
 go_enter Try.func78, Try.ntmps78
 go_wp2
 go_loopg [1, 8] k (fun kq v1 v8 w' => ∃ (x1_1 : Int) (x8_1 : Int), v1 = .int .i64 x1_1 ∧ v8 = .int .i64 x8_1 ∧ Aside0 (dict_ends.l0 kq l0 x1_1 (wrap64 ((l0.length : Int) + 1)) x8_1 = some r) ∧ Aside0 (kq ≤ k) ∧ Drawn0 w w')
 case atStart => exact ⟨(a1), (0), (by first | rfl | (simp; done) | (simp [*]; done)), (by first | rfl | (simp; done) | (simp [*]; done)), H', ⟨Nat.le_refl _⟩, by repeat (first | exact Drawn0.refl _ | apply Drawn0.step)⟩
 case round =>
  clear H'
  try clear p2
  obtain ⟨x1_1, x8_1, rfl, rfl, HA, HK1, ⟨m1, rfl⟩⟩ := hrel
  cases gk with
  | zero => exact absurd HA.out (by simp [dict_ends.l0])
  | succ k1 =>
   have H := HA.out
   clear HA
   simp only [dict_ends.l0] at H
   by_cases c3 : x8_1 < (wrap64 ((l0.length : Int) + 1))
   ·rw [if_pos c3] at H
    have c3b0 : decide (x8_1 < (wrap64 ((l0.length : Int) + 1))) = true := decide_eq_true c3
    clear c3
    by_cases c4 : x1_1 = (-1)
    ·rw [if_pos c4] at H
     have c4b0 : (x1_1 == (-1)) = true := beq_iff_eq.mpr c4
     have c4b1 : (x1_1 != (-1)) = false := bne_eq_false_iff_eq.mpr c4
     clear c4
     obtain rfl := Option.some.inj H
     go_wp2
     go_ret
     exact ⟨by first | rfl | (simp; done) | (simp [*]; done), by repeat (first | exact Drawn0.refl _ | apply Drawn0.step)⟩
    ·rw [if_neg c4] at H
     have c4b0 : (x1_1 == (-1)) = false := beq_eq_false_iff_ne.mpr c4
     have c4b1 : (x1_1 != (-1)) = true := bne_iff_ne.mpr c4
     by_cases c5 : 0 ≤ x1_1
     ·rw [if_pos c5] at H
      have c5b0 : decide (0 ≤ x1_1) = true := decide_eq_true c5
      clear c5
      by_cases c6 : x1_1 < (l0.length : Int)
      ·rw [if_pos c6] at H
       have c6b0 : decide (x1_1 < (l0.length : Int)) = true := decide_eq_true c6
       clear c6
       have H' := Aside0.mk H
       clear H
       have p79001 : 0 ≤ (x1_1 : Int) := of_decide_eq_true (by first | (with_reducible assumption) | assumption)
       have q79001 : x1_1 < (l0.length : Int) := of_decide_eq_true (by first | (with_reducible assumption) | assumption)
       obtain ⟨ad79001, A79001_3, c79001_3, e79001, hx79001_0, hx79001_1, hx79001_2, hx79001_3, hl79001_3, hi79001_3⟩ := at_T82 HR0.out x1_1 p79001 q79001
       cases e79001
       have HR79001_3 := Aside0.mk hi79001_3
       have HC79001_3 := Aside0.mk hl79001_3
       clear hi79001_3 hl79001_3
       replace p79001 := eq_true p79001
       replace q79001 := eq_true q79001
       go_wp2
       go_roundg k1
       case measure => have := HK1.out; omega
       case rel => exact ⟨((rd_T82 l0 x1_1).f1), (wrap64 (x8_1 + 1)), (by first | rfl | (simp; done) | (simp [*]; done)), (by first | rfl | (simp; done) | (simp [*]; done)), H', ⟨by have := HK1.out; omega⟩, by repeat (first | exact Drawn0.refl _ | apply Drawn0.step)⟩
      ·rw [if_neg c6] at H
       exact absurd H (by simp)
     ·rw [if_neg c5] at H
      exact absurd H (by simp)
   ·rw [if_neg c3] at H
    have c3b0 : decide (x8_1 < (wrap64 ((l0.length : Int) + 1))) = false := decide_eq_false c3
    clear c3
    obtain rfl := Option.some.inj H
    go_wp2
    go_ret
    exact ⟨by first | rfl | (simp; done) | (simp [*]; done), by repeat (first | exact Drawn0.refl _ | apply Drawn0.step)⟩

end Go.Proofs.Ytfpkakedlapmkaa.Q
end
section
namespace Go.Proofs.Ytfpkakedlapmkaa.Q
open Go.RowKit Go.Proofs.YtfpkakedlapmkaaW.PrintWords Go.Proofs.YtfpkakedlapmkaaW.PrintLast Go.Proofs.YtfpkakedlapmkaaW.PrintMore
set_option linter.unusedVariables false
set_option linter.unusedSimpArgs false

attribute [local go_sem] max2_int min2_int max_two min_two max_three min_three max_four min_four
/-! ### dict_living: function 76 -/
def dict_living.f (l0 : List (S82)) (a1 : Int) : Option (Bool) := if a1 ≥ 0 then (if a1 < (l0.length : Int) then (if 0 ≤ a1 then (some (((rd_T82 l0 a1).f0) != (-1))) else (none)) else (some false)) else (some false)
set_option maxHeartbeats 8000000 in
set_option maxRecDepth 100000 in
theorem dict_living.calls (A0 : Option Addr) (c0 : Nat) (l0 : List (S82)) (a1 : Int) (r : Bool) (w : World) (hr0 : Kd.C k82 w A0 l0.length l0) (hc0 : l0.length ≤ c0) (h : dict_living.f l0 a1 = some r) :
  Calls Try.prog 76 #[.slice A0 l0.length c0, .int .i64 a1] w fun e w' => e = .returned (.bool r) ∧ Drawn0 w w' := by
 have HR0 := Aside0.mk hr0
 have HC0 := Aside0.mk hc0
 clear hr0 hc0
 have H : (if a1 ≥ 0 then (if a1 < (l0.length : Int) then (if 0 ≤ a1 then (some (((rd_T82 l0 a1).f0) != (-1))) else (none)) else (some false)) else (some false)) = some r := h
 clear h
 by_cases c3 : a1 ≥ 0
 ·rw [if_pos c3] at H
  have c3b0 : decide (0 ≤ a1) = true := decide_eq_true c3
  clear c3
  by_cases c4 : a1 < (l0.length : Int)
  ·rw [if_pos c4] at H
   have c4b0 : decide (a1 < (l0.length : Int)) = true := decide_eq_true c4
   clear c4
   by_cases c5 : 0 ≤ a1
   ·rw [if_pos c5] at H
    have c5b0 : decide (0 ≤ a1) = true := decide_eq_true c5
    clear c5
    obtain rfl := Option.some.inj H
    have p77001 : 0 ≤ (a1 : Int) := of_decide_eq_true (by first | (with_reducible assumption) | assumption)
    have q77001 : a1 < (l0.length : Int) := of_decide_eq_true (by first | (with_reducible assumption) | assumption)
    obtain ⟨ad77001, A77001_3, c77001_3, e77001, hx77001_0, hx77001_1, hx77001_2, hx77001_3, hl77001_3, hi77001_3⟩ := at_T82 HR0.out a1 p77001 q77001
    cases e77001
    have HR77001_3 := Aside0.mk hi77001_3
    have HC77001_3 := Aside0.mk hl77001_3
    clear hi77001_3 hl77001_3
    replace p77001 := eq_true p77001
    replace q77001 := eq_true q77001
    go_enter Try.func76, Try.ntmps76
    go_wp2
    go_ret
    exact ⟨by first | rfl | (simp; done) | (simp [*]; done), by repeat (first | exact Drawn0.refl _ | apply Drawn0.step)⟩
   ·rw [if_neg c5] at H
    exact absurd H (by simp)
  ·rw [if_neg c4] at H
   have c4b0 : decide (a1 < (l0.length : Int)) = false := decide_eq_false c4
   clear c4
   obtain rfl := Option.some.inj H
   go_enter Try.func76, Try.ntmps76
   go_wp2
   go_ret
   exact ⟨by first | rfl | (simp; done) | (simp [*]; done), by repeat (first | exact Drawn0.refl _ | apply Drawn0.step)⟩
 ·rw [if_neg c3] at H
  have c3b0 : decide (0 ≤ a1) = false := decide_eq_false c3
  clear c3
  obtain rfl := Option.some.inj H
  go_enter Try.func76, Try.ntmps76
  go_wp2
  go_ret
  exact ⟨by first | rfl | (simp; done) | (simp [*]; done), by repeat (first | exact Drawn0.refl _ | apply Drawn0.step)⟩

end Go.Proofs.Ytfpkakedlapmkaa.Q
end
section
namespace Go.Proofs
open Go.Shelf
def Try.lays137_ren : Go.Shelf.Ren := ⟨fun | 137 => 92 | 217 => 100 | 266 => 102 | n => n, fun | 9 => 9 | 5 => 5 | 3 => 3 | n => n, fun | n => n⟩
theorem Try.lays137 : Go.Proofs.Lays.n137 Try.prog Try.lays137_ren := {
 mixed := by kernel_rfl
 f137 := Try.func92.trans (congrArg some (by kernel_rfl))
 f217 := Try.func100.trans (congrArg some (by kernel_rfl))
 f266 := Try.func102.trans (congrArg some (by kernel_rfl))
 t3 := Try.underlying3
 a3 := Try.isAgg3
 z3 := Try.sizeOf3
 v3 := Try.zeroValue3
 t5 := Try.underlying5
 a5 := Try.isAgg5
 z5 := Try.sizeOf5
 v5 := Try.zeroValue5
 t9 := Try.underlying9
 a9 := Try.isAgg9
 z9 := Try.sizeOf9
 v9 := Try.zeroValue9 }
open Go.RowKit in
/-- strings.IndexByte: "IndexByte returns the index of the first instance of c in s, or -1 if c is not present in s.": IT RETURNS 'Lib.indexByte s c'; the world is as it was. (LAID: no walk: one application.) -/
theorem Try.strings_IndexByte (s : ByteArray) (c : Int) (w : World) :
  Calls Try.prog 92 #[.string s, .int .u8 c] w fun e w' => e = .returned (.int .i64 (Lib.indexByte s.data.toList c.toNat.toUInt8)) ∧ w' = w := Any.strings_IndexByte Try.lays137 s c w
def Try.lays144_ren : Go.Shelf.Ren := ⟨fun | 144 => 96 | 143 => 101 | 219 => 103 | 217 => 100 | 225 => 104 | 224 => 105 | 267 => 106 | 266 => 102 | 314 => 107 | n => n, fun | 9 => 9 | 4 => 4 | 3 => 3 | 5 => 5 | 46 => 123 | 146 => 124 | 51 => 28 | n => n, fun | 1 => 0 | n => n⟩
theorem Try.lays144 : Go.Proofs.Lays.n144 Try.prog Try.lays144_ren := {
 mixed := by kernel_rfl
 f143 := Try.func101.trans (congrArg some (by kernel_rfl))
 f144 := Try.func96.trans (congrArg some (by kernel_rfl))
 f217 := Try.func100.trans (congrArg some (by kernel_rfl))
 f219 := Try.func103.trans (congrArg some (by kernel_rfl))
 f224 := Try.func105.trans (congrArg some (by kernel_rfl))
 f225 := Try.func104.trans (congrArg some (by kernel_rfl))
 f266 := Try.func102.trans (congrArg some (by kernel_rfl))
 f267 := Try.func106.trans (congrArg some (by kernel_rfl))
 f314 := Try.func107.trans (congrArg some (by kernel_rfl))
 t3 := Try.underlying3
 a3 := Try.isAgg3
 z3 := Try.sizeOf3
 v3 := Try.zeroValue3
 t4 := Try.underlying4
 a4 := Try.isAgg4
 z4 := Try.sizeOf4
 v4 := Try.zeroValue4
 t5 := Try.underlying5
 a5 := Try.isAgg5
 z5 := Try.sizeOf5
 v5 := Try.zeroValue5
 t9 := Try.underlying9
 a9 := Try.isAgg9
 z9 := Try.sizeOf9
 v9 := Try.zeroValue9
 t46 := Try.underlying123
 a46 := Try.isAgg123
 z46 := Try.sizeOf123
 v46 := Try.zeroValue123
 t51 := Try.underlying28
 a51 := Try.isAgg28
 z51 := Try.sizeOf28
 v51 := Try.zeroValue28
 t146 := Try.underlying124
 a146 := Try.isAgg124
 z146 := Try.sizeOf124
 v146 := Try.zeroValue124
 g1 := by kernel_rfl }
open Go.RowKit Go.Lib in
/-- strings.Contains: "Contains reports whether substr is within s.": AT A substr OF ONE BYTE c: IT RETURNS 'decide (0 ≤ Lib.indexByte s c)'; the world is as it was. (LAID: no walk: one application.) -/
theorem Try.strings_Contains_one (s : ByteArray) (c : UInt8) (w : World) :
  Calls Try.prog 96 #[.string s, .string ⟨#[c]⟩] w fun e w' => e = .returned (.bool (decide (0 ≤ Lib.indexByte s.data.toList c))) ∧ w' = w := Any.strings_Contains_one Try.lays144 s c w
end Go.Proofs
end
section
namespace Go.Proofs.Ytfpkakedlapmkaa.Q
open Go.RowKit Go.Proofs.YtfpkakedlapmkaaW.PrintWords Go.Proofs.YtfpkakedlapmkaaW.PrintLast
def strings_IndexByte.f (a0 : ByteArray) (a1 : Int) : Option Int := some (Lib.indexByte a0.data.toList a1.toNat.toUInt8)
theorem strings_IndexByte.calls (a0 : ByteArray) (a1 : Int) (r : Int) (w : World) (h : strings_IndexByte.f a0 a1 = some r) : Calls Try.prog 92 #[.string a0, .int .u8 a1] w fun e w' => e = .returned (.int .i64 r) ∧ Below w.heap.size w w' := by
 obtain rfl := Option.some.inj h
 refine (Try.strings_IndexByte a0 a1 w).mono ?_
 rintro e w' ⟨rfl, rfl⟩
 exact ⟨rfl, Below.refl _ _⟩
def strings_Contains.f (a0 a1 : ByteArray) : Option Bool := if a1.data = #[47] then some (decide (0 ≤ Lib.indexByte a0.data.toList 47)) else none
end Go.Proofs.Ytfpkakedlapmkaa.Q
end
section
set_option linter.unusedSimpArgs false
set_option linter.unusedVariables false
namespace Go.Proofs.Ytfpkakedlapmkaa.Q
open Go.RowKit Go.Proofs.YtfpkakedlapmkaaW.PrintWords Go.Proofs.YtfpkakedlapmkaaW.PrintLast Go.Proofs.YtfpkakedlapmkaaW.PrintMore
attribute [local go_sem] max2_int min2_int max_two min_two max_three min_three max_four min_four
def livingB (l : List S82) (n : Int) : Bool := decide (0 ≤ n) && (decide (n < (l.length : Int)) && ((rd_T82 l n).f0 != -1))
theorem living_eq (l : List S82) (n : Int) : dict_living.f l n = some (livingB l n) := by
 unfold dict_living.f livingB
 by_cases h0 : 0 ≤ n
 ·rw [if_pos h0, decide_eq_true h0]
  by_cases h1 : n < (l.length : Int)
  ·rw [if_pos h1, if_pos h0, decide_eq_true h1]; rfl
  ·rw [if_neg h1, decide_eq_false h1]; rfl
 ·rw [if_neg h0, decide_eq_false h0]; rfl
def hasSlash (s : ByteArray) : Bool := decide (0 ≤ Lib.indexByte s.data.toList 47)
def instOk (l : List S82) (a b : Int) (s : ByteArray) (cs : List Int) (t : List S91) : Bool :=
 if (a == -1) = true then (b == -1) && ((s.toList == ([] : List UInt8)) && ((cs.length : Int) == 0))
 else decide (0 ≤ a) && (decide (a < (t.length : Int)) && (((cs.length : Int) == ((rd_T91 t a).f4.length : Int)) && (decide ((s.size : Int) ≤ 256) && (!hasSlash s && ((b == -1) || livingB l b)))))
set_option maxHeartbeats 4000000 in
set_option maxRecDepth 100000 in
theorem instRight_calls (HCON : ∀ (s : ByteArray) (W : World), Calls Try.prog 96 #[.string s, .string ⟨#[47]⟩] W fun e w' => e = .returned (.bool (hasSlash s)) ∧ w' = W)
  (A0 : Option Addr) (c0 : Nat) (l : List S82) (a b : Int) (s : ByteArray) (A3 : Option Addr) (c3 : Nat) (cs : List Int) (A2 : Option Addr) (c2 : Nat) (t : List S91) (w : World) (hr0 : Kd.C k82 w A0 l.length l) (hc0 : l.length ≤ c0) (hr2 : Kd.C k91 w A2 t.length t) :
  Calls Try.prog 77 #[.slice A0 l.length c0, .agg #[.int .i64 a, .int .i64 b, .string s, .slice A3 cs.length c3], .slice A2 t.length c2] w fun e w' => e = .returned (.bool (instOk l a b s cs t)) ∧ Below w.heap.size w w' := by
 have hu82 := Try.underlying82
 have hu91 := Try.underlying91
 have HR0 := Aside0.mk hr0
 have HR2 := Aside0.mk hr2
 have HLV := Aside0.mk (show ∀ (W : World), Below w.heap.size w W → Calls Try.prog 76 #[.slice A0 l.length c0, .int .i64 b] W fun e w' => e = .returned (.bool (livingB l b)) ∧ ∃ m, w' = W.drewN m from fun W hb => (dict_living.calls A0 c0 l b (livingB l b) W (Kd.C_below hr0 hb) hc0 (living_eq l b)).mono fun _ _ h => ⟨h.1, h.2.out⟩)
 have HCN := Aside0.mk HCON
 clear hr0 hr2 hc0 HCON
 obtain ⟨r, hr⟩ : ∃ r, r = instOk l a b s cs t := ⟨_, rfl⟩
 rw [← hr]
 have HR := Aside0.mk hr
 clear hr
 have HI := HR.out
 clear HR
 unfold instOk at HI
 cases g0 : (a == -1) with
 | true =>
  simp only [g0, if_true, if_false, Bool.true_and, Bool.false_and, Bool.not_true, Bool.not_false, Bool.true_or, Bool.false_or, Bool.false_eq_true] at HI
  cases h1 : (b == -1) with
  | true =>
   simp only [h1, if_true, if_false, Bool.true_and, Bool.false_and, Bool.not_true, Bool.not_false, Bool.true_or, Bool.false_or, Bool.false_eq_true] at HI
   cases h2 : (s.toList == ([] : List UInt8)) with
   | true =>
    simp only [h2, if_true, if_false, Bool.true_and, Bool.false_and, Bool.not_true, Bool.not_false, Bool.true_or, Bool.false_or, Bool.false_eq_true] at HI
    cases h3 : ((cs.length : Int) == 0) with
    | true =>
     simp only [h3, if_true, if_false, Bool.true_and, Bool.false_and, Bool.not_true, Bool.not_false, Bool.true_or, Bool.false_or, Bool.false_eq_true] at HI
     subst HI
     go_enter Try.func77, Try.ntmps77
     go_wp2_with ((with_reducible refine gate_dst (N := 4) rfl ?_); refine box_event ?hg (N := 4) ?hd (cs := #[.int .i64 a, .int .i64 b, .string s, .slice A3 cs.length c3]) (t := 82) ?hr ?_; (case hd => rfl); (case hg => rfl); (case hr => first | (go_simp; done) | (go_simp; rfl)); intro ga hga w1 hbox hb; have BK := Aside0.mk hbox; have hz0 := (blk_cell BK.out 0).trans rfl; have hz1 := (blk_cell BK.out 1).trans rfl; have hz2 := (blk_cell BK.out 2).trans rfl; have hz3 := (blk_cell BK.out 3).trans rfl; have hf0 := blk_frozen BK.out 0; have hf1 := blk_frozen BK.out 1; have hf2 := blk_frozen BK.out 2; have hf3 := blk_frozen BK.out 3; have HB := Aside0.mk hb; clear hbox hb hga)
     go_ret
     exact ⟨rfl, by first | exact HB.out | exact pw_below_drewN HB.out _ | exact below_drew1 HB.out⟩
    | false =>
     simp only [h3, if_true, if_false, Bool.true_and, Bool.false_and, Bool.not_true, Bool.not_false, Bool.true_or, Bool.false_or, Bool.false_eq_true] at HI
     subst HI
     go_enter Try.func77, Try.ntmps77
     go_wp2_with ((with_reducible refine gate_dst (N := 4) rfl ?_); refine box_event ?hg (N := 4) ?hd (cs := #[.int .i64 a, .int .i64 b, .string s, .slice A3 cs.length c3]) (t := 82) ?hr ?_; (case hd => rfl); (case hg => rfl); (case hr => first | (go_simp; done) | (go_simp; rfl)); intro ga hga w1 hbox hb; have BK := Aside0.mk hbox; have hz0 := (blk_cell BK.out 0).trans rfl; have hz1 := (blk_cell BK.out 1).trans rfl; have hz2 := (blk_cell BK.out 2).trans rfl; have hz3 := (blk_cell BK.out 3).trans rfl; have hf0 := blk_frozen BK.out 0; have hf1 := blk_frozen BK.out 1; have hf2 := blk_frozen BK.out 2; have hf3 := blk_frozen BK.out 3; have HB := Aside0.mk hb; clear hbox hb hga)
     go_ret
     exact ⟨rfl, by first | exact HB.out | exact pw_below_drewN HB.out _ | exact below_drew1 HB.out⟩
   | false =>
    simp only [h2, if_true, if_false, Bool.true_and, Bool.false_and, Bool.not_true, Bool.not_false, Bool.true_or, Bool.false_or, Bool.false_eq_true] at HI
    subst HI
    go_enter Try.func77, Try.ntmps77
    go_wp2_with ((with_reducible refine gate_dst (N := 4) rfl ?_); refine box_event ?hg (N := 4) ?hd (cs := #[.int .i64 a, .int .i64 b, .string s, .slice A3 cs.length c3]) (t := 82) ?hr ?_; (case hd => rfl); (case hg => rfl); (case hr => first | (go_simp; done) | (go_simp; rfl)); intro ga hga w1 hbox hb; have BK := Aside0.mk hbox; have hz0 := (blk_cell BK.out 0).trans rfl; have hz1 := (blk_cell BK.out 1).trans rfl; have hz2 := (blk_cell BK.out 2).trans rfl; have hz3 := (blk_cell BK.out 3).trans rfl; have hf0 := blk_frozen BK.out 0; have hf1 := blk_frozen BK.out 1; have hf2 := blk_frozen BK.out 2; have hf3 := blk_frozen BK.out 3; have HB := Aside0.mk hb; clear hbox hb hga)
    go_ret
    exact ⟨rfl, by first | exact HB.out | exact pw_below_drewN HB.out _ | exact below_drew1 HB.out⟩
  | false =>
   simp only [h1, if_true, if_false, Bool.true_and, Bool.false_and, Bool.not_true, Bool.not_false, Bool.true_or, Bool.false_or, Bool.false_eq_true] at HI
   subst HI
   go_enter Try.func77, Try.ntmps77
   go_wp2_with ((with_reducible refine gate_dst (N := 4) rfl ?_); refine box_event ?hg (N := 4) ?hd (cs := #[.int .i64 a, .int .i64 b, .string s, .slice A3 cs.length c3]) (t := 82) ?hr ?_; (case hd => rfl); (case hg => rfl); (case hr => first | (go_simp; done) | (go_simp; rfl)); intro ga hga w1 hbox hb; have BK := Aside0.mk hbox; have hz0 := (blk_cell BK.out 0).trans rfl; have hz1 := (blk_cell BK.out 1).trans rfl; have hz2 := (blk_cell BK.out 2).trans rfl; have hz3 := (blk_cell BK.out 3).trans rfl; have hf0 := blk_frozen BK.out 0; have hf1 := blk_frozen BK.out 1; have hf2 := blk_frozen BK.out 2; have hf3 := blk_frozen BK.out 3; have HB := Aside0.mk hb; clear hbox hb hga)
   go_ret
   exact ⟨rfl, by first | exact HB.out | exact pw_below_drewN HB.out _ | exact below_drew1 HB.out⟩
 | false =>
  simp only [g0, if_true, if_false, Bool.true_and, Bool.false_and, Bool.not_true, Bool.not_false, Bool.true_or, Bool.false_or, Bool.false_eq_true] at HI
  cases g1 : decide (0 ≤ a) with
  | true =>
   simp only [g1, if_true, if_false, Bool.true_and, Bool.false_and, Bool.not_true, Bool.not_false, Bool.true_or, Bool.false_or, Bool.false_eq_true] at HI
   cases g2 : decide (a < (t.length : Int)) with
   | true =>
    simp only [g2, if_true, if_false, Bool.true_and, Bool.false_and, Bool.not_true, Bool.not_false, Bool.true_or, Bool.false_or, Bool.false_eq_true] at HI
    cases g3 : ((cs.length : Int) == ((rd_T91 t a).f4.length : Int)) with
    | true =>
     simp only [g3, if_true, if_false, Bool.true_and, Bool.false_and, Bool.not_true, Bool.not_false, Bool.true_or, Bool.false_or, Bool.false_eq_true] at HI
     cases g4 : decide ((s.size : Int) ≤ 256) with
     | true =>
      simp only [g4, if_true, if_false, Bool.true_and, Bool.false_and, Bool.not_true, Bool.not_false, Bool.true_or, Bool.false_or, Bool.false_eq_true] at HI
      cases g5 : hasSlash s with
      | true =>
       simp only [g5, if_true, if_false, Bool.true_and, Bool.false_and, Bool.not_true, Bool.not_false, Bool.true_or, Bool.false_or, Bool.false_eq_true] at HI
       subst HI
       go_enter Try.func77, Try.ntmps77
       go_wp2_with ((with_reducible refine gate_dst (N := 4) rfl ?_); refine box_event ?hg (N := 4) ?hd (cs := #[.int .i64 a, .int .i64 b, .string s, .slice A3 cs.length c3]) (t := 82) ?hr ?_; (case hd => rfl); (case hg => rfl); (case hr => first | (go_simp; done) | (go_simp; rfl)); intro ga hga w1 hbox hb; have BK := Aside0.mk hbox; have hz0 := (blk_cell BK.out 0).trans rfl; have hz1 := (blk_cell BK.out 1).trans rfl; have hz2 := (blk_cell BK.out 2).trans rfl; have hz3 := (blk_cell BK.out 3).trans rfl; have hf0 := blk_frozen BK.out 0; have hf1 := blk_frozen BK.out 1; have hf2 := blk_frozen BK.out 2; have hf3 := blk_frozen BK.out 3; have HB := Aside0.mk hb; clear hbox hb hga; obtain ⟨ad, B1, d1, B3, d3, B4, d4, eA, hx0, hx1, hx2, hx3, hx4, hl1, hg1, hl3, hg3, hl4, hg4⟩ := at_T91 (Kd.C_below HR2.out HB.out) a (of_decide_eq_true g1) (of_decide_eq_true g2); cases eA; have p1 : (0 ≤ a) = True := eq_true (of_decide_eq_true g1); have p2 : (a < (t.length : Int)) = True := eq_true (of_decide_eq_true g2); clear hl1 hg1 hl3 hg3 hl4 hg4)
       go_quiet (first
        | (go_at_call 96; have q := HCN.out s; rw [g5] at q; exact Calls.quiet_of_same (q _)))
       go_wp2
       go_ret
       exact ⟨rfl, by first | exact HB.out | exact pw_below_drewN HB.out _ | exact below_drew1 HB.out⟩
      | false =>
       simp only [g5, if_true, if_false, Bool.true_and, Bool.false_and, Bool.not_true, Bool.not_false, Bool.true_or, Bool.false_or, Bool.false_eq_true] at HI
       cases g6 : (b == -1) with
       | true =>
        simp only [g6, if_true, if_false, Bool.true_and, Bool.false_and, Bool.not_true, Bool.not_false, Bool.true_or, Bool.false_or, Bool.false_eq_true] at HI
        subst HI
        go_enter Try.func77, Try.ntmps77
        go_wp2_with ((with_reducible refine gate_dst (N := 4) rfl ?_); refine box_event ?hg (N := 4) ?hd (cs := #[.int .i64 a, .int .i64 b, .string s, .slice A3 cs.length c3]) (t := 82) ?hr ?_; (case hd => rfl); (case hg => rfl); (case hr => first | (go_simp; done) | (go_simp; rfl)); intro ga hga w1 hbox hb; have BK := Aside0.mk hbox; have hz0 := (blk_cell BK.out 0).trans rfl; have hz1 := (blk_cell BK.out 1).trans rfl; have hz2 := (blk_cell BK.out 2).trans rfl; have hz3 := (blk_cell BK.out 3).trans rfl; have hf0 := blk_frozen BK.out 0; have hf1 := blk_frozen BK.out 1; have hf2 := blk_frozen BK.out 2; have hf3 := blk_frozen BK.out 3; have HB := Aside0.mk hb; clear hbox hb hga; obtain ⟨ad, B1, d1, B3, d3, B4, d4, eA, hx0, hx1, hx2, hx3, hx4, hl1, hg1, hl3, hg3, hl4, hg4⟩ := at_T91 (Kd.C_below HR2.out HB.out) a (of_decide_eq_true g1) (of_decide_eq_true g2); cases eA; have p1 : (0 ≤ a) = True := eq_true (of_decide_eq_true g1); have p2 : (a < (t.length : Int)) = True := eq_true (of_decide_eq_true g2); clear hl1 hg1 hl3 hg3 hl4 hg4)
        go_quiet (first
         | (go_at_call 96; have q := HCN.out s; rw [g5] at q; exact Calls.quiet_of_same (q _)))
        go_wp2
        go_ret
        exact ⟨rfl, by first | exact HB.out | exact pw_below_drewN HB.out _ | exact below_drew1 HB.out⟩
       | false =>
        simp only [g6, if_true, if_false, Bool.true_and, Bool.false_and, Bool.not_true, Bool.not_false, Bool.true_or, Bool.false_or, Bool.false_eq_true] at HI
        cases g7 : livingB l b with
        | true =>
         simp only [g7, if_true, if_false, Bool.true_and, Bool.false_and, Bool.not_true, Bool.not_false, Bool.true_or, Bool.false_or, Bool.false_eq_true] at HI
         subst HI
         go_enter Try.func77, Try.ntmps77
         go_wp2_with ((with_reducible refine gate_dst (N := 4) rfl ?_); refine box_event ?hg (N := 4) ?hd (cs := #[.int .i64 a, .int .i64 b, .string s, .slice A3 cs.length c3]) (t := 82) ?hr ?_; (case hd => rfl); (case hg => rfl); (case hr => first | (go_simp; done) | (go_simp; rfl)); intro ga hga w1 hbox hb; have BK := Aside0.mk hbox; have hz0 := (blk_cell BK.out 0).trans rfl; have hz1 := (blk_cell BK.out 1).trans rfl; have hz2 := (blk_cell BK.out 2).trans rfl; have hz3 := (blk_cell BK.out 3).trans rfl; have hf0 := blk_frozen BK.out 0; have hf1 := blk_frozen BK.out 1; have hf2 := blk_frozen BK.out 2; have hf3 := blk_frozen BK.out 3; have HB := Aside0.mk hb; clear hbox hb hga; obtain ⟨ad, B1, d1, B3, d3, B4, d4, eA, hx0, hx1, hx2, hx3, hx4, hl1, hg1, hl3, hg3, hl4, hg4⟩ := at_T91 (Kd.C_below HR2.out HB.out) a (of_decide_eq_true g1) (of_decide_eq_true g2); cases eA; have p1 : (0 ≤ a) = True := eq_true (of_decide_eq_true g1); have p2 : (a < (t.length : Int)) = True := eq_true (of_decide_eq_true g2); clear hl1 hg1 hl3 hg3 hl4 hg4)
         go_quiet (first
          | (go_at_call 96; have q := HCN.out s; rw [g5] at q; exact Calls.quiet_of_same (q _))
          | (go_at_call 76; have q := HLV.out; rw [g7] at q; exact Calls.quiet_of (q _ (pw_below_drewN HB.out _))))
         go_wp2
         go_ret
         exact ⟨rfl, by first | exact HB.out | exact pw_below_drewN HB.out _ | exact below_drew1 HB.out⟩
        | false =>
         simp only [g7, if_true, if_false, Bool.true_and, Bool.false_and, Bool.not_true, Bool.not_false, Bool.true_or, Bool.false_or, Bool.false_eq_true] at HI
         subst HI
         go_enter Try.func77, Try.ntmps77
         go_wp2_with ((with_reducible refine gate_dst (N := 4) rfl ?_); refine box_event ?hg (N := 4) ?hd (cs := #[.int .i64 a, .int .i64 b, .string s, .slice A3 cs.length c3]) (t := 82) ?hr ?_; (case hd => rfl); (case hg => rfl); (case hr => first | (go_simp; done) | (go_simp; rfl)); intro ga hga w1 hbox hb; have BK := Aside0.mk hbox; have hz0 := (blk_cell BK.out 0).trans rfl; have hz1 := (blk_cell BK.out 1).trans rfl; have hz2 := (blk_cell BK.out 2).trans rfl; have hz3 := (blk_cell BK.out 3).trans rfl; have hf0 := blk_frozen BK.out 0; have hf1 := blk_frozen BK.out 1; have hf2 := blk_frozen BK.out 2; have hf3 := blk_frozen BK.out 3; have HB := Aside0.mk hb; clear hbox hb hga; obtain ⟨ad, B1, d1, B3, d3, B4, d4, eA, hx0, hx1, hx2, hx3, hx4, hl1, hg1, hl3, hg3, hl4, hg4⟩ := at_T91 (Kd.C_below HR2.out HB.out) a (of_decide_eq_true g1) (of_decide_eq_true g2); cases eA; have p1 : (0 ≤ a) = True := eq_true (of_decide_eq_true g1); have p2 : (a < (t.length : Int)) = True := eq_true (of_decide_eq_true g2); clear hl1 hg1 hl3 hg3 hl4 hg4)
         go_quiet (first
          | (go_at_call 96; have q := HCN.out s; rw [g5] at q; exact Calls.quiet_of_same (q _))
          | (go_at_call 76; have q := HLV.out; rw [g7] at q; exact Calls.quiet_of (q _ (pw_below_drewN HB.out _))))
         go_wp2
         go_ret
         exact ⟨rfl, by first | exact HB.out | exact pw_below_drewN HB.out _ | exact below_drew1 HB.out⟩
     | false =>
      simp only [g4, if_true, if_false, Bool.true_and, Bool.false_and, Bool.not_true, Bool.not_false, Bool.true_or, Bool.false_or, Bool.false_eq_true] at HI
      subst HI
      go_enter Try.func77, Try.ntmps77
      go_wp2_with ((with_reducible refine gate_dst (N := 4) rfl ?_); refine box_event ?hg (N := 4) ?hd (cs := #[.int .i64 a, .int .i64 b, .string s, .slice A3 cs.length c3]) (t := 82) ?hr ?_; (case hd => rfl); (case hg => rfl); (case hr => first | (go_simp; done) | (go_simp; rfl)); intro ga hga w1 hbox hb; have BK := Aside0.mk hbox; have hz0 := (blk_cell BK.out 0).trans rfl; have hz1 := (blk_cell BK.out 1).trans rfl; have hz2 := (blk_cell BK.out 2).trans rfl; have hz3 := (blk_cell BK.out 3).trans rfl; have hf0 := blk_frozen BK.out 0; have hf1 := blk_frozen BK.out 1; have hf2 := blk_frozen BK.out 2; have hf3 := blk_frozen BK.out 3; have HB := Aside0.mk hb; clear hbox hb hga; obtain ⟨ad, B1, d1, B3, d3, B4, d4, eA, hx0, hx1, hx2, hx3, hx4, hl1, hg1, hl3, hg3, hl4, hg4⟩ := at_T91 (Kd.C_below HR2.out HB.out) a (of_decide_eq_true g1) (of_decide_eq_true g2); cases eA; have p1 : (0 ≤ a) = True := eq_true (of_decide_eq_true g1); have p2 : (a < (t.length : Int)) = True := eq_true (of_decide_eq_true g2); clear hl1 hg1 hl3 hg3 hl4 hg4)
      go_quiet (fail)
      go_wp2
      go_ret
      exact ⟨rfl, by first | exact HB.out | exact pw_below_drewN HB.out _ | exact below_drew1 HB.out⟩
    | false =>
     simp only [g3, if_true, if_false, Bool.true_and, Bool.false_and, Bool.not_true, Bool.not_false, Bool.true_or, Bool.false_or, Bool.false_eq_true] at HI
     subst HI
     go_enter Try.func77, Try.ntmps77
     go_wp2_with ((with_reducible refine gate_dst (N := 4) rfl ?_); refine box_event ?hg (N := 4) ?hd (cs := #[.int .i64 a, .int .i64 b, .string s, .slice A3 cs.length c3]) (t := 82) ?hr ?_; (case hd => rfl); (case hg => rfl); (case hr => first | (go_simp; done) | (go_simp; rfl)); intro ga hga w1 hbox hb; have BK := Aside0.mk hbox; have hz0 := (blk_cell BK.out 0).trans rfl; have hz1 := (blk_cell BK.out 1).trans rfl; have hz2 := (blk_cell BK.out 2).trans rfl; have hz3 := (blk_cell BK.out 3).trans rfl; have hf0 := blk_frozen BK.out 0; have hf1 := blk_frozen BK.out 1; have hf2 := blk_frozen BK.out 2; have hf3 := blk_frozen BK.out 3; have HB := Aside0.mk hb; clear hbox hb hga; obtain ⟨ad, B1, d1, B3, d3, B4, d4, eA, hx0, hx1, hx2, hx3, hx4, hl1, hg1, hl3, hg3, hl4, hg4⟩ := at_T91 (Kd.C_below HR2.out HB.out) a (of_decide_eq_true g1) (of_decide_eq_true g2); cases eA; have p1 : (0 ≤ a) = True := eq_true (of_decide_eq_true g1); have p2 : (a < (t.length : Int)) = True := eq_true (of_decide_eq_true g2); clear hl1 hg1 hl3 hg3 hl4 hg4)
     go_quiet (fail)
     go_wp2
     go_ret
     exact ⟨rfl, by first | exact HB.out | exact pw_below_drewN HB.out _ | exact below_drew1 HB.out⟩
   | false =>
    simp only [g2, if_true, if_false, Bool.true_and, Bool.false_and, Bool.not_true, Bool.not_false, Bool.true_or, Bool.false_or, Bool.false_eq_true] at HI
    subst HI
    go_enter Try.func77, Try.ntmps77
    go_wp2_with ((with_reducible refine gate_dst (N := 4) rfl ?_); refine box_event ?hg (N := 4) ?hd (cs := #[.int .i64 a, .int .i64 b, .string s, .slice A3 cs.length c3]) (t := 82) ?hr ?_; (case hd => rfl); (case hg => rfl); (case hr => first | (go_simp; done) | (go_simp; rfl)); intro ga hga w1 hbox hb; have BK := Aside0.mk hbox; have hz0 := (blk_cell BK.out 0).trans rfl; have hz1 := (blk_cell BK.out 1).trans rfl; have hz2 := (blk_cell BK.out 2).trans rfl; have hz3 := (blk_cell BK.out 3).trans rfl; have hf0 := blk_frozen BK.out 0; have hf1 := blk_frozen BK.out 1; have hf2 := blk_frozen BK.out 2; have hf3 := blk_frozen BK.out 3; have HB := Aside0.mk hb; clear hbox hb hga)
    go_quiet (fail)
    go_wp2
    go_ret
    exact ⟨rfl, by first | exact HB.out | exact pw_below_drewN HB.out _ | exact below_drew1 HB.out⟩
  | false =>
   simp only [g1, if_true, if_false, Bool.true_and, Bool.false_and, Bool.not_true, Bool.not_false, Bool.true_or, Bool.false_or, Bool.false_eq_true] at HI
   subst HI
   go_enter Try.func77, Try.ntmps77
   go_wp2_with ((with_reducible refine gate_dst (N := 4) rfl ?_); refine box_event ?hg (N := 4) ?hd (cs := #[.int .i64 a, .int .i64 b, .string s, .slice A3 cs.length c3]) (t := 82) ?hr ?_; (case hd => rfl); (case hg => rfl); (case hr => first | (go_simp; done) | (go_simp; rfl)); intro ga hga w1 hbox hb; have BK := Aside0.mk hbox; have hz0 := (blk_cell BK.out 0).trans rfl; have hz1 := (blk_cell BK.out 1).trans rfl; have hz2 := (blk_cell BK.out 2).trans rfl; have hz3 := (blk_cell BK.out 3).trans rfl; have hf0 := blk_frozen BK.out 0; have hf1 := blk_frozen BK.out 1; have hf2 := blk_frozen BK.out 2; have hf3 := blk_frozen BK.out 3; have HB := Aside0.mk hb; clear hbox hb hga)
   go_quiet (fail)
   go_wp2
   go_ret
   exact ⟨rfl, by first | exact HB.out | exact pw_below_drewN HB.out _ | exact below_drew1 HB.out⟩
end Go.Proofs.Ytfpkakedlapmkaa.Q
end
section
set_option linter.unusedVariables false
namespace Go.Proofs.Ytfpkakedlapmkaa.Q
open Go.RowKit Go.Proofs.YtfpkakedlapmkaaW.PrintWords Go.Proofs.YtfpkakedlapmkaaW.PrintLast
theorem contains_slash (s : ByteArray) (W : World) : Calls Try.prog 96 #[.string s, .string ⟨#[47]⟩] W fun e w' => e = .returned (.bool (hasSlash s)) ∧ w' = W := Try.strings_Contains_one s 47 W
def dict_instRight.f (l0 : List (S82)) (a1_0 : Int) (a1_1 : Int) (a1_2 : ByteArray) (l1_3 : List Int) (l2 : List (S91)) : Option (Bool) := some (instOk l0 a1_0 a1_1 a1_2 l1_3 l2)
theorem dict_instRight.calls (A0 : Option Addr) (c0 : Nat) (l0 : List (S82)) (a1_0 : Int) (a1_1 : Int) (a1_2 : ByteArray) (A1_3 : Option Addr) (c1_3 : Nat) (l1_3 : List Int) (A2 : Option Addr) (c2 : Nat) (l2 : List (S91)) (r : Bool) (w : World) (hr0 : Kd.C k82 w A0 l0.length l0) (hc0 : l0.length ≤ c0) (hr1_3 : Kd.C (Kd.int .u32) w A1_3 l1_3.length l1_3) (hc1_3 : l1_3.length ≤ c1_3) (hr2 : Kd.C k91 w A2 l2.length l2) (hc2 : l2.length ≤ c2) (h : dict_instRight.f l0 a1_0 a1_1 a1_2 l1_3 l2 = some r) :
  Calls Try.prog 77 #[.slice A0 l0.length c0, .agg #[.int .i64 a1_0, .int .i64 a1_1, .string a1_2, .slice A1_3 l1_3.length c1_3], .slice A2 l2.length c2] w fun e w' => e = .returned (.bool r) ∧ Below w.heap.size w w' := by
 obtain rfl := Option.some.inj h
 exact instRight_calls contains_slash A0 c0 l0 a1_0 a1_1 a1_2 A1_3 c1_3 l1_3 A2 c2 l2 w hr0 hc0 hr2
end Go.Proofs.Ytfpkakedlapmkaa.Q
end
section
namespace Go.Proofs.Ytfpkakedlapmkaa.Q
open Go.RowKit Go.Proofs.YtfpkakedlapmkaaW.PrintWords Go.Proofs.YtfpkakedlapmkaaW.PrintLast Go.Proofs.YtfpkakedlapmkaaW.PrintMore
set_option linter.unusedVariables false
set_option linter.unusedSimpArgs false

attribute [local go_sem] max2_int min2_int max_two min_two max_three min_three max_four min_four
/-! ### dict_instsRight: function 46 -/
mutual
def dict_instsRight.j0 : Nat → Bool → List Int → List Int → List (S51) → List Int → Int → List (S91) → Int → List (S82) → Int → ByteArray → Option (Bool)
 | 0, _, _, _, _, _, _, _, _, _, _, _ => none
 | k + 1, x22, x47002000, x47002001, x47002002, x47002003, x47002004, x47002005, x47002006, x47002007, x47002008, x47002009 => if x22 = true then (some false) else (dict_instsRight.l0 k x47002007 (x47002007.length : Int) 0 x47002000 x47002001 x47002002 x47002003 x47002004 x47002005 x47002006 x47002007 x47002008 x47002009)
def dict_instsRight.l0 : Nat → List (S82) → Int → Int → List Int → List Int → List (S51) → List Int → Int → List (S91) → Int → List (S82) → Int → ByteArray → Option (Bool)
 | 0, _, _, _, _, _, _, _, _, _, _, _, _, _ => none
 | k + 1, x24, x25, x26, x47002000, x47002001, x47002002, x47002003, x47002004, x47002005, x47002006, x47002007, x47002008, x47002009 => if x26 < x25 then (if 0 ≤ x26 then (if x26 < (x24.length : Int) then ((dict_instRight.f x47002007 ((rd_T82 x24 x26).f0) ((rd_T82 x24 x26).f1) ((rd_T82 x24 x26).f2) ((rd_T82 x24 x26).f3) x47002005).bind fun t47005 => (if t47005 = true then (dict_instsRight.l0 k x24 x25 (wrap64 (x26 + 1)) x47002000 x47002001 x47002002 x47002003 x47002004 x47002005 x47002006 x47002007 x47002008 x47002009) else (some false))) else (none)) else (none)) else (dict_instsRight.l1 k (x47002007.length : Int) 0 x47002000 x47002001 x47002002 x47002003 x47002004 x47002005 x47002006 x47002007 x47002008 x47002009)
def dict_instsRight.l1 : Nat → Int → Int → List Int → List Int → List (S51) → List Int → Int → List (S91) → Int → List (S82) → Int → ByteArray → Option (Bool)
 | 0, _, _, _, _, _, _, _, _, _, _, _, _ => none
 | k + 1, x40, x41, x47002000, x47002001, x47002002, x47002003, x47002004, x47002005, x47002006, x47002007, x47002008, x47002009 => if x41 < x40 then ((dict_ends.f k x47002007 x41).bind fun t47006 => (if t47006 = true then (dict_instsRight.l1 k x40 (wrap64 (x41 + 1)) x47002000 x47002001 x47002002 x47002003 x47002004 x47002005 x47002006 x47002007 x47002008 x47002009) else (some false))) else (some true)
end
def dict_instsRight.f (k : Nat) (l0_0 : List Int) (l0_1 : List Int) (l0_2 : List (S51)) (l0_3 : List Int) (a0_4 : Int) (l0_5 : List (S91)) (a0_6 : Int) (l0_7 : List (S82)) (a0_8 : Int) (a0_9 : ByteArray) : Option (Bool) := if (l0_7.length : Int) > 16 then (dict_instsRight.j0 k true l0_0 l0_1 l0_2 l0_3 a0_4 l0_5 a0_6 l0_7 a0_8 a0_9) else (if a0_8 = (-1) then (dict_instsRight.j0 k false l0_0 l0_1 l0_2 l0_3 a0_4 l0_5 a0_6 l0_7 a0_8 a0_9) else ((dict_living.f l0_7 a0_8).bind fun t47002 => (dict_instsRight.j0 k (!t47002) l0_0 l0_1 l0_2 l0_3 a0_4 l0_5 a0_6 l0_7 a0_8 a0_9)))
set_option maxHeartbeats 8000000 in
set_option maxRecDepth 100000 in
theorem dict_instsRight.calls (k : Nat) (A0_0 : Option Addr) (c0_0 : Nat) (l0_0 : List Int) (A0_1 : Option Addr) (c0_1 : Nat) (l0_1 : List Int) (A0_2 : Option Addr) (c0_2 : Nat) (l0_2 : List (S51)) (A0_3 : Option Addr) (c0_3 : Nat) (l0_3 : List Int) (a0_4 : Int) (A0_5 : Option Addr) (c0_5 : Nat) (l0_5 : List (S91)) (a0_6 : Int) (A0_7 : Option Addr) (c0_7 : Nat) (l0_7 : List (S82)) (a0_8 : Int) (a0_9 : ByteArray) (r : Bool) (w : World) (hr0_0 : Kd.C (Kd.int .u32) w A0_0 l0_0.length l0_0) (hc0_0 : l0_0.length ≤ c0_0) (hr0_1 : Kd.C (Kd.int .u8) w A0_1 l0_1.length l0_1) (hc0_1 : l0_1.length ≤ c0_1) (hr0_2 : Kd.C k51 w A0_2 l0_2.length l0_2) (hc0_2 : l0_2.length ≤ c0_2) (hr0_3 : Kd.C (Kd.int .i64) w A0_3 l0_3.length l0_3) (hc0_3 : l0_3.length ≤ c0_3) (hr0_5 : Kd.C k91 w A0_5 l0_5.length l0_5) (hc0_5 : l0_5.length ≤ c0_5) (hr0_7 : Kd.C k82 w A0_7 l0_7.length l0_7) (hc0_7 : l0_7.length ≤ c0_7) (h : dict_instsRight.f k l0_0 l0_1 l0_2 l0_3 a0_4 l0_5 a0_6 l0_7 a0_8 a0_9 = some r) :
  Calls Try.prog 46 #[.agg #[.slice A0_0 l0_0.length c0_0, .slice A0_1 l0_1.length c0_1, .slice A0_2 l0_2.length c0_2, .slice A0_3 l0_3.length c0_3, .int .u32 a0_4, .slice A0_5 l0_5.length c0_5, .int .i64 a0_6, .slice A0_7 l0_7.length c0_7, .int .i64 a0_8, .string a0_9]] w fun e w' => e = .returned (.bool r) ∧ Below w.heap.size w w' := by
 have hu32 := Try.underlying32
 have hu82 := Try.underlying82
 have HR0_0 := Aside0.mk hr0_0
 have HC0_0 := Aside0.mk hc0_0
 clear hr0_0 hc0_0
 have HR0_1 := Aside0.mk hr0_1
 have HC0_1 := Aside0.mk hc0_1
 clear hr0_1 hc0_1
 have HR0_2 := Aside0.mk hr0_2
 have HC0_2 := Aside0.mk hc0_2
 clear hr0_2 hc0_2
 have HR0_3 := Aside0.mk hr0_3
 have HC0_3 := Aside0.mk hc0_3
 clear hr0_3 hc0_3
 have HR0_5 := Aside0.mk hr0_5
 have HC0_5 := Aside0.mk hc0_5
 clear hr0_5 hc0_5
 have HR0_7 := Aside0.mk hr0_7
 have HC0_7 := Aside0.mk hc0_7
 clear hr0_7 hc0_7
 have HB := Aside0.mk (Below.refl w.heap.size w)
 have H : (if (l0_7.length : Int) > 16 then (dict_instsRight.j0 k true l0_0 l0_1 l0_2 l0_3 a0_4 l0_5 a0_6 l0_7 a0_8 a0_9) else (if a0_8 = (-1) then (dict_instsRight.j0 k false l0_0 l0_1 l0_2 l0_3 a0_4 l0_5 a0_6 l0_7 a0_8 a0_9) else ((dict_living.f l0_7 a0_8).bind fun t47002 => (dict_instsRight.j0 k (!t47002) l0_0 l0_1 l0_2 l0_3 a0_4 l0_5 a0_6 l0_7 a0_8 a0_9)))) = some r := h
 clear h
 have HC2 := Aside0.mk H
 clear H
 go_enter Try.func46, Try.ntmps46
 go_upto_region 1 with (first | ((with_reducible refine gate_dst (N := 1) rfl ?_); refine box_event ?hg (N := 1) ?hd (cs := #[.slice A0_0 l0_0.length c0_0, .slice A0_1 l0_1.length c0_1, .slice A0_2 l0_2.length c0_2, .slice A0_3 l0_3.length c0_3, .int .u32 a0_4, .slice A0_5 l0_5.length c0_5, .int .i64 a0_6, .slice A0_7 l0_7.length c0_7, .int .i64 a0_8, .string a0_9]) (t := 32) ?hr ?_; (case hd => rfl); (case hg => rfl); (case hr => first | (go_simp; done) | (go_simp; rfl)); intro gb47001 hg w3 hbox hb; have n0_ := Aside0.mk (below_step (by repeat (first | (with_reducible first | exact HB.out | apply below_alloc | apply pw_below_drewN | apply below_drew1) | exact HB.out)) hb); have n1_ := Aside0.mk (hbox); have n2_ := Aside0.mk ((by rw [hg]; exact (below_size (by repeat (first | (with_reducible first | exact HB.out | apply below_alloc | apply pw_below_drewN | apply below_drew1) | exact HB.out))) : w.heap.size ≤ gb47001)); have n3_ := Aside0.mk ((by rw [hg]; exact (below_size (by repeat (first | (with_reducible first | exact HB.out | apply below_alloc | apply pw_below_drewN | apply below_drew1) | exact HB.out))) : w.heap.size ≤ gb47001)); clear HB; have HB := n0_; have BK47001 := n1_; have GW47001 := n2_; have GE47001 := n3_; clear n0_ n1_ n2_ n3_; clear hb hbox hg))
 (try simp only [Act.put, List.setIfInBounds_toArray, List.set_cons_zero, List.set_cons_succ])
 go_cut [22] (fun v22 wc => ∃ (kq : Nat) (x22_1 : Bool), v22 = .bool x22_1 ∧ Aside0 (dict_instsRight.j0 kq x22_1 l0_0 l0_1 l0_2 l0_3 a0_4 l0_5 a0_6 l0_7 a0_8 a0_9 = some r) ∧ Aside0 (kq ≤ k) ∧ Aside0 (wc.heap[gb47001]? = some (.cells #[(.slice A0_0 l0_0.length c0_0), (.slice A0_1 l0_1.length c0_1), (.slice A0_2 l0_2.length c0_2), (.slice A0_3 l0_3.length c0_3), .int .u32 a0_4, (.slice A0_5 l0_5.length c0_5), .int .i64 a0_6, (.slice A0_7 l0_7.length c0_7), .int .i64 a0_8, .string a0_9] 32 (0, 0))) ∧ Aside0 (Below w.heap.size w wc))
 case first =>
  have H := HC2.out
  clear HC2
  by_cases c4 : (l0_7.length : Int) > 16
  ·rw [if_pos c4] at H
   have c4b0 : decide (16 < (l0_7.length : Int)) = true := decide_eq_true c4
   have c4b1 : decide (16 < l0_7.length) = true := decide_eq_true (by omega)
   clear c4
   (first | rw [c4b0] | (simp only [i64_w, i32_w]; rw [c4b0]) | skip)
   have H' := Aside0.mk H
   clear H
   have hcz5_0 : w3.cell? ⟨gb47001, 0, none⟩ = some (.slice A0_0 l0_0.length c0_0) := (blk_cell BK47001.out 0).trans rfl
   have hcz5_1 : w3.cell? ⟨gb47001, 1, none⟩ = some (.slice A0_1 l0_1.length c0_1) := (blk_cell BK47001.out 1).trans rfl
   have hcz5_2 : w3.cell? ⟨gb47001, 2, none⟩ = some (.slice A0_2 l0_2.length c0_2) := (blk_cell BK47001.out 2).trans rfl
   have hcz5_3 : w3.cell? ⟨gb47001, 3, none⟩ = some (.slice A0_3 l0_3.length c0_3) := (blk_cell BK47001.out 3).trans rfl
   have hcz5_4 : w3.cell? ⟨gb47001, 4, none⟩ = some (.int .u32 a0_4) := (blk_cell BK47001.out 4).trans rfl
   have hcz5_5 : w3.cell? ⟨gb47001, 5, none⟩ = some (.slice A0_5 l0_5.length c0_5) := (blk_cell BK47001.out 5).trans rfl
   have hcz5_6 : w3.cell? ⟨gb47001, 6, none⟩ = some (.int .i64 a0_6) := (blk_cell BK47001.out 6).trans rfl
   have hcz5_7 : w3.cell? ⟨gb47001, 7, none⟩ = some (.slice A0_7 l0_7.length c0_7) := (blk_cell BK47001.out 7).trans rfl
   have hcz5_8 : w3.cell? ⟨gb47001, 8, none⟩ = some (.int .i64 a0_8) := (blk_cell BK47001.out 8).trans rfl
   have hcz5_9 : w3.cell? ⟨gb47001, 9, none⟩ = some (.string a0_9) := (blk_cell BK47001.out 9).trans rfl
   have hfz5_0 := blk_frozen BK47001.out 0
   have hfz5_1 := blk_frozen BK47001.out 1
   have hfz5_2 := blk_frozen BK47001.out 2
   have hfz5_3 := blk_frozen BK47001.out 3
   have hfz5_4 := blk_frozen BK47001.out 4
   have hfz5_5 := blk_frozen BK47001.out 5
   have hfz5_6 := blk_frozen BK47001.out 6
   have hfz5_7 := blk_frozen BK47001.out 7
   have hfz5_8 := blk_frozen BK47001.out 8
   have hfz5_9 := blk_frozen BK47001.out 9
   go_wp2
   go_meet
   case rel => exact ⟨_, (true), (by first | rfl | (simp; done) | (simp [*]; done)), H', ⟨by first | omega | exact Nat.le_refl _⟩, ⟨by (with_reducible repeat (first | refine blk_drewN ?_ _ | refine blk_drew ?_ | refine blk_alloc ?_ _)); exact BK47001.out⟩, ⟨by repeat (first | (with_reducible first | exact HB.out | apply below_alloc | apply pw_below_drewN | apply below_drew1 | refine below_set ?_ GE47001.out) | exact HB.out)⟩⟩
  ·rw [if_neg c4] at H
   have c4b0 : decide (16 < (l0_7.length : Int)) = false := decide_eq_false c4
   have c4b1 : decide (16 < l0_7.length) = false := decide_eq_false (by omega)
   clear c4
   (first | rw [c4b0] | (simp only [i64_w, i32_w]; rw [c4b0]) | skip)
   by_cases c6 : a0_8 = (-1)
   ·rw [if_pos c6] at H
    have c6b0 : (a0_8 == (-1)) = true := beq_iff_eq.mpr c6
    have c6b1 : (a0_8 != (-1)) = false := bne_eq_false_iff_eq.mpr c6
    clear c6
    have H' := Aside0.mk H
    clear H
    have hcz7_0 : w3.cell? ⟨gb47001, 0, none⟩ = some (.slice A0_0 l0_0.length c0_0) := (blk_cell BK47001.out 0).trans rfl
    have hcz7_1 : w3.cell? ⟨gb47001, 1, none⟩ = some (.slice A0_1 l0_1.length c0_1) := (blk_cell BK47001.out 1).trans rfl
    have hcz7_2 : w3.cell? ⟨gb47001, 2, none⟩ = some (.slice A0_2 l0_2.length c0_2) := (blk_cell BK47001.out 2).trans rfl
    have hcz7_3 : w3.cell? ⟨gb47001, 3, none⟩ = some (.slice A0_3 l0_3.length c0_3) := (blk_cell BK47001.out 3).trans rfl
    have hcz7_4 : w3.cell? ⟨gb47001, 4, none⟩ = some (.int .u32 a0_4) := (blk_cell BK47001.out 4).trans rfl
    have hcz7_5 : w3.cell? ⟨gb47001, 5, none⟩ = some (.slice A0_5 l0_5.length c0_5) := (blk_cell BK47001.out 5).trans rfl
    have hcz7_6 : w3.cell? ⟨gb47001, 6, none⟩ = some (.int .i64 a0_6) := (blk_cell BK47001.out 6).trans rfl
    have hcz7_7 : w3.cell? ⟨gb47001, 7, none⟩ = some (.slice A0_7 l0_7.length c0_7) := (blk_cell BK47001.out 7).trans rfl
    have hcz7_8 : w3.cell? ⟨gb47001, 8, none⟩ = some (.int .i64 a0_8) := (blk_cell BK47001.out 8).trans rfl
    have hcz7_9 : w3.cell? ⟨gb47001, 9, none⟩ = some (.string a0_9) := (blk_cell BK47001.out 9).trans rfl
    have hfz7_0 := blk_frozen BK47001.out 0
    have hfz7_1 := blk_frozen BK47001.out 1
    have hfz7_2 := blk_frozen BK47001.out 2
    have hfz7_3 := blk_frozen BK47001.out 3
    have hfz7_4 := blk_frozen BK47001.out 4
    have hfz7_5 := blk_frozen BK47001.out 5
    have hfz7_6 := blk_frozen BK47001.out 6
    have hfz7_7 := blk_frozen BK47001.out 7
    have hfz7_8 := blk_frozen BK47001.out 8
    have hfz7_9 := blk_frozen BK47001.out 9
    go_wp2
    go_meet
    case rel => exact ⟨_, (false), (by first | rfl | (simp; done) | (simp [*]; done)), H', ⟨by first | omega | exact Nat.le_refl _⟩, ⟨by (with_reducible repeat (first | refine blk_drewN ?_ _ | refine blk_drew ?_ | refine blk_alloc ?_ _)); exact BK47001.out⟩, ⟨by repeat (first | (with_reducible first | exact HB.out | apply below_alloc | apply pw_below_drewN | apply below_drew1 | refine below_set ?_ GE47001.out) | exact HB.out)⟩⟩
   ·rw [if_neg c6] at H
    have c6b0 : (a0_8 == (-1)) = false := beq_eq_false_iff_ne.mpr c6
    have c6b1 : (a0_8 != (-1)) = true := bne_iff_ne.mpr c6
    replace H := Option.bind_eq_some_iff.mp H
    obtain ⟨t47002, A80, H⟩ := H
    replace H : (dict_instsRight.j0 k (!t47002) l0_0 l0_1 l0_2 l0_3 a0_4 l0_5 a0_6 l0_7 a0_8 a0_9) = some r := H
    have A8 := Aside0.mk A80
    clear A80
    have H' := Aside0.mk H
    clear H
    have hcz9_0 : w3.cell? ⟨gb47001, 0, none⟩ = some (.slice A0_0 l0_0.length c0_0) := (blk_cell BK47001.out 0).trans rfl
    have hcz9_1 : w3.cell? ⟨gb47001, 1, none⟩ = some (.slice A0_1 l0_1.length c0_1) := (blk_cell BK47001.out 1).trans rfl
    have hcz9_2 : w3.cell? ⟨gb47001, 2, none⟩ = some (.slice A0_2 l0_2.length c0_2) := (blk_cell BK47001.out 2).trans rfl
    have hcz9_3 : w3.cell? ⟨gb47001, 3, none⟩ = some (.slice A0_3 l0_3.length c0_3) := (blk_cell BK47001.out 3).trans rfl
    have hcz9_4 : w3.cell? ⟨gb47001, 4, none⟩ = some (.int .u32 a0_4) := (blk_cell BK47001.out 4).trans rfl
    have hcz9_5 : w3.cell? ⟨gb47001, 5, none⟩ = some (.slice A0_5 l0_5.length c0_5) := (blk_cell BK47001.out 5).trans rfl
    have hcz9_6 : w3.cell? ⟨gb47001, 6, none⟩ = some (.int .i64 a0_6) := (blk_cell BK47001.out 6).trans rfl
    have hcz9_7 : w3.cell? ⟨gb47001, 7, none⟩ = some (.slice A0_7 l0_7.length c0_7) := (blk_cell BK47001.out 7).trans rfl
    have hcz9_8 : w3.cell? ⟨gb47001, 8, none⟩ = some (.int .i64 a0_8) := (blk_cell BK47001.out 8).trans rfl
    have hcz9_9 : w3.cell? ⟨gb47001, 9, none⟩ = some (.string a0_9) := (blk_cell BK47001.out 9).trans rfl
    have hfz9_0 := blk_frozen BK47001.out 0
    have hfz9_1 := blk_frozen BK47001.out 1
    have hfz9_2 := blk_frozen BK47001.out 2
    have hfz9_3 := blk_frozen BK47001.out 3
    have hfz9_4 := blk_frozen BK47001.out 4
    have hfz9_5 := blk_frozen BK47001.out 5
    have hfz9_6 := blk_frozen BK47001.out 6
    have hfz9_7 := blk_frozen BK47001.out 7
    have hfz9_8 := blk_frozen BK47001.out 8
    have hfz9_9 := blk_frozen BK47001.out 9
    go_wp2_with (first | (go_at_call 76; (with_reducible refine (dict_living.calls _ _ l0_7 a0_8 t47002 _ ?side1 ?side2 A8.out).mono ?_); (case side1 => repeat (first | exact (Kd.C_below HR0_7.out HB.out) | (with_reducible refine Kd.C_alloc ?_ _) | (with_reducible refine Kd.C_drewN ?_ _) | (with_reducible refine Kd.C_drew ?_))); (case side2 => exact HC0_7.out); rintro e w' ⟨rfl, ⟨nd, rfl⟩⟩))
    go_meet
    case rel => exact ⟨_, (!t47002), (by first | rfl | (simp; done) | (simp [*]; done)), H', ⟨by first | omega | exact Nat.le_refl _⟩, ⟨by (with_reducible repeat (first | refine blk_drewN ?_ _ | refine blk_drew ?_ | refine blk_alloc ?_ _)); exact BK47001.out⟩, ⟨by repeat (first | (with_reducible first | exact HB.out | apply below_alloc | apply pw_below_drewN | apply below_drew1 | refine below_set ?_ GE47001.out) | exact HB.out)⟩⟩
 case rest =>
  clear HC2
  try clear p2
  try clear c4
  try clear c4b0
  try clear c4b1
  try clear c6
  try clear c6b0
  try clear c6b1
  try clear hcz5_0
  try clear hcz5_1
  try clear hcz5_2
  try clear hcz5_3
  try clear hcz5_4
  try clear hcz5_5
  try clear hcz5_6
  try clear hcz5_7
  try clear hcz5_8
  try clear hcz5_9
  try clear hcz7_0
  try clear hcz7_1
  try clear hcz7_2
  try clear hcz7_3
  try clear hcz7_4
  try clear hcz7_5
  try clear hcz7_6
  try clear hcz7_7
  try clear hcz7_8
  try clear hcz7_9
  try clear hcz9_0
  try clear hcz9_1
  try clear hcz9_2
  try clear hcz9_3
  try clear hcz9_4
  try clear hcz9_5
  try clear hcz9_6
  try clear hcz9_7
  try clear hcz9_8
  try clear hcz9_9
  try clear hfz5_0
  try clear hfz5_1
  try clear hfz5_2
  try clear hfz5_3
  try clear hfz5_4
  try clear hfz5_5
  try clear hfz5_6
  try clear hfz5_7
  try clear hfz5_8
  try clear hfz5_9
  try clear hfz7_0
  try clear hfz7_1
  try clear hfz7_2
  try clear hfz7_3
  try clear hfz7_4
  try clear hfz7_5
  try clear hfz7_6
  try clear hfz7_7
  try clear hfz7_8
  try clear hfz7_9
  try clear hfz9_0
  try clear hfz9_1
  try clear hfz9_2
  try clear hfz9_3
  try clear hfz9_4
  try clear hfz9_5
  try clear hfz9_6
  try clear hfz9_7
  try clear hfz9_8
  try clear hfz9_9
  obtain ⟨kq, x22_1, rfl, HA, HJ1, BK47001, HB⟩ := hcut
  cases kq with
  | zero => exact absurd HA.out (by simp [dict_instsRight.j0])
  | succ kj1 =>
   have H := HA.out
   clear HA
   simp only [dict_instsRight.j0] at H
   by_cases c10 : x22_1 = true
   ·subst c10
    have H1 : (some false) = some r := by rw [if_pos rfl] at H; exact H
    clear H
    have H := H1
    clear H1
    obtain rfl := Option.some.inj H
    go_wp2
    go_ret
    exact ⟨by first | rfl | (simp [errW_none, errW_some] <;> rfl) | (simp [*, errW_none, errW_some] <;> rfl), by repeat (first | (with_reducible first | exact HB.out | apply below_alloc | apply pw_below_drewN | apply below_drew1 | refine below_set ?_ GE47001.out) | exact HB.out)⟩
   ·replace c10 := Bool.eq_false_iff.mpr c10
    subst c10
    have H1 : (dict_instsRight.l0 kj1 l0_7 (l0_7.length : Int) 0 l0_0 l0_1 l0_2 l0_3 a0_4 l0_5 a0_6 l0_7 a0_8 a0_9) = some r := by rw [if_neg (show ¬ (false = true) by decide)] at H; exact H
    clear H
    have H := H1
    clear H1
    have H' := Aside0.mk H
    clear H
    have hcz11_0 : wc.cell? ⟨gb47001, 0, none⟩ = some (.slice A0_0 l0_0.length c0_0) := (blk_cell BK47001.out 0).trans rfl
    have hcz11_1 : wc.cell? ⟨gb47001, 1, none⟩ = some (.slice A0_1 l0_1.length c0_1) := (blk_cell BK47001.out 1).trans rfl
    have hcz11_2 : wc.cell? ⟨gb47001, 2, none⟩ = some (.slice A0_2 l0_2.length c0_2) := (blk_cell BK47001.out 2).trans rfl
    have hcz11_3 : wc.cell? ⟨gb47001, 3, none⟩ = some (.slice A0_3 l0_3.length c0_3) := (blk_cell BK47001.out 3).trans rfl
    have hcz11_4 : wc.cell? ⟨gb47001, 4, none⟩ = some (.int .u32 a0_4) := (blk_cell BK47001.out 4).trans rfl
    have hcz11_5 : wc.cell? ⟨gb47001, 5, none⟩ = some (.slice A0_5 l0_5.length c0_5) := (blk_cell BK47001.out 5).trans rfl
    have hcz11_6 : wc.cell? ⟨gb47001, 6, none⟩ = some (.int .i64 a0_6) := (blk_cell BK47001.out 6).trans rfl
    have hcz11_7 : wc.cell? ⟨gb47001, 7, none⟩ = some (.slice A0_7 l0_7.length c0_7) := (blk_cell BK47001.out 7).trans rfl
    have hcz11_8 : wc.cell? ⟨gb47001, 8, none⟩ = some (.int .i64 a0_8) := (blk_cell BK47001.out 8).trans rfl
    have hcz11_9 : wc.cell? ⟨gb47001, 9, none⟩ = some (.string a0_9) := (blk_cell BK47001.out 9).trans rfl
    have hfz11_0 := blk_frozen BK47001.out 0
    have hfz11_1 := blk_frozen BK47001.out 1
    have hfz11_2 := blk_frozen BK47001.out 2
    have hfz11_3 := blk_frozen BK47001.out 3
    have hfz11_4 := blk_frozen BK47001.out 4
    have hfz11_5 := blk_frozen BK47001.out 5
    have hfz11_6 := blk_frozen BK47001.out 6
    have hfz11_7 := blk_frozen BK47001.out 7
    have hfz11_8 := blk_frozen BK47001.out 8
    have hfz11_9 := blk_frozen BK47001.out 9
    go_wp2
    go_loopg [26] kj1 (fun kq v26 w' => ∃ (x26_2 : Int), v26 = .int .i64 x26_2 ∧ Aside0 (dict_instsRight.l0 kq l0_7 (l0_7.length : Int) x26_2 l0_0 l0_1 l0_2 l0_3 a0_4 l0_5 a0_6 l0_7 a0_8 a0_9 = some r) ∧ Aside0 (kq ≤ kj1) ∧ Aside0 (w'.heap[gb47001]? = some (.cells #[(.slice A0_0 l0_0.length c0_0), (.slice A0_1 l0_1.length c0_1), (.slice A0_2 l0_2.length c0_2), (.slice A0_3 l0_3.length c0_3), .int .u32 a0_4, (.slice A0_5 l0_5.length c0_5), .int .i64 a0_6, (.slice A0_7 l0_7.length c0_7), .int .i64 a0_8, .string a0_9] 32 (0, 0))) ∧ Aside0 (Below w.heap.size w w'))
    case atStart => exact ⟨(0), (by first | rfl | (simp; done) | (simp [*]; done)), H', ⟨Nat.le_refl _⟩, ⟨by (with_reducible repeat (first | refine blk_drewN ?_ _ | refine blk_drew ?_ | refine blk_alloc ?_ _)); exact BK47001.out⟩, ⟨by repeat (first | (with_reducible first | exact HB.out | apply below_alloc | apply pw_below_drewN | apply below_drew1 | refine below_set ?_ GE47001.out) | exact HB.out)⟩⟩
    case round =>
     clear H'
     try clear c1
     try clear p2
     try clear c4
     try clear c4b0
     try clear c4b1
     try clear c6
     try clear c6b0
     try clear c6b1
     try clear c10
     try clear hcz11_0
     try clear hcz11_1
     try clear hcz11_2
     try clear hcz11_3
     try clear hcz11_4
     try clear hcz11_5
     try clear hcz11_6
     try clear hcz11_7
     try clear hcz11_8
     try clear hcz11_9
     try clear hcz5_0
     try clear hcz5_1
     try clear hcz5_2
     try clear hcz5_3
     try clear hcz5_4
     try clear hcz5_5
     try clear hcz5_6
     try clear hcz5_7
     try clear hcz5_8
     try clear hcz5_9
     try clear hcz7_0
     try clear hcz7_1
     try clear hcz7_2
     try clear hcz7_3
     try clear hcz7_4
     try clear hcz7_5
     try clear hcz7_6
     try clear hcz7_7
     try clear hcz7_8
     try clear hcz7_9
     try clear hcz9_0
     try clear hcz9_1
     try clear hcz9_2
     try clear hcz9_3
     try clear hcz9_4
     try clear hcz9_5
     try clear hcz9_6
     try clear hcz9_7
     try clear hcz9_8
     try clear hcz9_9
     try clear hfz11_0
     try clear hfz11_1
     try clear hfz11_2
     try clear hfz11_3
     try clear hfz11_4
     try clear hfz11_5
     try clear hfz11_6
     try clear hfz11_7
     try clear hfz11_8
     try clear hfz11_9
     try clear hfz5_0
     try clear hfz5_1
     try clear hfz5_2
     try clear hfz5_3
     try clear hfz5_4
     try clear hfz5_5
     try clear hfz5_6
     try clear hfz5_7
     try clear hfz5_8
     try clear hfz5_9
     try clear hfz7_0
     try clear hfz7_1
     try clear hfz7_2
     try clear hfz7_3
     try clear hfz7_4
     try clear hfz7_5
     try clear hfz7_6
     try clear hfz7_7
     try clear hfz7_8
     try clear hfz7_9
     try clear hfz9_0
     try clear hfz9_1
     try clear hfz9_2
     try clear hfz9_3
     try clear hfz9_4
     try clear hfz9_5
     try clear hfz9_6
     try clear hfz9_7
     try clear hfz9_8
     try clear hfz9_9
     try clear p2
     obtain ⟨x26_2, rfl, HA, HK2, BK47001, HB⟩ := hrel
     cases gk with
     | zero => exact absurd HA.out (by simp [dict_instsRight.l0])
     | succ k2 =>
      have H := HA.out
      clear HA
      simp only [dict_instsRight.l0] at H
      by_cases c12 : x26_2 < (l0_7.length : Int)
      ·rw [if_pos c12] at H
       have c12b0 : decide (x26_2 < (l0_7.length : Int)) = true := decide_eq_true c12
       clear c12
       by_cases c13 : 0 ≤ x26_2
       ·rw [if_pos c13] at H
        have c13b0 : decide (0 ≤ x26_2) = true := decide_eq_true c13
        clear c13
        by_cases c14 : x26_2 < (l0_7.length : Int)
        ·rw [if_pos c14] at H
         have c14b0 : decide (x26_2 < (l0_7.length : Int)) = true := decide_eq_true c14
         clear c14
         replace H := Option.bind_eq_some_iff.mp H
         obtain ⟨t47005, A150, H⟩ := H
         replace H : (if t47005 = true then (dict_instsRight.l0 k2 l0_7 (l0_7.length : Int) (wrap64 (x26_2 + 1)) l0_0 l0_1 l0_2 l0_3 a0_4 l0_5 a0_6 l0_7 a0_8 a0_9) else (some false)) = some r := H
         have A15 := Aside0.mk A150
         clear A150
         by_cases c16 : t47005 = true
         ·subst c16
          have H1 : (dict_instsRight.l0 k2 l0_7 (l0_7.length : Int) (wrap64 (x26_2 + 1)) l0_0 l0_1 l0_2 l0_3 a0_4 l0_5 a0_6 l0_7 a0_8 a0_9) = some r := by rw [if_pos rfl] at H; exact H
          clear H
          have H := H1
          clear H1
          have H' := Aside0.mk H
          clear H
          have p47003 : 0 ≤ (x26_2 : Int) := of_decide_eq_true (by first | (with_reducible assumption) | assumption)
          have q47003 : x26_2 < (l0_7.length : Int) := of_decide_eq_true (by first | (with_reducible assumption) | assumption)
          obtain ⟨ad47003, A47003_3, c47003_3, e47003, hx47003_0, hx47003_1, hx47003_2, hx47003_3, hl47003_3, hi47003_3⟩ := at_T82 HR0_7.out x26_2 p47003 q47003
          cases e47003
          replace hx47003_0 := (HB.out.cell (World.block_lt_of_cell? w _ hx47003_0)).trans hx47003_0
          replace hx47003_1 := (HB.out.cell (World.block_lt_of_cell? w _ hx47003_1)).trans hx47003_1
          replace hx47003_2 := (HB.out.cell (World.block_lt_of_cell? w _ hx47003_2)).trans hx47003_2
          replace hx47003_3 := (HB.out.cell (World.block_lt_of_cell? w _ hx47003_3)).trans hx47003_3
          have HR47003_3 := Aside0.mk hi47003_3
          have HC47003_3 := Aside0.mk hl47003_3
          clear hi47003_3 hl47003_3
          replace p47003 := eq_true p47003
          replace q47003 := eq_true q47003
          go_wp2_with (first | ((with_reducible refine gate_dst (N := 4) rfl ?_); refine box_event ?hg (N := 4) ?hd (cs := #[.int .i64 0, .int .i64 0, .string (⟨#[]⟩ : ByteArray), .slice none 0 0]) (t := 82) ?hr ?_; (case hd => rfl); (case hg => rfl); (case hr => first | (go_simp; done) | (go_simp; rfl)); intro gb47004 hg w17 hbox hb; have n0_ := Aside0.mk (blk_below (g := gb47001) (o := .cells #[.slice A0_0 l0_0.length c0_0, .slice A0_1 l0_1.length c0_1, .slice A0_2 l0_2.length c0_2, .slice A0_3 l0_3.length c0_3, .int .u32 a0_4, .slice A0_5 l0_5.length c0_5, .int .i64 a0_6, .slice (some ad47003) l0_7.length c0_7, .int .i64 a0_8, .string a0_9] 32 (0, 0)) (by (with_reducible repeat (first | refine blk_drewN ?_ _ | refine blk_drew ?_ | refine blk_alloc ?_ _)); exact BK47001.out) hb); have n1_ := Aside0.mk (below_step (by repeat (first | (with_reducible first | exact HB.out | apply below_alloc | apply pw_below_drewN | apply below_drew1 | refine below_set ?_ GE47001.out) | exact HB.out)) hb); have n2_ := Aside0.mk (hbox); have n3_ := Aside0.mk ((by rw [hg]; exact (below_size (by repeat (first | (with_reducible first | exact HB.out | apply below_alloc | apply pw_below_drewN | apply below_drew1 | refine below_set ?_ GE47001.out) | exact HB.out))) : w.heap.size ≤ gb47004)); have n4_ := Aside0.mk ((by rw [hg]; exact (below_size (by repeat (first | (with_reducible first | exact HB.out | apply below_alloc | apply pw_below_drewN | apply below_drew1 | refine below_set ?_ GE47001.out) | exact HB.out))) : w.heap.size ≤ gb47004)); have n5_ := Aside0.mk ((by rw [hg]; exact Nat.ne_of_lt (blk_lt (g := gb47001) (o := .cells #[.slice A0_0 l0_0.length c0_0, .slice A0_1 l0_1.length c0_1, .slice A0_2 l0_2.length c0_2, .slice A0_3 l0_3.length c0_3, .int .u32 a0_4, .slice A0_5 l0_5.length c0_5, .int .i64 a0_6, .slice (some ad47003) l0_7.length c0_7, .int .i64 a0_8, .string a0_9] 32 (0, 0)) (by (with_reducible repeat (first | refine blk_drewN ?_ _ | refine blk_drew ?_ | refine blk_alloc ?_ _)); exact BK47001.out)) : gb47001 ≠ gb47004)); have n6_ := Aside0.mk ((by rw [hg]; exact Nat.ne_of_gt (blk_lt (g := gb47001) (o := .cells #[.slice A0_0 l0_0.length c0_0, .slice A0_1 l0_1.length c0_1, .slice A0_2 l0_2.length c0_2, .slice A0_3 l0_3.length c0_3, .int .u32 a0_4, .slice A0_5 l0_5.length c0_5, .int .i64 a0_6, .slice (some ad47003) l0_7.length c0_7, .int .i64 a0_8, .string a0_9] 32 (0, 0)) (by (with_reducible repeat (first | refine blk_drewN ?_ _ | refine blk_drew ?_ | refine blk_alloc ?_ _)); exact BK47001.out)) : gb47004 ≠ gb47001)); clear BK47001; clear HB; have BK47001 := n0_; have HB := n1_; have BK47004 := n2_; have GW47004 := n3_; have GE47004 := n4_; have NB47001_47004 := n5_; have NB47004_47001 := n6_; clear n0_ n1_ n2_ n3_ n4_ n5_ n6_; clear hb hbox hg; have hnb18 := NB47004_47001.out; have hnc18 := NB47001_47004.out; have hcz19_0 : w17.cell? ⟨gb47004, 0, none⟩ = some (.int .i64 0) := (blk_cell BK47004.out 0).trans rfl; have hcz19_1 : w17.cell? ⟨gb47004, 1, none⟩ = some (.int .i64 0) := (blk_cell BK47004.out 1).trans rfl; have hcz19_2 : w17.cell? ⟨gb47004, 2, none⟩ = some (.string (⟨#[]⟩ : ByteArray)) := (blk_cell BK47004.out 2).trans rfl; have hcz19_3 : w17.cell? ⟨gb47004, 3, none⟩ = some (.slice none 0 0) := (blk_cell BK47004.out 3).trans rfl; have hfz19_0 := blk_frozen BK47004.out 0; have hfz19_1 := blk_frozen BK47004.out 1; have hfz19_2 := blk_frozen BK47004.out 2; have hfz19_3 := blk_frozen BK47004.out 3; have hcz20_0 : w17.cell? ⟨gb47001, 0, none⟩ = some (.slice A0_0 l0_0.length c0_0) := (blk_cell BK47001.out 0).trans rfl; have hcz20_1 : w17.cell? ⟨gb47001, 1, none⟩ = some (.slice A0_1 l0_1.length c0_1) := (blk_cell BK47001.out 1).trans rfl; have hcz20_2 : w17.cell? ⟨gb47001, 2, none⟩ = some (.slice A0_2 l0_2.length c0_2) := (blk_cell BK47001.out 2).trans rfl; have hcz20_3 : w17.cell? ⟨gb47001, 3, none⟩ = some (.slice A0_3 l0_3.length c0_3) := (blk_cell BK47001.out 3).trans rfl; have hcz20_4 : w17.cell? ⟨gb47001, 4, none⟩ = some (.int .u32 a0_4) := (blk_cell BK47001.out 4).trans rfl; have hcz20_5 : w17.cell? ⟨gb47001, 5, none⟩ = some (.slice A0_5 l0_5.length c0_5) := (blk_cell BK47001.out 5).trans rfl; have hcz20_6 : w17.cell? ⟨gb47001, 6, none⟩ = some (.int .i64 a0_6) := (blk_cell BK47001.out 6).trans rfl; have hcz20_7 : w17.cell? ⟨gb47001, 7, none⟩ = some (.slice (some ad47003) l0_7.length c0_7) := (blk_cell BK47001.out 7).trans rfl; have hcz20_8 : w17.cell? ⟨gb47001, 8, none⟩ = some (.int .i64 a0_8) := (blk_cell BK47001.out 8).trans rfl; have hcz20_9 : w17.cell? ⟨gb47001, 9, none⟩ = some (.string a0_9) := (blk_cell BK47001.out 9).trans rfl; have hfz20_0 := blk_frozen BK47001.out 0; have hfz20_1 := blk_frozen BK47001.out 1; have hfz20_2 := blk_frozen BK47001.out 2; have hfz20_3 := blk_frozen BK47001.out 3; have hfz20_4 := blk_frozen BK47001.out 4; have hfz20_5 := blk_frozen BK47001.out 5; have hfz20_6 := blk_frozen BK47001.out 6; have hfz20_7 := blk_frozen BK47001.out 7; have hfz20_8 := blk_frozen BK47001.out 8; have hfz20_9 := blk_frozen BK47001.out 9) | ((with_reducible refine gate_callee (f := 77) rfl ?_); refine goesL_ (some 35) rfl rfl Try.func77 (by kernel_rfl) rfl #[.slice (some ad47003) l0_7.length c0_7, .agg #[.int .i64 ((rd_T82 l0_7 x26_2).f0), .int .i64 ((rd_T82 l0_7 x26_2).f1), .string ((rd_T82 l0_7 x26_2).f2), .slice A47003_3 ((rd_T82 l0_7 x26_2).f3).length c47003_3], .slice A0_5 l0_5.length c0_5] rfl (by (try simp only [List.map_toArray, List.map_cons, List.map_nil]); first | done | rfl | (simp only [List.length_drop, List.length_take]; rfl)) ?_; (with_reducible refine (dict_instRight.calls _ _ l0_7 ((rd_T82 l0_7 x26_2).f0) ((rd_T82 l0_7 x26_2).f1) ((rd_T82 l0_7 x26_2).f2) _ _ ((rd_T82 l0_7 x26_2).f3) _ _ l0_5 true _ ?side1 ?side2 ?side3 ?side4 ?side5 ?side6 A15.out).mono ?_); (case side1 => exact Kd.C_below HR0_7.out (by repeat (first | (with_reducible first | exact HB.out | apply below_alloc | apply pw_below_drewN | apply below_drew1 | refine below_set ?_ GE47001.out | refine below_set ?_ GE47004.out) | exact HB.out))); (case side2 => exact HC0_7.out); (case side3 => exact Kd.C_below HR47003_3.out (by repeat (first | (with_reducible first | exact HB.out | apply below_alloc | apply pw_below_drewN | apply below_drew1 | refine below_set ?_ GE47001.out | refine below_set ?_ GE47004.out) | exact HB.out))); (case side4 => exact HC47003_3.out); (case side5 => exact Kd.C_below HR0_5.out (by repeat (first | (with_reducible first | exact HB.out | apply below_alloc | apply pw_below_drewN | apply below_drew1 | refine below_set ?_ GE47001.out | refine below_set ?_ GE47004.out) | exact HB.out))); (case side6 => exact HC0_5.out); rintro e w21 ⟨rfl, hb⟩; refine ⟨_, rfl, ?_⟩; have n0_ := Aside0.mk (blk_below (g := gb47001) (o := .cells #[.slice A0_0 l0_0.length c0_0, .slice A0_1 l0_1.length c0_1, .slice A0_2 l0_2.length c0_2, .slice A0_3 l0_3.length c0_3, .int .u32 a0_4, .slice A0_5 l0_5.length c0_5, .int .i64 a0_6, .slice (some ad47003) l0_7.length c0_7, .int .i64 a0_8, .string a0_9] 32 (0, 0)) (by (with_reducible repeat (first | refine blk_drewN ?_ _ | refine blk_drew ?_ | refine blk_alloc ?_ _)); refine blk_far ?_ NB47001_47004.out _; (with_reducible repeat (first | refine blk_drewN ?_ _ | refine blk_drew ?_ | refine blk_alloc ?_ _)); refine blk_far ?_ NB47001_47004.out _; (with_reducible repeat (first | refine blk_drewN ?_ _ | refine blk_drew ?_ | refine blk_alloc ?_ _)); refine blk_far ?_ NB47001_47004.out _; (with_reducible repeat (first | refine blk_drewN ?_ _ | refine blk_drew ?_ | refine blk_alloc ?_ _)); refine blk_far ?_ NB47001_47004.out _; (with_reducible repeat (first | refine blk_drewN ?_ _ | refine blk_drew ?_ | refine blk_alloc ?_ _)); exact BK47001.out) hb); have n1_ := Aside0.mk (blk_below (g := gb47004) (o := .cells #[.int .i64 ((rd_T82 l0_7 x26_2).f0), .int .i64 ((rd_T82 l0_7 x26_2).f1), .string ((rd_T82 l0_7 x26_2).f2), .slice A47003_3 ((rd_T82 l0_7 x26_2).f3).length c47003_3] 82 (0, 0)) (by (with_reducible repeat (first | refine blk_drewN ?_ _ | refine blk_drew ?_ | refine blk_alloc ?_ _)); refine blk_put (cs := #[.int .i64 ((rd_T82 l0_7 x26_2).f0), .int .i64 ((rd_T82 l0_7 x26_2).f1), .string ((rd_T82 l0_7 x26_2).f2), .slice none 0 0]) ?_ 3 _ rfl; (with_reducible repeat (first | refine blk_drewN ?_ _ | refine blk_drew ?_ | refine blk_alloc ?_ _)); refine blk_put (cs := #[.int .i64 ((rd_T82 l0_7 x26_2).f0), .int .i64 ((rd_T82 l0_7 x26_2).f1), .string (⟨#[]⟩ : ByteArray), .slice none 0 0]) ?_ 2 _ rfl; (with_reducible repeat (first | refine blk_drewN ?_ _ | refine blk_drew ?_ | refine blk_alloc ?_ _)); refine blk_put (cs := #[.int .i64 ((rd_T82 l0_7 x26_2).f0), .int .i64 0, .string (⟨#[]⟩ : ByteArray), .slice none 0 0]) ?_ 1 _ rfl; (with_reducible repeat (first | refine blk_drewN ?_ _ | refine blk_drew ?_ | refine blk_alloc ?_ _)); refine blk_put (cs := #[.int .i64 0, .int .i64 0, .string (⟨#[]⟩ : ByteArray), .slice none 0 0]) ?_ 0 _ rfl; (with_reducible repeat (first | refine blk_drewN ?_ _ | refine blk_drew ?_ | refine blk_alloc ?_ _)); exact BK47004.out) hb); have n2_ := Aside0.mk (below_step (by repeat (first | (with_reducible first | exact HB.out | apply below_alloc | apply pw_below_drewN | apply below_drew1 | refine below_set ?_ GE47001.out | refine below_set ?_ GE47004.out) | exact HB.out)) hb); clear BK47001; clear BK47004; clear HB; have BK47001 := n0_; have BK47004 := n1_; have HB := n2_; clear n0_ n1_ n2_; (try clear hb); (try clear hb2); (try clear hk); (try clear hi)))
          go_roundg k2
          case measure => have := HJ1.out; have := HK2.out; omega
          case rel => exact ⟨(wrap64 (x26_2 + 1)), (by first | rfl | (simp; done) | (simp [*]; done)), H', ⟨by have := HJ1.out; have := HK2.out; omega⟩, ⟨by (with_reducible repeat (first | refine blk_drewN ?_ _ | refine blk_drew ?_ | refine blk_alloc ?_ _)); exact BK47001.out⟩, ⟨by repeat (first | (with_reducible first | exact HB.out | apply below_alloc | apply pw_below_drewN | apply below_drew1 | refine below_set ?_ GE47001.out | refine below_set ?_ GE47004.out) | exact HB.out)⟩⟩
         ·replace c16 := Bool.eq_false_iff.mpr c16
          subst c16
          have H1 : (some false) = some r := by rw [if_neg (show ¬ (false = true) by decide)] at H; exact H
          clear H
          have H := H1
          clear H1
          obtain rfl := Option.some.inj H
          have p47003 : 0 ≤ (x26_2 : Int) := of_decide_eq_true (by first | (with_reducible assumption) | assumption)
          have q47003 : x26_2 < (l0_7.length : Int) := of_decide_eq_true (by first | (with_reducible assumption) | assumption)
          obtain ⟨ad47003, A47003_3, c47003_3, e47003, hx47003_0, hx47003_1, hx47003_2, hx47003_3, hl47003_3, hi47003_3⟩ := at_T82 HR0_7.out x26_2 p47003 q47003
          cases e47003
          replace hx47003_0 := (HB.out.cell (World.block_lt_of_cell? w _ hx47003_0)).trans hx47003_0
          replace hx47003_1 := (HB.out.cell (World.block_lt_of_cell? w _ hx47003_1)).trans hx47003_1
          replace hx47003_2 := (HB.out.cell (World.block_lt_of_cell? w _ hx47003_2)).trans hx47003_2
          replace hx47003_3 := (HB.out.cell (World.block_lt_of_cell? w _ hx47003_3)).trans hx47003_3
          have HR47003_3 := Aside0.mk hi47003_3
          have HC47003_3 := Aside0.mk hl47003_3
          clear hi47003_3 hl47003_3
          replace p47003 := eq_true p47003
          replace q47003 := eq_true q47003
          go_wp2_with (first | ((with_reducible refine gate_dst (N := 4) rfl ?_); refine box_event ?hg (N := 4) ?hd (cs := #[.int .i64 0, .int .i64 0, .string (⟨#[]⟩ : ByteArray), .slice none 0 0]) (t := 82) ?hr ?_; (case hd => rfl); (case hg => rfl); (case hr => first | (go_simp; done) | (go_simp; rfl)); intro gb47004 hg w22 hbox hb; have n0_ := Aside0.mk (blk_below (g := gb47001) (o := .cells #[.slice A0_0 l0_0.length c0_0, .slice A0_1 l0_1.length c0_1, .slice A0_2 l0_2.length c0_2, .slice A0_3 l0_3.length c0_3, .int .u32 a0_4, .slice A0_5 l0_5.length c0_5, .int .i64 a0_6, .slice (some ad47003) l0_7.length c0_7, .int .i64 a0_8, .string a0_9] 32 (0, 0)) (by (with_reducible repeat (first | refine blk_drewN ?_ _ | refine blk_drew ?_ | refine blk_alloc ?_ _)); exact BK47001.out) hb); have n1_ := Aside0.mk (below_step (by repeat (first | (with_reducible first | exact HB.out | apply below_alloc | apply pw_below_drewN | apply below_drew1 | refine below_set ?_ GE47001.out) | exact HB.out)) hb); have n2_ := Aside0.mk (hbox); have n3_ := Aside0.mk ((by rw [hg]; exact (below_size (by repeat (first | (with_reducible first | exact HB.out | apply below_alloc | apply pw_below_drewN | apply below_drew1 | refine below_set ?_ GE47001.out) | exact HB.out))) : w.heap.size ≤ gb47004)); have n4_ := Aside0.mk ((by rw [hg]; exact (below_size (by repeat (first | (with_reducible first | exact HB.out | apply below_alloc | apply pw_below_drewN | apply below_drew1 | refine below_set ?_ GE47001.out) | exact HB.out))) : w.heap.size ≤ gb47004)); have n5_ := Aside0.mk ((by rw [hg]; exact Nat.ne_of_lt (blk_lt (g := gb47001) (o := .cells #[.slice A0_0 l0_0.length c0_0, .slice A0_1 l0_1.length c0_1, .slice A0_2 l0_2.length c0_2, .slice A0_3 l0_3.length c0_3, .int .u32 a0_4, .slice A0_5 l0_5.length c0_5, .int .i64 a0_6, .slice (some ad47003) l0_7.length c0_7, .int .i64 a0_8, .string a0_9] 32 (0, 0)) (by (with_reducible repeat (first | refine blk_drewN ?_ _ | refine blk_drew ?_ | refine blk_alloc ?_ _)); exact BK47001.out)) : gb47001 ≠ gb47004)); have n6_ := Aside0.mk ((by rw [hg]; exact Nat.ne_of_gt (blk_lt (g := gb47001) (o := .cells #[.slice A0_0 l0_0.length c0_0, .slice A0_1 l0_1.length c0_1, .slice A0_2 l0_2.length c0_2, .slice A0_3 l0_3.length c0_3, .int .u32 a0_4, .slice A0_5 l0_5.length c0_5, .int .i64 a0_6, .slice (some ad47003) l0_7.length c0_7, .int .i64 a0_8, .string a0_9] 32 (0, 0)) (by (with_reducible repeat (first | refine blk_drewN ?_ _ | refine blk_drew ?_ | refine blk_alloc ?_ _)); exact BK47001.out)) : gb47004 ≠ gb47001)); clear BK47001; clear HB; have BK47001 := n0_; have HB := n1_; have BK47004 := n2_; have GW47004 := n3_; have GE47004 := n4_; have NB47001_47004 := n5_; have NB47004_47001 := n6_; clear n0_ n1_ n2_ n3_ n4_ n5_ n6_; clear hb hbox hg; have hnb23 := NB47004_47001.out; have hnc23 := NB47001_47004.out; have hcz24_0 : w22.cell? ⟨gb47004, 0, none⟩ = some (.int .i64 0) := (blk_cell BK47004.out 0).trans rfl; have hcz24_1 : w22.cell? ⟨gb47004, 1, none⟩ = some (.int .i64 0) := (blk_cell BK47004.out 1).trans rfl; have hcz24_2 : w22.cell? ⟨gb47004, 2, none⟩ = some (.string (⟨#[]⟩ : ByteArray)) := (blk_cell BK47004.out 2).trans rfl; have hcz24_3 : w22.cell? ⟨gb47004, 3, none⟩ = some (.slice none 0 0) := (blk_cell BK47004.out 3).trans rfl; have hfz24_0 := blk_frozen BK47004.out 0; have hfz24_1 := blk_frozen BK47004.out 1; have hfz24_2 := blk_frozen BK47004.out 2; have hfz24_3 := blk_frozen BK47004.out 3; have hcz25_0 : w22.cell? ⟨gb47001, 0, none⟩ = some (.slice A0_0 l0_0.length c0_0) := (blk_cell BK47001.out 0).trans rfl; have hcz25_1 : w22.cell? ⟨gb47001, 1, none⟩ = some (.slice A0_1 l0_1.length c0_1) := (blk_cell BK47001.out 1).trans rfl; have hcz25_2 : w22.cell? ⟨gb47001, 2, none⟩ = some (.slice A0_2 l0_2.length c0_2) := (blk_cell BK47001.out 2).trans rfl; have hcz25_3 : w22.cell? ⟨gb47001, 3, none⟩ = some (.slice A0_3 l0_3.length c0_3) := (blk_cell BK47001.out 3).trans rfl; have hcz25_4 : w22.cell? ⟨gb47001, 4, none⟩ = some (.int .u32 a0_4) := (blk_cell BK47001.out 4).trans rfl; have hcz25_5 : w22.cell? ⟨gb47001, 5, none⟩ = some (.slice A0_5 l0_5.length c0_5) := (blk_cell BK47001.out 5).trans rfl; have hcz25_6 : w22.cell? ⟨gb47001, 6, none⟩ = some (.int .i64 a0_6) := (blk_cell BK47001.out 6).trans rfl; have hcz25_7 : w22.cell? ⟨gb47001, 7, none⟩ = some (.slice (some ad47003) l0_7.length c0_7) := (blk_cell BK47001.out 7).trans rfl; have hcz25_8 : w22.cell? ⟨gb47001, 8, none⟩ = some (.int .i64 a0_8) := (blk_cell BK47001.out 8).trans rfl; have hcz25_9 : w22.cell? ⟨gb47001, 9, none⟩ = some (.string a0_9) := (blk_cell BK47001.out 9).trans rfl; have hfz25_0 := blk_frozen BK47001.out 0; have hfz25_1 := blk_frozen BK47001.out 1; have hfz25_2 := blk_frozen BK47001.out 2; have hfz25_3 := blk_frozen BK47001.out 3; have hfz25_4 := blk_frozen BK47001.out 4; have hfz25_5 := blk_frozen BK47001.out 5; have hfz25_6 := blk_frozen BK47001.out 6; have hfz25_7 := blk_frozen BK47001.out 7; have hfz25_8 := blk_frozen BK47001.out 8; have hfz25_9 := blk_frozen BK47001.out 9) | ((with_reducible refine gate_callee (f := 77) rfl ?_); refine goesL_ (some 35) rfl rfl Try.func77 (by kernel_rfl) rfl #[.slice (some ad47003) l0_7.length c0_7, .agg #[.int .i64 ((rd_T82 l0_7 x26_2).f0), .int .i64 ((rd_T82 l0_7 x26_2).f1), .string ((rd_T82 l0_7 x26_2).f2), .slice A47003_3 ((rd_T82 l0_7 x26_2).f3).length c47003_3], .slice A0_5 l0_5.length c0_5] rfl (by (try simp only [List.map_toArray, List.map_cons, List.map_nil]); first | done | rfl | (simp only [List.length_drop, List.length_take]; rfl)) ?_; (with_reducible refine (dict_instRight.calls _ _ l0_7 ((rd_T82 l0_7 x26_2).f0) ((rd_T82 l0_7 x26_2).f1) ((rd_T82 l0_7 x26_2).f2) _ _ ((rd_T82 l0_7 x26_2).f3) _ _ l0_5 false _ ?side1 ?side2 ?side3 ?side4 ?side5 ?side6 A15.out).mono ?_); (case side1 => exact Kd.C_below HR0_7.out (by repeat (first | (with_reducible first | exact HB.out | apply below_alloc | apply pw_below_drewN | apply below_drew1 | refine below_set ?_ GE47001.out | refine below_set ?_ GE47004.out) | exact HB.out))); (case side2 => exact HC0_7.out); (case side3 => exact Kd.C_below HR47003_3.out (by repeat (first | (with_reducible first | exact HB.out | apply below_alloc | apply pw_below_drewN | apply below_drew1 | refine below_set ?_ GE47001.out | refine below_set ?_ GE47004.out) | exact HB.out))); (case side4 => exact HC47003_3.out); (case side5 => exact Kd.C_below HR0_5.out (by repeat (first | (with_reducible first | exact HB.out | apply below_alloc | apply pw_below_drewN | apply below_drew1 | refine below_set ?_ GE47001.out | refine below_set ?_ GE47004.out) | exact HB.out))); (case side6 => exact HC0_5.out); rintro e w26 ⟨rfl, hb⟩; refine ⟨_, rfl, ?_⟩; have n0_ := Aside0.mk (blk_below (g := gb47001) (o := .cells #[.slice A0_0 l0_0.length c0_0, .slice A0_1 l0_1.length c0_1, .slice A0_2 l0_2.length c0_2, .slice A0_3 l0_3.length c0_3, .int .u32 a0_4, .slice A0_5 l0_5.length c0_5, .int .i64 a0_6, .slice (some ad47003) l0_7.length c0_7, .int .i64 a0_8, .string a0_9] 32 (0, 0)) (by (with_reducible repeat (first | refine blk_drewN ?_ _ | refine blk_drew ?_ | refine blk_alloc ?_ _)); refine blk_far ?_ NB47001_47004.out _; (with_reducible repeat (first | refine blk_drewN ?_ _ | refine blk_drew ?_ | refine blk_alloc ?_ _)); refine blk_far ?_ NB47001_47004.out _; (with_reducible repeat (first | refine blk_drewN ?_ _ | refine blk_drew ?_ | refine blk_alloc ?_ _)); refine blk_far ?_ NB47001_47004.out _; (with_reducible repeat (first | refine blk_drewN ?_ _ | refine blk_drew ?_ | refine blk_alloc ?_ _)); refine blk_far ?_ NB47001_47004.out _; (with_reducible repeat (first | refine blk_drewN ?_ _ | refine blk_drew ?_ | refine blk_alloc ?_ _)); exact BK47001.out) hb); have n1_ := Aside0.mk (blk_below (g := gb47004) (o := .cells #[.int .i64 ((rd_T82 l0_7 x26_2).f0), .int .i64 ((rd_T82 l0_7 x26_2).f1), .string ((rd_T82 l0_7 x26_2).f2), .slice A47003_3 ((rd_T82 l0_7 x26_2).f3).length c47003_3] 82 (0, 0)) (by (with_reducible repeat (first | refine blk_drewN ?_ _ | refine blk_drew ?_ | refine blk_alloc ?_ _)); refine blk_put (cs := #[.int .i64 ((rd_T82 l0_7 x26_2).f0), .int .i64 ((rd_T82 l0_7 x26_2).f1), .string ((rd_T82 l0_7 x26_2).f2), .slice none 0 0]) ?_ 3 _ rfl; (with_reducible repeat (first | refine blk_drewN ?_ _ | refine blk_drew ?_ | refine blk_alloc ?_ _)); refine blk_put (cs := #[.int .i64 ((rd_T82 l0_7 x26_2).f0), .int .i64 ((rd_T82 l0_7 x26_2).f1), .string (⟨#[]⟩ : ByteArray), .slice none 0 0]) ?_ 2 _ rfl; (with_reducible repeat (first | refine blk_drewN ?_ _ | refine blk_drew ?_ | refine blk_alloc ?_ _)); refine blk_put (cs := #[.int .i64 ((rd_T82 l0_7 x26_2).f0), .int .i64 0, .string (⟨#[]⟩ : ByteArray), .slice none 0 0]) ?_ 1 _ rfl; (with_reducible repeat (first | refine blk_drewN ?_ _ | refine blk_drew ?_ | refine blk_alloc ?_ _)); refine blk_put (cs := #[.int .i64 0, .int .i64 0, .string (⟨#[]⟩ : ByteArray), .slice none 0 0]) ?_ 0 _ rfl; (with_reducible repeat (first | refine blk_drewN ?_ _ | refine blk_drew ?_ | refine blk_alloc ?_ _)); exact BK47004.out) hb); have n2_ := Aside0.mk (below_step (by repeat (first | (with_reducible first | exact HB.out | apply below_alloc | apply pw_below_drewN | apply below_drew1 | refine below_set ?_ GE47001.out | refine below_set ?_ GE47004.out) | exact HB.out)) hb); clear BK47001; clear BK47004; clear HB; have BK47001 := n0_; have BK47004 := n1_; have HB := n2_; clear n0_ n1_ n2_; (try clear hb); (try clear hb2); (try clear hk); (try clear hi)))
          go_ret
          exact ⟨by first | rfl | (simp [errW_none, errW_some] <;> rfl) | (simp [*, errW_none, errW_some] <;> rfl), by repeat (first | (with_reducible first | exact HB.out | apply below_alloc | apply pw_below_drewN | apply below_drew1 | refine below_set ?_ GE47001.out | refine below_set ?_ GE47004.out) | exact HB.out)⟩
        ·rw [if_neg c14] at H
         exact absurd H (by simp)
       ·rw [if_neg c13] at H
        exact absurd H (by simp)
      ·rw [if_neg c12] at H
       have c12b0 : decide (x26_2 < (l0_7.length : Int)) = false := decide_eq_false c12
       clear c12
       have H' := Aside0.mk H
       clear H
       have hcz27_0 : wr.cell? ⟨gb47001, 0, none⟩ = some (.slice A0_0 l0_0.length c0_0) := (blk_cell BK47001.out 0).trans rfl
       have hcz27_1 : wr.cell? ⟨gb47001, 1, none⟩ = some (.slice A0_1 l0_1.length c0_1) := (blk_cell BK47001.out 1).trans rfl
       have hcz27_2 : wr.cell? ⟨gb47001, 2, none⟩ = some (.slice A0_2 l0_2.length c0_2) := (blk_cell BK47001.out 2).trans rfl
       have hcz27_3 : wr.cell? ⟨gb47001, 3, none⟩ = some (.slice A0_3 l0_3.length c0_3) := (blk_cell BK47001.out 3).trans rfl
       have hcz27_4 : wr.cell? ⟨gb47001, 4, none⟩ = some (.int .u32 a0_4) := (blk_cell BK47001.out 4).trans rfl
       have hcz27_5 : wr.cell? ⟨gb47001, 5, none⟩ = some (.slice A0_5 l0_5.length c0_5) := (blk_cell BK47001.out 5).trans rfl
       have hcz27_6 : wr.cell? ⟨gb47001, 6, none⟩ = some (.int .i64 a0_6) := (blk_cell BK47001.out 6).trans rfl
       have hcz27_7 : wr.cell? ⟨gb47001, 7, none⟩ = some (.slice A0_7 l0_7.length c0_7) := (blk_cell BK47001.out 7).trans rfl
       have hcz27_8 : wr.cell? ⟨gb47001, 8, none⟩ = some (.int .i64 a0_8) := (blk_cell BK47001.out 8).trans rfl
       have hcz27_9 : wr.cell? ⟨gb47001, 9, none⟩ = some (.string a0_9) := (blk_cell BK47001.out 9).trans rfl
       have hfz27_0 := blk_frozen BK47001.out 0
       have hfz27_1 := blk_frozen BK47001.out 1
       have hfz27_2 := blk_frozen BK47001.out 2
       have hfz27_3 := blk_frozen BK47001.out 3
       have hfz27_4 := blk_frozen BK47001.out 4
       have hfz27_5 := blk_frozen BK47001.out 5
       have hfz27_6 := blk_frozen BK47001.out 6
       have hfz27_7 := blk_frozen BK47001.out 7
       have hfz27_8 := blk_frozen BK47001.out 8
       have hfz27_9 := blk_frozen BK47001.out 9
       go_wp2
       go_loopg [41] k2 (fun kq v41 w' => ∃ (x41_3 : Int), v41 = .int .i64 x41_3 ∧ Aside0 (dict_instsRight.l1 kq (l0_7.length : Int) x41_3 l0_0 l0_1 l0_2 l0_3 a0_4 l0_5 a0_6 l0_7 a0_8 a0_9 = some r) ∧ Aside0 (kq ≤ k2) ∧ Aside0 (w'.heap[gb47001]? = some (.cells #[(.slice A0_0 l0_0.length c0_0), (.slice A0_1 l0_1.length c0_1), (.slice A0_2 l0_2.length c0_2), (.slice A0_3 l0_3.length c0_3), .int .u32 a0_4, (.slice A0_5 l0_5.length c0_5), .int .i64 a0_6, (.slice A0_7 l0_7.length c0_7), .int .i64 a0_8, .string a0_9] 32 (0, 0))) ∧ Aside0 (Below w.heap.size w w'))
       case atStart => exact ⟨(0), (by first | rfl | (simp; done) | (simp [*]; done)), H', ⟨Nat.le_refl _⟩, ⟨by (with_reducible repeat (first | refine blk_drewN ?_ _ | refine blk_drew ?_ | refine blk_alloc ?_ _)); exact BK47001.out⟩, ⟨by repeat (first | (with_reducible first | exact HB.out | apply below_alloc | apply pw_below_drewN | apply below_drew1 | refine below_set ?_ GE47001.out) | exact HB.out)⟩⟩
       case round =>
        clear H'
        try clear c1
        try clear c2
        try clear p2
        try clear c4
        try clear c4b0
        try clear c4b1
        try clear p4
        try clear q4
        try clear hx4
        try clear c6
        try clear c6b0
        try clear c6b1
        try clear p6
        try clear c7
        try clear c10
        try clear c12
        try clear c12b0
        try clear c13
        try clear c13b0
        try clear c14
        try clear c14b0
        try clear c16
        try clear c18
        try clear c23
        try clear hcz11_0
        try clear hcz11_1
        try clear hcz11_2
        try clear hcz11_3
        try clear hcz11_4
        try clear hcz11_5
        try clear hcz11_6
        try clear hcz11_7
        try clear hcz11_8
        try clear hcz11_9
        try clear hcz19_0
        try clear hcz19_1
        try clear hcz19_2
        try clear hcz19_3
        try clear hcz20_0
        try clear hcz20_1
        try clear hcz20_2
        try clear hcz20_3
        try clear hcz20_4
        try clear hcz20_5
        try clear hcz20_6
        try clear hcz20_7
        try clear hcz20_8
        try clear hcz20_9
        try clear hcz24_0
        try clear hcz24_1
        try clear hcz24_2
        try clear hcz24_3
        try clear hcz25_0
        try clear hcz25_1
        try clear hcz25_2
        try clear hcz25_3
        try clear hcz25_4
        try clear hcz25_5
        try clear hcz25_6
        try clear hcz25_7
        try clear hcz25_8
        try clear hcz25_9
        try clear hcz27_0
        try clear hcz27_1
        try clear hcz27_2
        try clear hcz27_3
        try clear hcz27_4
        try clear hcz27_5
        try clear hcz27_6
        try clear hcz27_7
        try clear hcz27_8
        try clear hcz27_9
        try clear hcz5_0
        try clear hcz5_1
        try clear hcz5_2
        try clear hcz5_3
        try clear hcz5_4
        try clear hcz5_5
        try clear hcz5_6
        try clear hcz5_7
        try clear hcz5_8
        try clear hcz5_9
        try clear hcz7_0
        try clear hcz7_1
        try clear hcz7_2
        try clear hcz7_3
        try clear hcz7_4
        try clear hcz7_5
        try clear hcz7_6
        try clear hcz7_7
        try clear hcz7_8
        try clear hcz7_9
        try clear hcz9_0
        try clear hcz9_1
        try clear hcz9_2
        try clear hcz9_3
        try clear hcz9_4
        try clear hcz9_5
        try clear hcz9_6
        try clear hcz9_7
        try clear hcz9_8
        try clear hcz9_9
        try clear hfz11_0
        try clear hfz11_1
        try clear hfz11_2
        try clear hfz11_3
        try clear hfz11_4
        try clear hfz11_5
        try clear hfz11_6
        try clear hfz11_7
        try clear hfz11_8
        try clear hfz11_9
        try clear hfz19_0
        try clear hfz19_1
        try clear hfz19_2
        try clear hfz19_3
        try clear hfz20_0
        try clear hfz20_1
        try clear hfz20_2
        try clear hfz20_3
        try clear hfz20_4
        try clear hfz20_5
        try clear hfz20_6
        try clear hfz20_7
        try clear hfz20_8
        try clear hfz20_9
        try clear hfz24_0
        try clear hfz24_1
        try clear hfz24_2
        try clear hfz24_3
        try clear hfz25_0
        try clear hfz25_1
        try clear hfz25_2
        try clear hfz25_3
        try clear hfz25_4
        try clear hfz25_5
        try clear hfz25_6
        try clear hfz25_7
        try clear hfz25_8
        try clear hfz25_9
        try clear hfz27_0
        try clear hfz27_1
        try clear hfz27_2
        try clear hfz27_3
        try clear hfz27_4
        try clear hfz27_5
        try clear hfz27_6
        try clear hfz27_7
        try clear hfz27_8
        try clear hfz27_9
        try clear hfz5_0
        try clear hfz5_1
        try clear hfz5_2
        try clear hfz5_3
        try clear hfz5_4
        try clear hfz5_5
        try clear hfz5_6
        try clear hfz5_7
        try clear hfz5_8
        try clear hfz5_9
        try clear hfz7_0
        try clear hfz7_1
        try clear hfz7_2
        try clear hfz7_3
        try clear hfz7_4
        try clear hfz7_5
        try clear hfz7_6
        try clear hfz7_7
        try clear hfz7_8
        try clear hfz7_9
        try clear hfz9_0
        try clear hfz9_1
        try clear hfz9_2
        try clear hfz9_3
        try clear hfz9_4
        try clear hfz9_5
        try clear hfz9_6
        try clear hfz9_7
        try clear hfz9_8
        try clear hfz9_9
        try clear hx47003_0
        try clear hx47003_1
        try clear hx47003_2
        try clear hx47003_3
        try clear p2
        try clear p47003
        try clear q47003
        obtain ⟨x41_3, rfl, HA, HK3, BK47001, HB⟩ := hrel
        cases gk with
        | zero => exact absurd HA.out (by simp [dict_instsRight.l1])
        | succ k3 =>
         have H := HA.out
         clear HA
         simp only [dict_instsRight.l1] at H
         by_cases c28 : x41_3 < (l0_7.length : Int)
         ·rw [if_pos c28] at H
          have c28b0 : decide (x41_3 < (l0_7.length : Int)) = true := decide_eq_true c28
          clear c28
          replace H := Option.bind_eq_some_iff.mp H
          obtain ⟨t47006, A290, H⟩ := H
          replace H : (if t47006 = true then (dict_instsRight.l1 k3 (l0_7.length : Int) (wrap64 (x41_3 + 1)) l0_0 l0_1 l0_2 l0_3 a0_4 l0_5 a0_6 l0_7 a0_8 a0_9) else (some false)) = some r := H
          have A29 := Aside0.mk A290
          clear A290
          by_cases c30 : t47006 = true
          ·subst c30
           have H1 : (dict_instsRight.l1 k3 (l0_7.length : Int) (wrap64 (x41_3 + 1)) l0_0 l0_1 l0_2 l0_3 a0_4 l0_5 a0_6 l0_7 a0_8 a0_9) = some r := by rw [if_pos rfl] at H; exact H
           clear H
           have H := H1
           clear H1
           have H' := Aside0.mk H
           clear H
           have hcz31_0 : wr.cell? ⟨gb47001, 0, none⟩ = some (.slice A0_0 l0_0.length c0_0) := (blk_cell BK47001.out 0).trans rfl
           have hcz31_1 : wr.cell? ⟨gb47001, 1, none⟩ = some (.slice A0_1 l0_1.length c0_1) := (blk_cell BK47001.out 1).trans rfl
           have hcz31_2 : wr.cell? ⟨gb47001, 2, none⟩ = some (.slice A0_2 l0_2.length c0_2) := (blk_cell BK47001.out 2).trans rfl
           have hcz31_3 : wr.cell? ⟨gb47001, 3, none⟩ = some (.slice A0_3 l0_3.length c0_3) := (blk_cell BK47001.out 3).trans rfl
           have hcz31_4 : wr.cell? ⟨gb47001, 4, none⟩ = some (.int .u32 a0_4) := (blk_cell BK47001.out 4).trans rfl
           have hcz31_5 : wr.cell? ⟨gb47001, 5, none⟩ = some (.slice A0_5 l0_5.length c0_5) := (blk_cell BK47001.out 5).trans rfl
           have hcz31_6 : wr.cell? ⟨gb47001, 6, none⟩ = some (.int .i64 a0_6) := (blk_cell BK47001.out 6).trans rfl
           have hcz31_7 : wr.cell? ⟨gb47001, 7, none⟩ = some (.slice A0_7 l0_7.length c0_7) := (blk_cell BK47001.out 7).trans rfl
           have hcz31_8 : wr.cell? ⟨gb47001, 8, none⟩ = some (.int .i64 a0_8) := (blk_cell BK47001.out 8).trans rfl
           have hcz31_9 : wr.cell? ⟨gb47001, 9, none⟩ = some (.string a0_9) := (blk_cell BK47001.out 9).trans rfl
           have hfz31_0 := blk_frozen BK47001.out 0
           have hfz31_1 := blk_frozen BK47001.out 1
           have hfz31_2 := blk_frozen BK47001.out 2
           have hfz31_3 := blk_frozen BK47001.out 3
           have hfz31_4 := blk_frozen BK47001.out 4
           have hfz31_5 := blk_frozen BK47001.out 5
           have hfz31_6 := blk_frozen BK47001.out 6
           have hfz31_7 := blk_frozen BK47001.out 7
           have hfz31_8 := blk_frozen BK47001.out 8
           have hfz31_9 := blk_frozen BK47001.out 9
           go_wp2_with (first | ((with_reducible refine gate_callee (f := 78) rfl ?_); refine goesL_ (some 47) rfl rfl Try.func78 (by kernel_rfl) rfl #[.slice A0_7 l0_7.length c0_7, .int .i64 x41_3] rfl (by (try simp only [List.map_toArray, List.map_cons, List.map_nil]); first | done | rfl | (simp only [List.length_drop, List.length_take]; rfl)) ?_; (with_reducible refine (dict_ends.calls k3 _ _ l0_7 x41_3 true _ ?side1 ?side2 A29.out).mono ?_); (case side1 => repeat (first | exact (Kd.C_below HR0_7.out HB.out) | (with_reducible refine Kd.C_alloc ?_ _) | (with_reducible refine Kd.C_drewN ?_ _) | (with_reducible refine Kd.C_drew ?_))); (case side2 => exact HC0_7.out); rintro e w' ⟨rfl, ⟨nd, rfl⟩⟩; refine ⟨_, rfl, ?_⟩))
           go_roundg k3
           case measure => have := HJ1.out; have := HK2.out; have := HK3.out; omega
           case rel => exact ⟨(wrap64 (x41_3 + 1)), (by first | rfl | (simp; done) | (simp [*]; done)), H', ⟨by have := HJ1.out; have := HK2.out; have := HK3.out; omega⟩, ⟨by (with_reducible repeat (first | refine blk_drewN ?_ _ | refine blk_drew ?_ | refine blk_alloc ?_ _)); exact BK47001.out⟩, ⟨by repeat (first | (with_reducible first | exact HB.out | apply below_alloc | apply pw_below_drewN | apply below_drew1 | refine below_set ?_ GE47001.out) | exact HB.out)⟩⟩
          ·replace c30 := Bool.eq_false_iff.mpr c30
           subst c30
           have H1 : (some false) = some r := by rw [if_neg (show ¬ (false = true) by decide)] at H; exact H
           clear H
           have H := H1
           clear H1
           obtain rfl := Option.some.inj H
           have hcz32_0 : wr.cell? ⟨gb47001, 0, none⟩ = some (.slice A0_0 l0_0.length c0_0) := (blk_cell BK47001.out 0).trans rfl
           have hcz32_1 : wr.cell? ⟨gb47001, 1, none⟩ = some (.slice A0_1 l0_1.length c0_1) := (blk_cell BK47001.out 1).trans rfl
           have hcz32_2 : wr.cell? ⟨gb47001, 2, none⟩ = some (.slice A0_2 l0_2.length c0_2) := (blk_cell BK47001.out 2).trans rfl
           have hcz32_3 : wr.cell? ⟨gb47001, 3, none⟩ = some (.slice A0_3 l0_3.length c0_3) := (blk_cell BK47001.out 3).trans rfl
           have hcz32_4 : wr.cell? ⟨gb47001, 4, none⟩ = some (.int .u32 a0_4) := (blk_cell BK47001.out 4).trans rfl
           have hcz32_5 : wr.cell? ⟨gb47001, 5, none⟩ = some (.slice A0_5 l0_5.length c0_5) := (blk_cell BK47001.out 5).trans rfl
           have hcz32_6 : wr.cell? ⟨gb47001, 6, none⟩ = some (.int .i64 a0_6) := (blk_cell BK47001.out 6).trans rfl
           have hcz32_7 : wr.cell? ⟨gb47001, 7, none⟩ = some (.slice A0_7 l0_7.length c0_7) := (blk_cell BK47001.out 7).trans rfl
           have hcz32_8 : wr.cell? ⟨gb47001, 8, none⟩ = some (.int .i64 a0_8) := (blk_cell BK47001.out 8).trans rfl
           have hcz32_9 : wr.cell? ⟨gb47001, 9, none⟩ = some (.string a0_9) := (blk_cell BK47001.out 9).trans rfl
           have hfz32_0 := blk_frozen BK47001.out 0
           have hfz32_1 := blk_frozen BK47001.out 1
           have hfz32_2 := blk_frozen BK47001.out 2
           have hfz32_3 := blk_frozen BK47001.out 3
           have hfz32_4 := blk_frozen BK47001.out 4
           have hfz32_5 := blk_frozen BK47001.out 5
           have hfz32_6 := blk_frozen BK47001.out 6
           have hfz32_7 := blk_frozen BK47001.out 7
           have hfz32_8 := blk_frozen BK47001.out 8
           have hfz32_9 := blk_frozen BK47001.out 9
           go_wp2_with (first | ((with_reducible refine gate_callee (f := 78) rfl ?_); refine goesL_ (some 47) rfl rfl Try.func78 (by kernel_rfl) rfl #[.slice A0_7 l0_7.length c0_7, .int .i64 x41_3] rfl (by (try simp only [List.map_toArray, List.map_cons, List.map_nil]); first | done | rfl | (simp only [List.length_drop, List.length_take]; rfl)) ?_; (with_reducible refine (dict_ends.calls k3 _ _ l0_7 x41_3 false _ ?side1 ?side2 A29.out).mono ?_); (case side1 => repeat (first | exact (Kd.C_below HR0_7.out HB.out) | (with_reducible refine Kd.C_alloc ?_ _) | (with_reducible refine Kd.C_drewN ?_ _) | (with_reducible refine Kd.C_drew ?_))); (case side2 => exact HC0_7.out); rintro e w' ⟨rfl, ⟨nd, rfl⟩⟩; refine ⟨_, rfl, ?_⟩))
           go_ret
           exact ⟨by first | rfl | (simp [errW_none, errW_some] <;> rfl) | (simp [*, errW_none, errW_some] <;> rfl), by repeat (first | (with_reducible first | exact HB.out | apply below_alloc | apply pw_below_drewN | apply below_drew1 | refine below_set ?_ GE47001.out) | exact HB.out)⟩
         ·rw [if_neg c28] at H
          have c28b0 : decide (x41_3 < (l0_7.length : Int)) = false := decide_eq_false c28
          clear c28
          obtain rfl := Option.some.inj H
          go_wp2
          go_ret
          exact ⟨by first | rfl | (simp [errW_none, errW_some] <;> rfl) | (simp [*, errW_none, errW_some] <;> rfl), by repeat (first | (with_reducible first | exact HB.out | apply below_alloc | apply pw_below_drewN | apply below_drew1 | refine below_set ?_ GE47001.out) | exact HB.out)⟩

end Go.Proofs.Ytfpkakedlapmkaa.Q
end
section
namespace Go.Proofs.Ytfpkakedlapmkaa.Q
open Go.RowKit Go.Proofs.YtfpkakedlapmkaaW.PrintWords Go.Proofs.YtfpkakedlapmkaaW.PrintLast Go.Proofs.YtfpkakedlapmkaaW.PrintMore
set_option linter.unusedVariables false
set_option linter.unusedSimpArgs false

attribute [local go_sem] max2_int min2_int max_two min_two max_three min_three max_four min_four
/-! ### tinderref03_Same: function 66 -/
def tinderref03_Same.l0 : Nat → List Int → List Int → Int → Option (Bool)
 | 0, _, _, _ => none
 | k + 1, x0, x1, x5 => if x5 < (x0.length : Int) then (if 0 ≤ x5 then (if x5 < (x1.length : Int) then (if (rd x0 x5) = (rd x1 x5) then (tinderref03_Same.l0 k x0 x1 (wrap64 (x5 + 1))) else (some false)) else (none)) else (none)) else (some true)
def tinderref03_Same.f (k : Nat) (l0 : List Int) (l1 : List Int) : Option (Bool) := if (l0.length : Int) = (l1.length : Int) then (tinderref03_Same.l0 k l0 l1 0) else (some false)
set_option maxHeartbeats 8000000 in
set_option maxRecDepth 100000 in
theorem tinderref03_Same.calls (k : Nat) (A0 : Option Addr) (c0 : Nat) (l0 : List Int) (A1 : Option Addr) (c1 : Nat) (l1 : List Int) (r : Bool) (w : World) (hr0 : Kd.C (Kd.int .u32) w A0 l0.length l0) (hc0 : l0.length ≤ c0) (hr1 : Kd.C (Kd.int .u32) w A1 l1.length l1) (hc1 : l1.length ≤ c1) (h : tinderref03_Same.f k l0 l1 = some r) :
  Calls Try.prog 66 #[.slice A0 l0.length c0, .slice A1 l1.length c1] w fun e w' => e = .returned (.bool r) ∧ Drawn0 w w' := by
 have HR0 := Aside0.mk hr0
 have HC0 := Aside0.mk hc0
 clear hr0 hc0
 have HR1 := Aside0.mk hr1
 have HC1 := Aside0.mk hc1
 clear hr1 hc1
 have H : (if (l0.length : Int) = (l1.length : Int) then (tinderref03_Same.l0 k l0 l1 0) else (some false)) = some r := h
 clear h
 by_cases c3 : (l0.length : Int) = (l1.length : Int)
 ·rw [if_pos c3] at H
  have c3b0 : ((l0.length : Int) == (l1.length : Int)) = true := beq_iff_eq.mpr c3
  have c3b1 : ((l0.length : Int) != (l1.length : Int)) = false := bne_eq_false_iff_eq.mpr c3
  have c3b2 : (l0.length == l1.length) = true := by first | simpa using c3 | (simp at c3 ⊢; omega)
  clear c3
  have H' := Aside0.mk H
  clear H
  go_enter Try.func66, Try.ntmps66
  go_wp2
  repeat (go_quiet (fail); try go_wp2)
  go_loopg [5] k (fun kq v5 w' => ∃ (x5_1 : Int), v5 = .int .i64 x5_1 ∧ Aside0 (tinderref03_Same.l0 kq l0 l1 x5_1 = some r) ∧ Aside0 (kq ≤ k) ∧ Drawn0 w w')
  case atStart => exact ⟨(0), (by first | rfl | (simp; done) | (simp [*]; done)), H', ⟨Nat.le_refl _⟩, by repeat (first | exact Drawn0.refl _ | apply Drawn0.step)⟩
  case round =>
   clear H'
   try clear c1
   try clear p2
   try clear c3
   try clear c3b0
   try clear c3b1
   try clear c3b2
   obtain ⟨x5_1, rfl, HA, HK1, ⟨m1, rfl⟩⟩ := hrel
   cases gk with
   | zero => exact absurd HA.out (by simp [tinderref03_Same.l0])
   | succ k1 =>
    have H := HA.out
    clear HA
    simp only [tinderref03_Same.l0] at H
    by_cases c4 : x5_1 < (l0.length : Int)
    ·rw [if_pos c4] at H
     have c4b0 : decide (x5_1 < (l0.length : Int)) = true := decide_eq_true c4
     clear c4
     by_cases c5 : 0 ≤ x5_1
     ·rw [if_pos c5] at H
      have c5b0 : decide (0 ≤ x5_1) = true := decide_eq_true c5
      clear c5
      by_cases c6 : x5_1 < (l1.length : Int)
      ·rw [if_pos c6] at H
       have c6b0 : decide (x5_1 < (l1.length : Int)) = true := decide_eq_true c6
       clear c6
       by_cases c7 : (rd l0 x5_1) = (rd l1 x5_1)
       ·rw [if_pos c7] at H
        have c7b0 : ((rd l0 x5_1) == (rd l1 x5_1)) = true := beq_iff_eq.mpr c7
        have c7b1 : ((rd l0 x5_1) != (rd l1 x5_1)) = false := bne_eq_false_iff_eq.mpr c7
        clear c7
        have H' := Aside0.mk H
        clear H
        have p67001 : 0 ≤ (x5_1 : Int) := of_decide_eq_true (by first | (with_reducible assumption) | assumption)
        have q67001 : x5_1 < (l0.length : Int) := of_decide_eq_true (by first | (with_reducible assumption) | assumption)
        obtain ⟨ad67001, e67001, hx67001_0⟩ := Kd.at_int HR0.out x5_1 p67001 q67001
        cases e67001
        replace p67001 := eq_true p67001
        replace q67001 := eq_true q67001
        have p67002 : 0 ≤ (x5_1 : Int) := of_decide_eq_true (by first | (with_reducible assumption) | assumption)
        have q67002 : x5_1 < (l1.length : Int) := of_decide_eq_true (by first | (with_reducible assumption) | assumption)
        obtain ⟨ad67002, e67002, hx67002_0⟩ := Kd.at_int HR1.out x5_1 p67002 q67002
        cases e67002
        replace p67002 := eq_true p67002
        replace q67002 := eq_true q67002
        go_wp2
        repeat (go_quiet (fail); try go_wp2)
        go_roundg k1
        case measure => have := HK1.out; omega
        case rel => exact ⟨(wrap64 (x5_1 + 1)), (by first | rfl | (simp; done) | (simp [*]; done)), H', ⟨by have := HK1.out; omega⟩, by repeat (first | exact Drawn0.refl _ | apply Drawn0.step)⟩
       ·rw [if_neg c7] at H
        have c7b0 : ((rd l0 x5_1) == (rd l1 x5_1)) = false := beq_eq_false_iff_ne.mpr c7
        have c7b1 : ((rd l0 x5_1) != (rd l1 x5_1)) = true := bne_iff_ne.mpr c7
        obtain rfl := Option.some.inj H
        have p67001 : 0 ≤ (x5_1 : Int) := of_decide_eq_true (by first | (with_reducible assumption) | assumption)
        have q67001 : x5_1 < (l0.length : Int) := of_decide_eq_true (by first | (with_reducible assumption) | assumption)
        obtain ⟨ad67001, e67001, hx67001_0⟩ := Kd.at_int HR0.out x5_1 p67001 q67001
        cases e67001
        replace p67001 := eq_true p67001
        replace q67001 := eq_true q67001
        have p67002 : 0 ≤ (x5_1 : Int) := of_decide_eq_true (by first | (with_reducible assumption) | assumption)
        have q67002 : x5_1 < (l1.length : Int) := of_decide_eq_true (by first | (with_reducible assumption) | assumption)
        obtain ⟨ad67002, e67002, hx67002_0⟩ := Kd.at_int HR1.out x5_1 p67002 q67002
        cases e67002
        replace p67002 := eq_true p67002
        replace q67002 := eq_true q67002
        go_wp2
        repeat (go_quiet (fail); try go_wp2)
        go_ret
        exact ⟨by first | rfl | (simp; done) | (simp [*]; done), by repeat (first | exact Drawn0.refl _ | apply Drawn0.step)⟩
      ·rw [if_neg c6] at H
       exact absurd H (by simp)
     ·rw [if_neg c5] at H
      exact absurd H (by simp)
    ·rw [if_neg c4] at H
     have c4b0 : decide (x5_1 < (l0.length : Int)) = false := decide_eq_false c4
     clear c4
     obtain rfl := Option.some.inj H
     go_wp2
     repeat (go_quiet (fail); try go_wp2)
     go_ret
     exact ⟨by first | rfl | (simp; done) | (simp [*]; done), by repeat (first | exact Drawn0.refl _ | apply Drawn0.step)⟩
 ·rw [if_neg c3] at H
  have c3b0 : ((l0.length : Int) == (l1.length : Int)) = false := beq_eq_false_iff_ne.mpr c3
  have c3b1 : ((l0.length : Int) != (l1.length : Int)) = true := bne_iff_ne.mpr c3
  have c3b2 : (l0.length == l1.length) = false := by first | simpa using c3 | (simp at c3 ⊢; omega)
  obtain rfl := Option.some.inj H
  go_enter Try.func66, Try.ntmps66
  go_wp2
  repeat (go_quiet (fail); try go_wp2)
  go_ret
  exact ⟨by first | rfl | (simp; done) | (simp [*]; done), by repeat (first | exact Drawn0.refl _ | apply Drawn0.step)⟩

end Go.Proofs.Ytfpkakedlapmkaa.Q
end
section
namespace Go.Proofs.Ytfpkakedlapmkaa.Q
open Go.RowKit Go.Proofs.YtfpkakedlapmkaaW.PrintWords Go.Proofs.YtfpkakedlapmkaaW.PrintLast Go.Proofs.YtfpkakedlapmkaaW.PrintMore
set_option linter.unusedVariables false
set_option linter.unusedSimpArgs false

attribute [local go_sem] max2_int min2_int max_two min_two max_three min_three max_four min_four
/-! ### tinderref09_SameInst: function 69 -/
def tinderref09_SameInst.f (k : Nat) (a0_0 : Int) (a0_1 : Int) (a0_2 : ByteArray) (l0_3 : List Int) (a1_0 : Int) (a1_1 : Int) (a1_2 : ByteArray) (l1_3 : List Int) : Option (Bool) := if a0_0 = a1_0 then (if a0_1 = a1_1 then (if a0_2.toList = a1_2.toList then ((tinderref03_Same.f k l0_3 l1_3).bind fun t70003 => (some t70003)) else (some false)) else (some false)) else (some false)
set_option maxHeartbeats 8000000 in
set_option maxRecDepth 100000 in
theorem tinderref09_SameInst.calls (k : Nat) (a0_0 : Int) (a0_1 : Int) (a0_2 : ByteArray) (A0_3 : Option Addr) (c0_3 : Nat) (l0_3 : List Int) (a1_0 : Int) (a1_1 : Int) (a1_2 : ByteArray) (A1_3 : Option Addr) (c1_3 : Nat) (l1_3 : List Int) (r : Bool) (w : World) (hr0_3 : Kd.C (Kd.int .u32) w A0_3 l0_3.length l0_3) (hc0_3 : l0_3.length ≤ c0_3) (hr1_3 : Kd.C (Kd.int .u32) w A1_3 l1_3.length l1_3) (hc1_3 : l1_3.length ≤ c1_3) (h : tinderref09_SameInst.f k a0_0 a0_1 a0_2 l0_3 a1_0 a1_1 a1_2 l1_3 = some r) :
  Calls Try.prog 69 #[.agg #[.int .i64 a0_0, .int .i64 a0_1, .string a0_2, .slice A0_3 l0_3.length c0_3], .agg #[.int .i64 a1_0, .int .i64 a1_1, .string a1_2, .slice A1_3 l1_3.length c1_3]] w fun e w' => e = .returned (.bool r) ∧ Below w.heap.size w w' := by
 have hu82 := Try.underlying82
 have HR0_3 := Aside0.mk hr0_3
 have HC0_3 := Aside0.mk hc0_3
 clear hr0_3 hc0_3
 have HR1_3 := Aside0.mk hr1_3
 have HC1_3 := Aside0.mk hc1_3
 clear hr1_3 hc1_3
 have HB := Aside0.mk (Below.refl w.heap.size w)
 have H : (if a0_0 = a1_0 then (if a0_1 = a1_1 then (if a0_2.toList = a1_2.toList then ((tinderref03_Same.f k l0_3 l1_3).bind fun t70003 => (some t70003)) else (some false)) else (some false)) else (some false)) = some r := h
 clear h
 by_cases c3 : a0_0 = a1_0
 ·rw [if_pos c3] at H
  have c3b0 : (a0_0 == a1_0) = true := beq_iff_eq.mpr c3
  have c3b1 : (a0_0 != a1_0) = false := bne_eq_false_iff_eq.mpr c3
  clear c3
  by_cases c4 : a0_1 = a1_1
  ·rw [if_pos c4] at H
   have c4b0 : (a0_1 == a1_1) = true := beq_iff_eq.mpr c4
   have c4b1 : (a0_1 != a1_1) = false := bne_eq_false_iff_eq.mpr c4
   clear c4
   by_cases c5 : a0_2.toList = a1_2.toList
   ·rw [if_pos c5] at H
    have c5b0 : (a0_2.toList == a1_2.toList) = true := beq_iff_eq.mpr c5
    have c5b1 : (a0_2.toList != a1_2.toList) = false := bne_eq_false_iff_eq.mpr c5
    clear c5
    replace H := Option.bind_eq_some_iff.mp H
    obtain ⟨t70003, A60, H⟩ := H
    replace H : (some t70003) = some r := H
    have A6 := Aside0.mk A60
    clear A60
    obtain rfl := Option.some.inj H
    go_enter Try.func69, Try.ntmps69
    go_wp2_with (first | ((with_reducible refine gate_dst (N := 2) rfl ?_); refine box_event ?hg (N := 2) ?hd (cs := #[.int .i64 a0_0, .int .i64 a0_1, .string a0_2, .slice A0_3 l0_3.length c0_3]) (t := 82) ?hr ?_; (case hd => rfl); (case hg => rfl); (case hr => first | (go_simp; done) | (go_simp; rfl)); intro gb70001 hg w7 hbox hb; have n0_ := Aside0.mk (below_step (by repeat (first | (with_reducible first | exact HB.out | apply below_alloc | apply pw_below_drewN | apply below_drew1) | exact HB.out)) hb); have n1_ := Aside0.mk (hbox); have n2_ := Aside0.mk ((by rw [hg]; exact (below_size (by repeat (first | (with_reducible first | exact HB.out | apply below_alloc | apply pw_below_drewN | apply below_drew1) | exact HB.out))) : w.heap.size ≤ gb70001)); have n3_ := Aside0.mk ((by rw [hg]; exact (below_size (by repeat (first | (with_reducible first | exact HB.out | apply below_alloc | apply pw_below_drewN | apply below_drew1) | exact HB.out))) : w.heap.size ≤ gb70001)); clear HB; have HB := n0_; have BK70001 := n1_; have GW70001 := n2_; have GE70001 := n3_; clear n0_ n1_ n2_ n3_; clear hb hbox hg) | ((with_reducible refine gate_dst (N := 3) rfl ?_); refine box_event ?hg (N := 3) ?hd (cs := #[.int .i64 a1_0, .int .i64 a1_1, .string a1_2, .slice A1_3 l1_3.length c1_3]) (t := 82) ?hr ?_; (case hd => rfl); (case hg => rfl); (case hr => first | (go_simp; done) | (go_simp; rfl)); intro gb70002 hg w8 hbox hb; have n0_ := Aside0.mk (blk_below (g := gb70001) (o := .cells #[.int .i64 a0_0, .int .i64 a0_1, .string a0_2, .slice A0_3 l0_3.length c0_3] 82 (0, 0)) (by (with_reducible repeat (first | refine blk_drewN ?_ _ | refine blk_drew ?_ | refine blk_alloc ?_ _)); exact BK70001.out) hb); have n1_ := Aside0.mk (below_step (by repeat (first | (with_reducible first | exact HB.out | apply below_alloc | apply pw_below_drewN | apply below_drew1 | refine below_set ?_ GE70001.out) | exact HB.out)) hb); have n2_ := Aside0.mk (hbox); have n3_ := Aside0.mk ((by rw [hg]; exact (below_size (by repeat (first | (with_reducible first | exact HB.out | apply below_alloc | apply pw_below_drewN | apply below_drew1 | refine below_set ?_ GE70001.out) | exact HB.out))) : w.heap.size ≤ gb70002)); have n4_ := Aside0.mk ((by rw [hg]; exact (below_size (by repeat (first | (with_reducible first | exact HB.out | apply below_alloc | apply pw_below_drewN | apply below_drew1 | refine below_set ?_ GE70001.out) | exact HB.out))) : w.heap.size ≤ gb70002)); have n5_ := Aside0.mk ((by rw [hg]; exact Nat.ne_of_lt (blk_lt (g := gb70001) (o := .cells #[.int .i64 a0_0, .int .i64 a0_1, .string a0_2, .slice A0_3 l0_3.length c0_3] 82 (0, 0)) (by (with_reducible repeat (first | refine blk_drewN ?_ _ | refine blk_drew ?_ | refine blk_alloc ?_ _)); exact BK70001.out)) : gb70001 ≠ gb70002)); have n6_ := Aside0.mk ((by rw [hg]; exact Nat.ne_of_gt (blk_lt (g := gb70001) (o := .cells #[.int .i64 a0_0, .int .i64 a0_1, .string a0_2, .slice A0_3 l0_3.length c0_3] 82 (0, 0)) (by (with_reducible repeat (first | refine blk_drewN ?_ _ | refine blk_drew ?_ | refine blk_alloc ?_ _)); exact BK70001.out)) : gb70002 ≠ gb70001)); clear BK70001; clear HB; have BK70001 := n0_; have HB := n1_; have BK70002 := n2_; have GW70002 := n3_; have GE70002 := n4_; have NB70001_70002 := n5_; have NB70002_70001 := n6_; clear n0_ n1_ n2_ n3_ n4_ n5_ n6_; clear hb hbox hg; have hnb9 := NB70001_70002.out; have hnc9 := NB70002_70001.out; have hcz10_0 : w8.cell? ⟨gb70001, 0, none⟩ = some (.int .i64 a0_0) := (blk_cell BK70001.out 0).trans rfl; have hcz10_1 : w8.cell? ⟨gb70001, 1, none⟩ = some (.int .i64 a0_1) := (blk_cell BK70001.out 1).trans rfl; have hcz10_2 : w8.cell? ⟨gb70001, 2, none⟩ = some (.string a0_2) := (blk_cell BK70001.out 2).trans rfl; have hcz10_3 : w8.cell? ⟨gb70001, 3, none⟩ = some (.slice A0_3 l0_3.length c0_3) := (blk_cell BK70001.out 3).trans rfl; have hfz10_0 := blk_frozen BK70001.out 0; have hfz10_1 := blk_frozen BK70001.out 1; have hfz10_2 := blk_frozen BK70001.out 2; have hfz10_3 := blk_frozen BK70001.out 3; have hcz11_0 : w8.cell? ⟨gb70002, 0, none⟩ = some (.int .i64 a1_0) := (blk_cell BK70002.out 0).trans rfl; have hcz11_1 : w8.cell? ⟨gb70002, 1, none⟩ = some (.int .i64 a1_1) := (blk_cell BK70002.out 1).trans rfl; have hcz11_2 : w8.cell? ⟨gb70002, 2, none⟩ = some (.string a1_2) := (blk_cell BK70002.out 2).trans rfl; have hcz11_3 : w8.cell? ⟨gb70002, 3, none⟩ = some (.slice A1_3 l1_3.length c1_3) := (blk_cell BK70002.out 3).trans rfl; have hfz11_0 := blk_frozen BK70002.out 0; have hfz11_1 := blk_frozen BK70002.out 1; have hfz11_2 := blk_frozen BK70002.out 2; have hfz11_3 := blk_frozen BK70002.out 3) | (go_at_call 66; (with_reducible refine (tinderref03_Same.calls k _ _ l0_3 _ _ l1_3 t70003 _ ?side1 ?side2 ?side3 ?side4 A6.out).mono ?_); (case side1 => repeat (first | exact (Kd.C_below HR0_3.out HB.out) | (with_reducible refine Kd.C_alloc ?_ _) | (with_reducible refine Kd.C_drewN ?_ _) | (with_reducible refine Kd.C_drew ?_))); (case side2 => exact HC0_3.out); (case side3 => repeat (first | exact (Kd.C_below HR1_3.out HB.out) | (with_reducible refine Kd.C_alloc ?_ _) | (with_reducible refine Kd.C_drewN ?_ _) | (with_reducible refine Kd.C_drew ?_))); (case side4 => exact HC1_3.out); rintro e w' ⟨rfl, ⟨nd, rfl⟩⟩))
    go_ret
    exact ⟨by first | rfl | (simp [errW_none, errW_some] <;> rfl) | (simp [*, errW_none, errW_some] <;> rfl), by repeat (first | (with_reducible first | exact HB.out | apply below_alloc | apply pw_below_drewN | apply below_drew1 | refine below_set ?_ GE70001.out | refine below_set ?_ GE70002.out) | exact HB.out)⟩
   ·rw [if_neg c5] at H
    have c5b0 : (a0_2.toList == a1_2.toList) = false := beq_eq_false_iff_ne.mpr c5
    have c5b1 : (a0_2.toList != a1_2.toList) = true := bne_iff_ne.mpr c5
    obtain rfl := Option.some.inj H
    go_enter Try.func69, Try.ntmps69
    go_wp2_with (first | ((with_reducible refine gate_dst (N := 2) rfl ?_); refine box_event ?hg (N := 2) ?hd (cs := #[.int .i64 a0_0, .int .i64 a0_1, .string a0_2, .slice A0_3 l0_3.length c0_3]) (t := 82) ?hr ?_; (case hd => rfl); (case hg => rfl); (case hr => first | (go_simp; done) | (go_simp; rfl)); intro gb70001 hg w12 hbox hb; have n0_ := Aside0.mk (below_step (by repeat (first | (with_reducible first | exact HB.out | apply below_alloc | apply pw_below_drewN | apply below_drew1) | exact HB.out)) hb); have n1_ := Aside0.mk (hbox); have n2_ := Aside0.mk ((by rw [hg]; exact (below_size (by repeat (first | (with_reducible first | exact HB.out | apply below_alloc | apply pw_below_drewN | apply below_drew1) | exact HB.out))) : w.heap.size ≤ gb70001)); have n3_ := Aside0.mk ((by rw [hg]; exact (below_size (by repeat (first | (with_reducible first | exact HB.out | apply below_alloc | apply pw_below_drewN | apply below_drew1) | exact HB.out))) : w.heap.size ≤ gb70001)); clear HB; have HB := n0_; have BK70001 := n1_; have GW70001 := n2_; have GE70001 := n3_; clear n0_ n1_ n2_ n3_; clear hb hbox hg) | ((with_reducible refine gate_dst (N := 3) rfl ?_); refine box_event ?hg (N := 3) ?hd (cs := #[.int .i64 a1_0, .int .i64 a1_1, .string a1_2, .slice A1_3 l1_3.length c1_3]) (t := 82) ?hr ?_; (case hd => rfl); (case hg => rfl); (case hr => first | (go_simp; done) | (go_simp; rfl)); intro gb70002 hg w13 hbox hb; have n0_ := Aside0.mk (blk_below (g := gb70001) (o := .cells #[.int .i64 a0_0, .int .i64 a0_1, .string a0_2, .slice A0_3 l0_3.length c0_3] 82 (0, 0)) (by (with_reducible repeat (first | refine blk_drewN ?_ _ | refine blk_drew ?_ | refine blk_alloc ?_ _)); exact BK70001.out) hb); have n1_ := Aside0.mk (below_step (by repeat (first | (with_reducible first | exact HB.out | apply below_alloc | apply pw_below_drewN | apply below_drew1 | refine below_set ?_ GE70001.out) | exact HB.out)) hb); have n2_ := Aside0.mk (hbox); have n3_ := Aside0.mk ((by rw [hg]; exact (below_size (by repeat (first | (with_reducible first | exact HB.out | apply below_alloc | apply pw_below_drewN | apply below_drew1 | refine below_set ?_ GE70001.out) | exact HB.out))) : w.heap.size ≤ gb70002)); have n4_ := Aside0.mk ((by rw [hg]; exact (below_size (by repeat (first | (with_reducible first | exact HB.out | apply below_alloc | apply pw_below_drewN | apply below_drew1 | refine below_set ?_ GE70001.out) | exact HB.out))) : w.heap.size ≤ gb70002)); have n5_ := Aside0.mk ((by rw [hg]; exact Nat.ne_of_lt (blk_lt (g := gb70001) (o := .cells #[.int .i64 a0_0, .int .i64 a0_1, .string a0_2, .slice A0_3 l0_3.length c0_3] 82 (0, 0)) (by (with_reducible repeat (first | refine blk_drewN ?_ _ | refine blk_drew ?_ | refine blk_alloc ?_ _)); exact BK70001.out)) : gb70001 ≠ gb70002)); have n6_ := Aside0.mk ((by rw [hg]; exact Nat.ne_of_gt (blk_lt (g := gb70001) (o := .cells #[.int .i64 a0_0, .int .i64 a0_1, .string a0_2, .slice A0_3 l0_3.length c0_3] 82 (0, 0)) (by (with_reducible repeat (first | refine blk_drewN ?_ _ | refine blk_drew ?_ | refine blk_alloc ?_ _)); exact BK70001.out)) : gb70002 ≠ gb70001)); clear BK70001; clear HB; have BK70001 := n0_; have HB := n1_; have BK70002 := n2_; have GW70002 := n3_; have GE70002 := n4_; have NB70001_70002 := n5_; have NB70002_70001 := n6_; clear n0_ n1_ n2_ n3_ n4_ n5_ n6_; clear hb hbox hg; have hnb14 := NB70001_70002.out; have hnc14 := NB70002_70001.out; have hcz15_0 : w13.cell? ⟨gb70001, 0, none⟩ = some (.int .i64 a0_0) := (blk_cell BK70001.out 0).trans rfl; have hcz15_1 : w13.cell? ⟨gb70001, 1, none⟩ = some (.int .i64 a0_1) := (blk_cell BK70001.out 1).trans rfl; have hcz15_2 : w13.cell? ⟨gb70001, 2, none⟩ = some (.string a0_2) := (blk_cell BK70001.out 2).trans rfl; have hcz15_3 : w13.cell? ⟨gb70001, 3, none⟩ = some (.slice A0_3 l0_3.length c0_3) := (blk_cell BK70001.out 3).trans rfl; have hfz15_0 := blk_frozen BK70001.out 0; have hfz15_1 := blk_frozen BK70001.out 1; have hfz15_2 := blk_frozen BK70001.out 2; have hfz15_3 := blk_frozen BK70001.out 3; have hcz16_0 : w13.cell? ⟨gb70002, 0, none⟩ = some (.int .i64 a1_0) := (blk_cell BK70002.out 0).trans rfl; have hcz16_1 : w13.cell? ⟨gb70002, 1, none⟩ = some (.int .i64 a1_1) := (blk_cell BK70002.out 1).trans rfl; have hcz16_2 : w13.cell? ⟨gb70002, 2, none⟩ = some (.string a1_2) := (blk_cell BK70002.out 2).trans rfl; have hcz16_3 : w13.cell? ⟨gb70002, 3, none⟩ = some (.slice A1_3 l1_3.length c1_3) := (blk_cell BK70002.out 3).trans rfl; have hfz16_0 := blk_frozen BK70002.out 0; have hfz16_1 := blk_frozen BK70002.out 1; have hfz16_2 := blk_frozen BK70002.out 2; have hfz16_3 := blk_frozen BK70002.out 3))
    go_ret
    exact ⟨by first | rfl | (simp [errW_none, errW_some] <;> rfl) | (simp [*, errW_none, errW_some] <;> rfl), by repeat (first | (with_reducible first | exact HB.out | apply below_alloc | apply pw_below_drewN | apply below_drew1 | refine below_set ?_ GE70001.out | refine below_set ?_ GE70002.out) | exact HB.out)⟩
  ·rw [if_neg c4] at H
   have c4b0 : (a0_1 == a1_1) = false := beq_eq_false_iff_ne.mpr c4
   have c4b1 : (a0_1 != a1_1) = true := bne_iff_ne.mpr c4
   obtain rfl := Option.some.inj H
   go_enter Try.func69, Try.ntmps69
   go_wp2_with (first | ((with_reducible refine gate_dst (N := 2) rfl ?_); refine box_event ?hg (N := 2) ?hd (cs := #[.int .i64 a0_0, .int .i64 a0_1, .string a0_2, .slice A0_3 l0_3.length c0_3]) (t := 82) ?hr ?_; (case hd => rfl); (case hg => rfl); (case hr => first | (go_simp; done) | (go_simp; rfl)); intro gb70001 hg w17 hbox hb; have n0_ := Aside0.mk (below_step (by repeat (first | (with_reducible first | exact HB.out | apply below_alloc | apply pw_below_drewN | apply below_drew1) | exact HB.out)) hb); have n1_ := Aside0.mk (hbox); have n2_ := Aside0.mk ((by rw [hg]; exact (below_size (by repeat (first | (with_reducible first | exact HB.out | apply below_alloc | apply pw_below_drewN | apply below_drew1) | exact HB.out))) : w.heap.size ≤ gb70001)); have n3_ := Aside0.mk ((by rw [hg]; exact (below_size (by repeat (first | (with_reducible first | exact HB.out | apply below_alloc | apply pw_below_drewN | apply below_drew1) | exact HB.out))) : w.heap.size ≤ gb70001)); clear HB; have HB := n0_; have BK70001 := n1_; have GW70001 := n2_; have GE70001 := n3_; clear n0_ n1_ n2_ n3_; clear hb hbox hg) | ((with_reducible refine gate_dst (N := 3) rfl ?_); refine box_event ?hg (N := 3) ?hd (cs := #[.int .i64 a1_0, .int .i64 a1_1, .string a1_2, .slice A1_3 l1_3.length c1_3]) (t := 82) ?hr ?_; (case hd => rfl); (case hg => rfl); (case hr => first | (go_simp; done) | (go_simp; rfl)); intro gb70002 hg w18 hbox hb; have n0_ := Aside0.mk (blk_below (g := gb70001) (o := .cells #[.int .i64 a0_0, .int .i64 a0_1, .string a0_2, .slice A0_3 l0_3.length c0_3] 82 (0, 0)) (by (with_reducible repeat (first | refine blk_drewN ?_ _ | refine blk_drew ?_ | refine blk_alloc ?_ _)); exact BK70001.out) hb); have n1_ := Aside0.mk (below_step (by repeat (first | (with_reducible first | exact HB.out | apply below_alloc | apply pw_below_drewN | apply below_drew1 | refine below_set ?_ GE70001.out) | exact HB.out)) hb); have n2_ := Aside0.mk (hbox); have n3_ := Aside0.mk ((by rw [hg]; exact (below_size (by repeat (first | (with_reducible first | exact HB.out | apply below_alloc | apply pw_below_drewN | apply below_drew1 | refine below_set ?_ GE70001.out) | exact HB.out))) : w.heap.size ≤ gb70002)); have n4_ := Aside0.mk ((by rw [hg]; exact (below_size (by repeat (first | (with_reducible first | exact HB.out | apply below_alloc | apply pw_below_drewN | apply below_drew1 | refine below_set ?_ GE70001.out) | exact HB.out))) : w.heap.size ≤ gb70002)); have n5_ := Aside0.mk ((by rw [hg]; exact Nat.ne_of_lt (blk_lt (g := gb70001) (o := .cells #[.int .i64 a0_0, .int .i64 a0_1, .string a0_2, .slice A0_3 l0_3.length c0_3] 82 (0, 0)) (by (with_reducible repeat (first | refine blk_drewN ?_ _ | refine blk_drew ?_ | refine blk_alloc ?_ _)); exact BK70001.out)) : gb70001 ≠ gb70002)); have n6_ := Aside0.mk ((by rw [hg]; exact Nat.ne_of_gt (blk_lt (g := gb70001) (o := .cells #[.int .i64 a0_0, .int .i64 a0_1, .string a0_2, .slice A0_3 l0_3.length c0_3] 82 (0, 0)) (by (with_reducible repeat (first | refine blk_drewN ?_ _ | refine blk_drew ?_ | refine blk_alloc ?_ _)); exact BK70001.out)) : gb70002 ≠ gb70001)); clear BK70001; clear HB; have BK70001 := n0_; have HB := n1_; have BK70002 := n2_; have GW70002 := n3_; have GE70002 := n4_; have NB70001_70002 := n5_; have NB70002_70001 := n6_; clear n0_ n1_ n2_ n3_ n4_ n5_ n6_; clear hb hbox hg; have hnb19 := NB70001_70002.out; have hnc19 := NB70002_70001.out; have hcz20_0 : w18.cell? ⟨gb70001, 0, none⟩ = some (.int .i64 a0_0) := (blk_cell BK70001.out 0).trans rfl; have hcz20_1 : w18.cell? ⟨gb70001, 1, none⟩ = some (.int .i64 a0_1) := (blk_cell BK70001.out 1).trans rfl; have hcz20_2 : w18.cell? ⟨gb70001, 2, none⟩ = some (.string a0_2) := (blk_cell BK70001.out 2).trans rfl; have hcz20_3 : w18.cell? ⟨gb70001, 3, none⟩ = some (.slice A0_3 l0_3.length c0_3) := (blk_cell BK70001.out 3).trans rfl; have hfz20_0 := blk_frozen BK70001.out 0; have hfz20_1 := blk_frozen BK70001.out 1; have hfz20_2 := blk_frozen BK70001.out 2; have hfz20_3 := blk_frozen BK70001.out 3; have hcz21_0 : w18.cell? ⟨gb70002, 0, none⟩ = some (.int .i64 a1_0) := (blk_cell BK70002.out 0).trans rfl; have hcz21_1 : w18.cell? ⟨gb70002, 1, none⟩ = some (.int .i64 a1_1) := (blk_cell BK70002.out 1).trans rfl; have hcz21_2 : w18.cell? ⟨gb70002, 2, none⟩ = some (.string a1_2) := (blk_cell BK70002.out 2).trans rfl; have hcz21_3 : w18.cell? ⟨gb70002, 3, none⟩ = some (.slice A1_3 l1_3.length c1_3) := (blk_cell BK70002.out 3).trans rfl; have hfz21_0 := blk_frozen BK70002.out 0; have hfz21_1 := blk_frozen BK70002.out 1; have hfz21_2 := blk_frozen BK70002.out 2; have hfz21_3 := blk_frozen BK70002.out 3))
   go_ret
   exact ⟨by first | rfl | (simp [errW_none, errW_some] <;> rfl) | (simp [*, errW_none, errW_some] <;> rfl), by repeat (first | (with_reducible first | exact HB.out | apply below_alloc | apply pw_below_drewN | apply below_drew1 | refine below_set ?_ GE70001.out | refine below_set ?_ GE70002.out) | exact HB.out)⟩
 ·rw [if_neg c3] at H
  have c3b0 : (a0_0 == a1_0) = false := beq_eq_false_iff_ne.mpr c3
  have c3b1 : (a0_0 != a1_0) = true := bne_iff_ne.mpr c3
  obtain rfl := Option.some.inj H
  go_enter Try.func69, Try.ntmps69
  go_wp2_with (first | ((with_reducible refine gate_dst (N := 2) rfl ?_); refine box_event ?hg (N := 2) ?hd (cs := #[.int .i64 a0_0, .int .i64 a0_1, .string a0_2, .slice A0_3 l0_3.length c0_3]) (t := 82) ?hr ?_; (case hd => rfl); (case hg => rfl); (case hr => first | (go_simp; done) | (go_simp; rfl)); intro gb70001 hg w22 hbox hb; have n0_ := Aside0.mk (below_step (by repeat (first | (with_reducible first | exact HB.out | apply below_alloc | apply pw_below_drewN | apply below_drew1) | exact HB.out)) hb); have n1_ := Aside0.mk (hbox); have n2_ := Aside0.mk ((by rw [hg]; exact (below_size (by repeat (first | (with_reducible first | exact HB.out | apply below_alloc | apply pw_below_drewN | apply below_drew1) | exact HB.out))) : w.heap.size ≤ gb70001)); have n3_ := Aside0.mk ((by rw [hg]; exact (below_size (by repeat (first | (with_reducible first | exact HB.out | apply below_alloc | apply pw_below_drewN | apply below_drew1) | exact HB.out))) : w.heap.size ≤ gb70001)); clear HB; have HB := n0_; have BK70001 := n1_; have GW70001 := n2_; have GE70001 := n3_; clear n0_ n1_ n2_ n3_; clear hb hbox hg) | ((with_reducible refine gate_dst (N := 3) rfl ?_); refine box_event ?hg (N := 3) ?hd (cs := #[.int .i64 a1_0, .int .i64 a1_1, .string a1_2, .slice A1_3 l1_3.length c1_3]) (t := 82) ?hr ?_; (case hd => rfl); (case hg => rfl); (case hr => first | (go_simp; done) | (go_simp; rfl)); intro gb70002 hg w23 hbox hb; have n0_ := Aside0.mk (blk_below (g := gb70001) (o := .cells #[.int .i64 a0_0, .int .i64 a0_1, .string a0_2, .slice A0_3 l0_3.length c0_3] 82 (0, 0)) (by (with_reducible repeat (first | refine blk_drewN ?_ _ | refine blk_drew ?_ | refine blk_alloc ?_ _)); exact BK70001.out) hb); have n1_ := Aside0.mk (below_step (by repeat (first | (with_reducible first | exact HB.out | apply below_alloc | apply pw_below_drewN | apply below_drew1 | refine below_set ?_ GE70001.out) | exact HB.out)) hb); have n2_ := Aside0.mk (hbox); have n3_ := Aside0.mk ((by rw [hg]; exact (below_size (by repeat (first | (with_reducible first | exact HB.out | apply below_alloc | apply pw_below_drewN | apply below_drew1 | refine below_set ?_ GE70001.out) | exact HB.out))) : w.heap.size ≤ gb70002)); have n4_ := Aside0.mk ((by rw [hg]; exact (below_size (by repeat (first | (with_reducible first | exact HB.out | apply below_alloc | apply pw_below_drewN | apply below_drew1 | refine below_set ?_ GE70001.out) | exact HB.out))) : w.heap.size ≤ gb70002)); have n5_ := Aside0.mk ((by rw [hg]; exact Nat.ne_of_lt (blk_lt (g := gb70001) (o := .cells #[.int .i64 a0_0, .int .i64 a0_1, .string a0_2, .slice A0_3 l0_3.length c0_3] 82 (0, 0)) (by (with_reducible repeat (first | refine blk_drewN ?_ _ | refine blk_drew ?_ | refine blk_alloc ?_ _)); exact BK70001.out)) : gb70001 ≠ gb70002)); have n6_ := Aside0.mk ((by rw [hg]; exact Nat.ne_of_gt (blk_lt (g := gb70001) (o := .cells #[.int .i64 a0_0, .int .i64 a0_1, .string a0_2, .slice A0_3 l0_3.length c0_3] 82 (0, 0)) (by (with_reducible repeat (first | refine blk_drewN ?_ _ | refine blk_drew ?_ | refine blk_alloc ?_ _)); exact BK70001.out)) : gb70002 ≠ gb70001)); clear BK70001; clear HB; have BK70001 := n0_; have HB := n1_; have BK70002 := n2_; have GW70002 := n3_; have GE70002 := n4_; have NB70001_70002 := n5_; have NB70002_70001 := n6_; clear n0_ n1_ n2_ n3_ n4_ n5_ n6_; clear hb hbox hg; have hnb24 := NB70001_70002.out; have hnc24 := NB70002_70001.out; have hcz25_0 : w23.cell? ⟨gb70001, 0, none⟩ = some (.int .i64 a0_0) := (blk_cell BK70001.out 0).trans rfl; have hcz25_1 : w23.cell? ⟨gb70001, 1, none⟩ = some (.int .i64 a0_1) := (blk_cell BK70001.out 1).trans rfl; have hcz25_2 : w23.cell? ⟨gb70001, 2, none⟩ = some (.string a0_2) := (blk_cell BK70001.out 2).trans rfl; have hcz25_3 : w23.cell? ⟨gb70001, 3, none⟩ = some (.slice A0_3 l0_3.length c0_3) := (blk_cell BK70001.out 3).trans rfl; have hfz25_0 := blk_frozen BK70001.out 0; have hfz25_1 := blk_frozen BK70001.out 1; have hfz25_2 := blk_frozen BK70001.out 2; have hfz25_3 := blk_frozen BK70001.out 3; have hcz26_0 : w23.cell? ⟨gb70002, 0, none⟩ = some (.int .i64 a1_0) := (blk_cell BK70002.out 0).trans rfl; have hcz26_1 : w23.cell? ⟨gb70002, 1, none⟩ = some (.int .i64 a1_1) := (blk_cell BK70002.out 1).trans rfl; have hcz26_2 : w23.cell? ⟨gb70002, 2, none⟩ = some (.string a1_2) := (blk_cell BK70002.out 2).trans rfl; have hcz26_3 : w23.cell? ⟨gb70002, 3, none⟩ = some (.slice A1_3 l1_3.length c1_3) := (blk_cell BK70002.out 3).trans rfl; have hfz26_0 := blk_frozen BK70002.out 0; have hfz26_1 := blk_frozen BK70002.out 1; have hfz26_2 := blk_frozen BK70002.out 2; have hfz26_3 := blk_frozen BK70002.out 3))
  go_ret
  exact ⟨by first | rfl | (simp [errW_none, errW_some] <;> rfl) | (simp [*, errW_none, errW_some] <;> rfl), by repeat (first | (with_reducible first | exact HB.out | apply below_alloc | apply pw_below_drewN | apply below_drew1 | refine below_set ?_ GE70001.out | refine below_set ?_ GE70002.out) | exact HB.out)⟩

end Go.Proofs.Ytfpkakedlapmkaa.Q
end
section
namespace Go.Proofs.Ytfpkakedlapmkaa.Q
open Go.RowKit Go.Proofs.YtfpkakedlapmkaaW.PrintWords Go.Proofs.YtfpkakedlapmkaaW.PrintLast Go.Proofs.YtfpkakedlapmkaaW.PrintMore
set_option linter.unusedVariables false
set_option linter.unusedSimpArgs false

attribute [local go_sem] max2_int min2_int max_two min_two max_three min_three max_four min_four
/-! ### tinderref07_Place: function 85 -/
def tinderref07_Place.l0 : Nat → ByteArray → Int → Int → Option (Int)
 | 0, _, _, _ => none
 | k + 1, x0, x1, x2 => if x1 < (x0.size : Int) then (if 0 ≤ x1 then (if (bt x0 x1) = x2 then (some x1) else (tinderref07_Place.l0 k x0 (wrap64 (x1 + 1)) x2)) else (none)) else (some x1)
def tinderref07_Place.f (k : Nat) (a0 : ByteArray) (a1 : Int) (a2 : Int) : Option (Int) := tinderref07_Place.l0 k a0 a1 a2
set_option maxHeartbeats 8000000 in
set_option maxRecDepth 100000 in
theorem tinderref07_Place.calls (k : Nat) (a0 : ByteArray) (a1 : Int) (a2 : Int) (r : Int) (w : World) (h : tinderref07_Place.f k a0 a1 a2 = some r) :
  Calls Try.prog 85 #[.string a0, .int .i64 a1, .int .u8 a2] w fun e w' => e = .returned (.int .i64 r) ∧ Drawn0 w w' := by
 have H : (tinderref07_Place.l0 k a0 a1 a2) = some r := h
 clear h
 have H' := Aside0.mk H
 clear H
 go_enter Try.func85, Try.ntmps85
 go_wp2
 go_loopg [1] k (fun kq v1 w' => ∃ (x1_1 : Int), v1 = .int .i64 x1_1 ∧ Aside0 (tinderref07_Place.l0 kq a0 x1_1 a2 = some r) ∧ Aside0 (kq ≤ k) ∧ Drawn0 w w')
 case atStart => exact ⟨(a1), (by first | rfl | (simp; done) | (simp [*]; done)), H', ⟨Nat.le_refl _⟩, by repeat (first | exact Drawn0.refl _ | apply Drawn0.step)⟩
 case round =>
  clear H'
  try clear p2
  obtain ⟨x1_1, rfl, HA, HK1, ⟨m1, rfl⟩⟩ := hrel
  cases gk with
  | zero => exact absurd HA.out (by simp [tinderref07_Place.l0])
  | succ k1 =>
   have H := HA.out
   clear HA
   simp only [tinderref07_Place.l0] at H
   by_cases c4 : x1_1 < (a0.size : Int)
   ·rw [if_pos c4] at H
    have c4b0 : decide (x1_1 < (a0.size : Int)) = true := decide_eq_true c4
    clear c4
    by_cases c5 : 0 ≤ x1_1
    ·rw [if_pos c5] at H
     have c5b0 : decide (0 ≤ x1_1) = true := decide_eq_true c5
     clear c5
     by_cases c7 : (bt a0 x1_1) = a2
     ·rw [if_pos c7] at H
      have c7b0 : ((bt a0 x1_1) == a2) = true := beq_iff_eq.mpr c7
      have c7b1 : ((bt a0 x1_1) != a2) = false := bne_eq_false_iff_eq.mpr c7
      clear c7
      obtain rfl := Option.some.inj H
      have p6 : 0 ≤ (x1_1 : Int) := of_decide_eq_true (by first | (with_reducible assumption) | assumption)
      have q6 : x1_1 < (a0.size : Int) := of_decide_eq_true (by first | (with_reducible assumption) | assumption)
      have hx6 := bt_at a0 x1_1
      replace p6 := eq_true p6
      replace q6 := eq_true q6
      go_wp2
      go_ret
      exact ⟨by first | rfl | (simp; done) | (simp [*]; done), by repeat (first | exact Drawn0.refl _ | apply Drawn0.step)⟩
     ·rw [if_neg c7] at H
      have c7b0 : ((bt a0 x1_1) == a2) = false := beq_eq_false_iff_ne.mpr c7
      have c7b1 : ((bt a0 x1_1) != a2) = true := bne_iff_ne.mpr c7
      have H' := Aside0.mk H
      clear H
      have p6 : 0 ≤ (x1_1 : Int) := of_decide_eq_true (by first | (with_reducible assumption) | assumption)
      have q6 : x1_1 < (a0.size : Int) := of_decide_eq_true (by first | (with_reducible assumption) | assumption)
      have hx6 := bt_at a0 x1_1
      replace p6 := eq_true p6
      replace q6 := eq_true q6
      go_wp2
      go_roundg k1
      case measure => have := HK1.out; omega
      case rel => exact ⟨(wrap64 (x1_1 + 1)), (by first | rfl | (simp; done) | (simp [*]; done)), H', ⟨by have := HK1.out; omega⟩, by repeat (first | exact Drawn0.refl _ | apply Drawn0.step)⟩
    ·rw [if_neg c5] at H
     exact absurd H (by simp)
   ·rw [if_neg c4] at H
    have c4b0 : decide (x1_1 < (a0.size : Int)) = false := decide_eq_false c4
    clear c4
    obtain rfl := Option.some.inj H
    go_wp2
    go_ret
    exact ⟨by first | rfl | (simp; done) | (simp [*]; done), by repeat (first | exact Drawn0.refl _ | apply Drawn0.step)⟩

end Go.Proofs.Ytfpkakedlapmkaa.Q
end
section
namespace Go.Proofs.Ytfpkakedlapmkaa.Q
open Go.RowKit Go.Proofs.YtfpkakedlapmkaaW.PrintWords Go.Proofs.YtfpkakedlapmkaaW.PrintLast Go.Proofs.YtfpkakedlapmkaaW.PrintMore
set_option linter.unusedVariables false
set_option linter.unusedSimpArgs false

attribute [local go_sem] max2_int min2_int max_two min_two max_three min_three max_four min_four
/-! ### tinderref09_alive: function 51 -/
def tinderref09_alive.f (l0 : List (S82)) (a1 : Int) : Option (Bool) := if a1 ≥ 0 then (if a1 < (l0.length : Int) then (if 0 ≤ a1 then (some (decide (((rd_T82 l0 a1).f0) ≥ 0))) else (none)) else (some false)) else (some false)
set_option maxHeartbeats 8000000 in
set_option maxRecDepth 100000 in
theorem tinderref09_alive.calls (A0 : Option Addr) (c0 : Nat) (l0 : List (S82)) (a1 : Int) (r : Bool) (w : World) (hr0 : Kd.C k82 w A0 l0.length l0) (hc0 : l0.length ≤ c0) (h : tinderref09_alive.f l0 a1 = some r) :
  Calls Try.prog 51 #[.slice A0 l0.length c0, .int .i64 a1] w fun e w' => e = .returned (.bool r) ∧ Drawn0 w w' := by
 have HR0 := Aside0.mk hr0
 have HC0 := Aside0.mk hc0
 clear hr0 hc0
 have H : (if a1 ≥ 0 then (if a1 < (l0.length : Int) then (if 0 ≤ a1 then (some (decide (((rd_T82 l0 a1).f0) ≥ 0))) else (none)) else (some false)) else (some false)) = some r := h
 clear h
 by_cases c3 : a1 ≥ 0
 ·rw [if_pos c3] at H
  have c3b0 : decide (0 ≤ a1) = true := decide_eq_true c3
  clear c3
  by_cases c4 : a1 < (l0.length : Int)
  ·rw [if_pos c4] at H
   have c4b0 : decide (a1 < (l0.length : Int)) = true := decide_eq_true c4
   clear c4
   by_cases c5 : 0 ≤ a1
   ·rw [if_pos c5] at H
    have c5b0 : decide (0 ≤ a1) = true := decide_eq_true c5
    clear c5
    obtain rfl := Option.some.inj H
    have p52001 : 0 ≤ (a1 : Int) := of_decide_eq_true (by first | (with_reducible assumption) | assumption)
    have q52001 : a1 < (l0.length : Int) := of_decide_eq_true (by first | (with_reducible assumption) | assumption)
    obtain ⟨ad52001, A52001_3, c52001_3, e52001, hx52001_0, hx52001_1, hx52001_2, hx52001_3, hl52001_3, hi52001_3⟩ := at_T82 HR0.out a1 p52001 q52001
    cases e52001
    have HR52001_3 := Aside0.mk hi52001_3
    have HC52001_3 := Aside0.mk hl52001_3
    clear hi52001_3 hl52001_3
    replace p52001 := eq_true p52001
    replace q52001 := eq_true q52001
    go_enter Try.func51, Try.ntmps51
    go_wp2
    go_ret
    exact ⟨by first | rfl | (simp; done) | (simp [*]; done), by repeat (first | exact Drawn0.refl _ | apply Drawn0.step)⟩
   ·rw [if_neg c5] at H
    exact absurd H (by simp)
  ·rw [if_neg c4] at H
   have c4b0 : decide (a1 < (l0.length : Int)) = false := decide_eq_false c4
   clear c4
   obtain rfl := Option.some.inj H
   go_enter Try.func51, Try.ntmps51
   go_wp2
   go_ret
   exact ⟨by first | rfl | (simp; done) | (simp [*]; done), by repeat (first | exact Drawn0.refl _ | apply Drawn0.step)⟩
 ·rw [if_neg c3] at H
  have c3b0 : decide (0 ≤ a1) = false := decide_eq_false c3
  clear c3
  obtain rfl := Option.some.inj H
  go_enter Try.func51, Try.ntmps51
  go_wp2
  go_ret
  exact ⟨by first | rfl | (simp; done) | (simp [*]; done), by repeat (first | exact Drawn0.refl _ | apply Drawn0.step)⟩

end Go.Proofs.Ytfpkakedlapmkaa.Q
end
section
set_option linter.unusedVariables false
set_option linter.unusedSimpArgs false
namespace Go.Proofs.Ytfpkakedlapmkaa.Q
open Go.RowKit Go.Proofs.YtfpkakedlapmkaaW.PrintWords Go.Proofs.YtfpkakedlapmkaaW.PrintLast Go.Proofs.YtfpkakedlapmkaaW.PrintMore
def seg (cur : List Value) (sz j : Nat) : List Value := (cur.drop (j * sz)).take sz
theorem seg_get (cur : List Value) (sz j t : Nat) (ht : t < sz) : (seg cur sz j)[t]? = cur[j * sz + t]? := by
 unfold seg
 rw [List.getElem?_take, if_pos ht, List.getElem?_drop]
theorem seg_set (cur : List Value) (sz i m j : Nat) (v : Value) (hm : m < sz) : seg (cur.set (i * sz + m) v) sz j = if j = i then (seg cur sz j).set m v else seg cur sz j := by
 have key : ∀ t, t < sz → (i * sz + m = j * sz + t ↔ j = i ∧ t = m) := by
  intro t ht
  refine ⟨fun h => ?_, fun ⟨h1, h2⟩ => by rw [h1, h2]⟩
  rcases Nat.lt_trichotomy i j with hij | hij | hij
  ·have := Nat.mul_le_mul_right sz (show i + 1 ≤ j from hij)
   rw [Nat.add_mul, Nat.one_mul] at this
   omega
  ·subst hij
   exact ⟨rfl, by omega⟩
  ·have := Nat.mul_le_mul_right sz (show j + 1 ≤ i from hij)
   rw [Nat.add_mul, Nat.one_mul] at this
   omega
 apply List.ext_getElem?
 intro t
 by_cases ht : t < sz
 ·rw [seg_get _ _ _ _ ht, List.getElem?_set]
  by_cases hij : j = i
  ·rw [if_pos hij, List.getElem?_set, seg_get _ _ _ _ ht]
   by_cases htm : t = m
   ·have hp := (key t ht).2 ⟨hij, htm⟩
    rw [if_pos hp, if_pos htm.symm]
    have hlen : (seg cur sz j).length = min sz (cur.length - j * sz) := by unfold seg; rw [List.length_take, List.length_drop]
    by_cases hb : i * sz + m < cur.length
    ·rw [if_pos hb, if_pos (by rw [hlen]; omega)]
    ·rw [if_neg hb, if_neg (by rw [hlen]; omega)]
   ·rw [if_neg (fun h => htm ((key t ht).1 h).2), if_neg (fun h => htm h.symm)]
  ·rw [if_neg hij, if_neg (fun h => hij ((key t ht).1 h).1), seg_get _ _ _ _ ht]
 ·have h1 : ∀ c : List Value, (seg c sz j)[t]? = none := fun c => by unfold seg; rw [List.getElem?_take, if_neg ht]
  rw [h1]
  split
  ·rw [List.getElem?_set]
   split
   ·rw [if_neg (by unfold seg; rw [List.length_take]; omega)]
   ·exact (h1 _).symm
  ·exact (h1 _).symm
/-- The cells of what is read, element by element. -/
theorem C_raw {α : Type} {d : Kd α} {w : World} {A : Option Addr} {n : Nat} {xs : List α} (h : d.C w A n xs) :
  ∃ css : List (List Value), css.length = xs.length ∧ (Kd.raw d.sz).C w A n css ∧ ∀ (j : Nat) x c, xs[j]? = some x → css[j]? = some c → d.K w x c := by
 have h1 := h.1
 rcases Nat.eq_zero_or_pos n with hn | hn
 ·have : xs = [] := List.eq_nil_of_length_eq_zero (by omega)
  subst this
  exact ⟨[], rfl, ⟨h1, h.2.1, fun hp => by omega⟩, fun j x c hx => by simp at hx⟩
 ·obtain ⟨ad, rfl, _⟩ := h.2.2 hn
  obtain ⟨inner, hr, hc⟩ := ReadsRow.inner_ h
  have hat : ∀ (j : Nat) c, ((List.range xs.length).map fun j => seg inner d.sz j)[j]? = some c → j < xs.length ∧ c = seg inner d.sz j := by
   intro j c hj
   have hlt := (List.getElem?_eq_some_iff.1 hj).1
   rw [List.length_map, List.length_range] at hlt
   rw [List.getElem?_map, List.getElem?_range hlt] at hj
   exact ⟨hlt, (Option.some.inj hj).symm⟩
  have hK : ∀ (j : Nat) x, xs[j]? = some x → d.K w x (seg inner d.sz j) := fun j x hx => hr.2 j x hx
  refine ⟨(List.range xs.length).map fun j => seg inner d.sz j, by simp, ⟨by simp [h1], h.2.1, fun _ => ⟨ad, rfl, fun j c hj => ?_⟩⟩, fun j x c hx hj => ?_⟩
  ·obtain ⟨hlt, rfl⟩ := hat j c hj
   have hk := hK j _ (List.getElem?_eq_getElem hlt)
   refine ⟨_, d.K_len hk, ⟨rfl, d.K_len hk, d.K_one hk⟩, fun i u hu => ?_⟩
   have hi : i < d.sz := by
    have := (List.getElem?_eq_some_iff.1 hu).1
    rw [d.K_len hk] at this
    exact this
   rw [seg_get _ _ _ _ hi] at hu
   exact hc _ _ hu
  ·obtain ⟨hlt, rfl⟩ := hat j c hj
   exact hK j x hx
/-- A row of one's own, of type e, at block g: the elements ahead of i lead to rows of one's own, the others are w's. -/
def PR {α : Type} (d : Kd α) (e : TypeId) (w W : World) (base g n cap i : Nat) (xs : List α) (cur : Array Value) : Prop :=
 W.heap[g]? = some (.cells cur e (0, 0)) ∧ base ≤ g ∧ xs.length = n ∧ n ≤ cap ∧ cap ≤ maxLen ∧ cur.size = cap * d.sz ∧ ∀ (j : Nat) x, xs[j]? = some x → if j < i then d.M W base (fun k => k ≠ g) x (seg cur.toList d.sz j) else d.K w x (seg cur.toList d.sz j)
section
variable {α : Type} {d : Kd α} {e : TypeId} {w W W' : World} {base g n cap i : Nat} {xs : List α} {cur : Array Value} {ok : Nat → Prop}
theorem PR_start {css : List (List Value)} (h : (Kd.raw d.sz).R e W base ok (.slice (some ⟨g, 0, none⟩) n cap) css) (hl : css.length = xs.length) (hK : ∀ (j : Nat) x c, xs[j]? = some x → css[j]? = some c → d.K w x c) : ∃ cur, PR d e w W base g n cap 0 xs cur := by
 obtain ⟨hn, -, -⟩ := Kd.R_reads' h
 obtain ⟨hok, inner, ⟨hlen, ho⟩, hr⟩ := h
 rcases ho with ⟨hv, _⟩ | ⟨g', cap', cur, hv, hb, hh, hic, hcm, hcs, htk⟩
 ·cases hv
 injection hv with ha _ hc
 injection ha with ha
 injection ha with hg'
 subst hg'; subst hc
 have hrs : (Kd.raw d.sz).sz = d.sz := rfl
 rw [hrs] at hcs htk hlen
 refine ⟨cur, hh, hb, by omega, by omega, hcm, hcs, fun j x hx => ?_⟩
 rw [if_neg (by omega)]
 have hj : j < css.length := by
  have := (List.getElem?_eq_some_iff.1 hx).1
  omega
 have h1 := hr.2 j _ (List.getElem?_eq_getElem hj)
 have h2 : (inner.drop (j * d.sz)).take d.sz = css[j] := h1.1
 have h3 := hK j x _ hx (List.getElem?_eq_getElem hj)
 have h4 : seg cur.toList d.sz j = css[j] := by
  rw [← h2, ← htk]
  unfold seg
  rw [List.drop_take, List.take_take]
  congr 1
  have := Nat.mul_le_mul_right d.sz (show j + 1 ≤ css.length from hj)
  rw [Nat.add_mul, Nat.one_mul] at this
  omega
 rw [h4]
 exact h3
theorem PR_end (h : PR d e w W base g n cap n xs cur) : d.R e W base (fun _ => True) (.slice (some ⟨g, 0, none⟩) n cap) xs := by
 obtain ⟨hh, hb, hl, hnc, hcm, hcs, hj⟩ := h
 subst hl
 have hlen : (cur.toList.take (xs.length * d.sz)).length = xs.length * d.sz := by
  rw [List.length_take, show cur.toList.length = cap * d.sz from Array.length_toList.trans hcs]
  exact Nat.min_eq_left (Nat.mul_le_mul_right _ hnc)
 refine ⟨fun _ _ => trivial, cur.toList.take (xs.length * d.sz), ⟨hlen, .inr ⟨g, cap, cur, rfl, hb, hh, hnc, hcm, hcs, rfl⟩⟩, hlen, fun j p hp => ?_⟩
 have hlt := (List.getElem?_eq_some_iff.1 hp).1
 have h1 := hj j p hp
 rw [if_pos hlt] at h1
 have h2 : ((cur.toList.take (xs.length * d.sz)).drop (j * d.sz)).take d.sz = seg cur.toList d.sz j := by
  unfold seg
  rw [List.drop_take, List.take_take]
  congr 1
  have := Nat.mul_le_mul_right d.sz (show j + 1 ≤ xs.length from hlt)
  rw [Nat.add_mul, Nat.one_mul] at this
  omega
 rw [h2]
 exact d.M_mono (fun k hk => ⟨trivial, fun he => hk (by simpa [Value.ownBlock] using he)⟩) h1
theorem PR_put (h : PR d e w W base g n cap i xs cur) {cur' : Array Value} (hh' : W'.heap[g]? = some (.cells cur' e (0, 0))) (hsz : cur'.size = cur.size) (hseg : ∀ j, j ≠ i → seg cur'.toList d.sz j = seg cur.toList d.sz j)
  (hM : ∀ x, xs[i]? = some x → d.M W' base (fun k => k ≠ g) x (seg cur'.toList d.sz i)) (hm : ∀ k, k ≠ g → k < W.heap.size → W'.heap[k]? = W.heap[k]?) : PR d e w W' base g n cap (i + 1) xs cur' := by
 obtain ⟨hh, hb, hl, hnc, hcm, hcs, hj⟩ := h
 refine ⟨hh', hb, hl, hnc, hcm, by rw [hsz]; exact hcs, fun j x hx => ?_⟩
 have h1 := hj j x hx
 by_cases hji : j = i
 ·subst hji
  rw [if_pos (by omega)]
  exact hM x hx
 ·rw [hseg j hji]
  by_cases hlt : j < i
  ·rw [if_pos hlt] at h1
   rw [if_pos (by omega)]
   exact Kd.M_step h1 (fun k hk hks => hm k hk hks)
  ·rw [if_neg hlt] at h1
   rw [if_neg (by omega)]
   exact h1
theorem PR_cell (h : PR d e w W base g n cap i xs cur) (hi : i < n) : ∃ x c, xs[i]? = some x ∧ c = seg cur.toList d.sz i ∧ d.K w x c ∧ ∀ m u, c[m]? = some u → W.cell? ⟨g, i * d.sz + m, none⟩ = some u := by
 obtain ⟨hh, hb, hl, hnc, hcm, hcs, hj⟩ := h
 have hx := List.getElem?_eq_getElem (show i < xs.length by omega)
 have h1 := hj i _ hx
 rw [if_neg (Nat.lt_irrefl i)] at h1
 refine ⟨_, _, hx, rfl, h1, fun m u hu => ?_⟩
 have hm : m < d.sz := by
  have := (List.getElem?_eq_some_iff.1 hu).1
  rw [d.K_len h1] at this
  exact this
 rw [seg_get _ _ _ _ hm] at hu
 rw [blk_cell hh, ← Array.getElem?_toList]
 exact hu
end
end Go.Proofs.Ytfpkakedlapmkaa.Q
end
section
set_option linter.unusedSimpArgs false
set_option linter.unusedVariables false
namespace Go.Proofs.Ytfpkakedlapmkaa.Q
open Go.RowKit Go.Proofs.YtfpkakedlapmkaaW.PrintWords Go.Proofs.YtfpkakedlapmkaaW.PrintLast Go.Proofs.YtfpkakedlapmkaaW.PrintMore
attribute [local go_sem] max2_int min2_int max_two min_two max_three min_three max_four min_four
set_option maxHeartbeats 4000000 in
set_option maxRecDepth 100000 in
theorem cloneNode_calls (A0 : Option Addr) (c0 : Nat) (l0 : List (List Value)) (w : World) (hr0 : Kd.C (Kd.raw 5) w A0 l0.length l0) (hl : l0.length * 96 < 140737488355328) :
  Calls Try.prog 86 #[.slice A0 l0.length c0] w fun e w' => ∃ v0_ : Value, e = .returned (v0_) ∧ Kd.R (Kd.raw 5) 91 w' w.heap.size (fun _ => True) v0_ l0 ∧ Below w.heap.size w w' := by
 have q : ∀ (w : World) (a : Option Addr) (n c n' c' : Nat), (binOp .eql 29 (.slice a n c) (.slice none n' c')).run Try.prog w = .ok (.bool a.isNone) w := fun w a n c n' c' => Lib.run_eql_slice_nil w _ _ a n c n' c' Try.underlying29
 cases A0 with
 | none =>
  obtain rfl := C_nil_eq hr0
  go_enter Try.func86, Try.ntmps86
  go_wp2
  go_ret
  exact ⟨_, rfl, Kd.R_nil _ _ _ _ _, Below.refl _ _⟩
 | some ad =>
  have HR := Aside0.mk hr0
  have HL := Aside0.mk hl
  clear hr0 hl
  go_enter Try.func86, Try.ntmps86
  go_wp2_with (at_builtin; refine Kd.R_append_rows (Kd.raw 5) (w0 := w) w.heap.size rfl (.tmp 5) (.tmp 6) 29 91 (.agg #[(.string ⟨#[]⟩), (.slice none 0 0), (.int .i64 0), (.slice none 0 0), (.slice none 0 0)]) 96 rfl Try.underlying29 info91 rfl (by decide) (by omega) (.slice (some ⟨w.heap.size, 0, none⟩) 0 0) ([] : List (List Value)) l0 _ _ _ (fun _ => True) (fun _ => False) rfl rfl ?aO ?aR (fun _ _ h => h) (fun _ h => h.elim) ?aF ?aB ?aS ?aL ?_; (case aR => exact Kd.C_alloc HR.out _); (case aB => exact (below_alloc (Below.refl _ _) _)); (case aF => exact (fun _ _ => trivial)); (case aO => exact R_empty _ _ _ _ (Nat.le_refl _)); (case aS => simp); (case aL => have := HL.out; simp only [List.length_nil]; omega); intro v1 w1 ho hb hg hat; have HO := Aside0.mk ho; have HB := Aside0.mk hb; clear ho hb hg hat)
  go_ret
  exact ⟨_, rfl, HO.out, HB.out⟩
set_option maxHeartbeats 4000000 in
set_option maxRecDepth 100000 in
theorem cloneProp_calls (A0 : Option Addr) (c0 : Nat) (l0 : List (List Value)) (w : World) (hr0 : Kd.C (Kd.raw 2) w A0 l0.length l0) (hl : l0.length * 40 < 140737488355328) :
  Calls Try.prog 87 #[.slice A0 l0.length c0] w fun e w' => ∃ v0_ : Value, e = .returned (v0_) ∧ Kd.R (Kd.raw 2) 106 w' w.heap.size (fun _ => True) v0_ l0 ∧ Below w.heap.size w w' := by
 have q : ∀ (w : World) (a : Option Addr) (n c n' c' : Nat), (binOp .eql 89 (.slice a n c) (.slice none n' c')).run Try.prog w = .ok (.bool a.isNone) w := fun w a n c n' c' => Lib.run_eql_slice_nil w _ _ a n c n' c' Try.underlying89
 cases A0 with
 | none =>
  obtain rfl := C_nil_eq hr0
  go_enter Try.func87, Try.ntmps87
  go_wp2
  go_ret
  exact ⟨_, rfl, Kd.R_nil _ _ _ _ _, Below.refl _ _⟩
 | some ad =>
  have HR := Aside0.mk hr0
  have HL := Aside0.mk hl
  clear hr0 hl
  go_enter Try.func87, Try.ntmps87
  go_wp2_with (at_builtin; refine Kd.R_append_rows (Kd.raw 2) (w0 := w) w.heap.size rfl (.tmp 5) (.tmp 6) 89 106 (.agg #[(.string ⟨#[]⟩), (.slice none 0 0)]) 40 rfl Try.underlying89 info106 rfl (by decide) (by omega) (.slice (some ⟨w.heap.size, 0, none⟩) 0 0) ([] : List (List Value)) l0 _ _ _ (fun _ => True) (fun _ => False) rfl rfl ?aO ?aR (fun _ _ h => h) (fun _ h => h.elim) ?aF ?aB ?aS ?aL ?_; (case aR => exact Kd.C_alloc HR.out _); (case aB => exact (below_alloc (Below.refl _ _) _)); (case aF => exact (fun _ _ => trivial)); (case aO => exact R_empty _ _ _ _ (Nat.le_refl _)); (case aS => simp); (case aL => have := HL.out; simp only [List.length_nil]; omega); intro v1 w1 ho hb hg hat; have HO := Aside0.mk ho; have HB := Aside0.mk hb; clear ho hb hg hat)
  go_ret
  exact ⟨_, rfl, HO.out, HB.out⟩
set_option maxHeartbeats 4000000 in
set_option maxRecDepth 100000 in
theorem cloneU32_calls (A0 : Option Addr) (c0 : Nat) (l0 : List Int) (w : World) (hr0 : Kd.C (Kd.int .u32) w A0 l0.length l0) (hl : l0.length * 4 < 140737488355328) :
  Calls Try.prog 54 #[.slice A0 l0.length c0] w fun e w' => ∃ v0_ : Value, e = .returned (v0_) ∧ Kd.R (Kd.int .u32) 28 w' w.heap.size (fun _ => True) v0_ l0 ∧ Below w.heap.size w w' := by
 have q : ∀ (w : World) (a : Option Addr) (n c n' c' : Nat), (binOp .eql 24 (.slice a n c) (.slice none n' c')).run Try.prog w = .ok (.bool a.isNone) w := fun w a n c n' c' => Lib.run_eql_slice_nil w _ _ a n c n' c' Try.underlying24
 cases A0 with
 | none =>
  obtain rfl := C_nil_eq hr0
  go_enter Try.func54, Try.ntmps54
  go_wp2
  go_ret
  exact ⟨_, rfl, Kd.R_nil _ _ _ _ _, Below.refl _ _⟩
 | some ad =>
  have HR := Aside0.mk hr0
  have HL := Aside0.mk hl
  clear hr0 hl
  go_enter Try.func54, Try.ntmps54
  go_wp2_with (at_builtin; refine Kd.R_append_rows (Kd.int .u32) (w0 := w) w.heap.size rfl (.tmp 5) (.tmp 6) 24 28 (.int .u32 0) 4 rfl Try.underlying24 info28 rfl (by decide) (by omega) (.slice (some ⟨w.heap.size, 0, none⟩) 0 0) ([] : List Int) l0 _ _ _ (fun _ => True) (fun _ => False) rfl rfl ?aO ?aR (fun _ _ h => h) (fun _ h => h.elim) ?aF ?aB ?aS ?aL ?_; (case aR => exact Kd.C_alloc HR.out _); (case aB => exact (below_alloc (Below.refl _ _) _)); (case aF => exact (fun _ _ => trivial)); (case aO => exact R_empty _ _ _ _ (Nat.le_refl _)); (case aS => simp); (case aL => have := HL.out; simp only [List.length_nil]; omega); intro v1 w1 ho hb hg hat; have HO := Aside0.mk ho; have HB := Aside0.mk hb; clear ho hb hg hat)
  go_ret
  exact ⟨_, rfl, HO.out, HB.out⟩
set_option maxHeartbeats 4000000 in
set_option maxRecDepth 100000 in
theorem cloneByte_calls (A0 : Option Addr) (c0 : Nat) (l0 : List Int) (w : World) (hr0 : Kd.C (Kd.int .u8) w A0 l0.length l0) (hl : l0.length * 1 < 140737488355328) :
  Calls Try.prog 55 #[.slice A0 l0.length c0] w fun e w' => ∃ v0_ : Value, e = .returned (v0_) ∧ Kd.R (Kd.int .u8) 5 w' w.heap.size (fun _ => True) v0_ l0 ∧ Below w.heap.size w w' := by
 have q : ∀ (w : World) (a : Option Addr) (n c n' c' : Nat), (binOp .eql 25 (.slice a n c) (.slice none n' c')).run Try.prog w = .ok (.bool a.isNone) w := fun w a n c n' c' => Lib.run_eql_slice_nil w _ _ a n c n' c' Try.underlying25
 cases A0 with
 | none =>
  obtain rfl := C_nil_eq hr0
  go_enter Try.func55, Try.ntmps55
  go_wp2
  go_ret
  exact ⟨_, rfl, Kd.R_nil _ _ _ _ _, Below.refl _ _⟩
 | some ad =>
  have HR := Aside0.mk hr0
  have HL := Aside0.mk hl
  clear hr0 hl
  go_enter Try.func55, Try.ntmps55
  go_wp2_with (at_builtin; refine Kd.R_append_rows (Kd.int .u8) (w0 := w) w.heap.size rfl (.tmp 5) (.tmp 6) 25 5 (.int .u8 0) 1 rfl Try.underlying25 info5 rfl (by decide) (by omega) (.slice (some ⟨w.heap.size, 0, none⟩) 0 0) ([] : List Int) l0 _ _ _ (fun _ => True) (fun _ => False) rfl rfl ?aO ?aR (fun _ _ h => h) (fun _ h => h.elim) ?aF ?aB ?aS ?aL ?_; (case aR => exact Kd.C_alloc HR.out _); (case aB => exact (below_alloc (Below.refl _ _) _)); (case aF => exact (fun _ _ => trivial)); (case aO => exact R_empty _ _ _ _ (Nat.le_refl _)); (case aS => simp); (case aL => have := HL.out; simp only [List.length_nil]; omega); intro v1 w1 ho hb hg hat; have HO := Aside0.mk ho; have HB := Aside0.mk hb; clear ho hb hg hat)
  go_ret
  exact ⟨_, rfl, HO.out, HB.out⟩
end Go.Proofs.Ytfpkakedlapmkaa.Q
end
