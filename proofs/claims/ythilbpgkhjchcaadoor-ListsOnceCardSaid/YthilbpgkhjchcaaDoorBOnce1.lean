/- DERIVED: THE SHELF's CONTRACTS AT THIS DUMP, IN PLAIN WORDS (tools/lay-plain.mjs out of 'TrydShelf.lean', which tools/lay-shelf.mjs wrote): THE SAME DECLARATIONS UNDER THE SAME NAMES: 'import', 'namespace', 'open', 'def', 'theorem' AND NOTHING ELSE: no command of the shelf's: FOR A HAND-IN. Each laying: the table of numbers ('.._ren') and one theorem, a field a fact of the dump's own or the kernel's comparison; each contract: ONE APPLICATION. strings.SplitSeq at a separator of one byte: the iterator gives the pieces of the text between the bytes, in their order. octet.Trim and its reference take the blanks off both ends of a text. lists.elements: the iterator gives the elements of all values, in their order. lists.Elements: slices.Collect over the iterator of the elements. octet.IsToken and octet.Lower: a text is a token if it is not empty and all its bytes are of tokens; its letters in lower case. lists.Tokens, lists.Has, lists.Join. lists.Elements, Tokens, Has and Join in the form in which the print's functions are met: what each gives, and that the machine's call comes to it. Conditions: none beyond those that each theorem states. -/
import Derived.Shelf.Strings.Builder1
import Derived.Shelf.Strings.Builder2
import Derived.Shelf.Strings.OnBuilder
import Derived.Shelf.Strings.BuilderF
import Derived.Shelf.Strings.BuilderK
import Derived.Shelf.Strings.Builder2Cap
import Derived.Shelf.Strings.Search1
import Derived.Shelf.Strings.Search2
import Derived.Shelf.Strings.Search3
import Derived.Shelf.LaysM
import Derived.Shelf.Strings.Shaped
import Derived.Shelf.Unicode.DecodeSlow
import Derived.Shelf.Strings.BuilderCap
import Derived.Test.YthilbpgkhjchcaaDoorProg
import Derived.Test.YthilbpgkhjchcaaDoorBOnce0
import Derived.Deep.DeepFit
import Derived.Outline
import Derived.Lib.Hide

section
namespace Go.Proofs
open Go.Shelf
def Tryd.lays169_ren : Go.Shelf.Ren := ⟨fun | 169 => 38 | n => n, fun | 70 => 50 | 9 => 9 | 0 => 0 | 72 => 52 | 37 => 44 | 127 => 61 | 3 => 3 | 5 => 5 | n => n, fun | n => n⟩
theorem Tryd.lays169 : Go.Proofs.Lays.n169 Tryd.prog Tryd.lays169_ren := {
  mixed := by kernel_rfl
  f169 := Tryd.func38.trans (congrArg some (by kernel_rfl))
  t0 := Tryd.underlying0
  a0 := Tryd.isAgg0
  z0 := Tryd.sizeOf0
  v0 := Tryd.zeroValue0
  t3 := Tryd.underlying3
  a3 := Tryd.isAgg3
  z3 := Tryd.sizeOf3
  v3 := Tryd.zeroValue3
  t9 := Tryd.underlying9
  a9 := Tryd.isAgg9
  z9 := Tryd.sizeOf9
  v9 := Tryd.zeroValue9
  t37 := Tryd.underlying44
  a37 := Tryd.isAgg44
  z37 := Tryd.sizeOf44
  v37 := Tryd.zeroValue44
  t70 := Tryd.underlying50
  a70 := Tryd.isAgg50
  z70 := Tryd.sizeOf50
  v70 := Tryd.zeroValue50
  t72 := Tryd.underlying52
  a72 := Tryd.isAgg52
  z72 := Tryd.sizeOf52
  v72 := Tryd.zeroValue52
  t127 := Tryd.underlying61
  a127 := Tryd.isAgg61
  z127 := Tryd.sizeOf61
  v127 := Tryd.zeroValue61 }
theorem Tryd.Builder_Extra_169 : Builder.Extra Tryd.prog Tryd.lays169_ren := {
  sizeBuilder := by kernel_rfl
  liesBuilder := by kernel_rfl
  t5 := Tryd.underlying5
  a5 := Tryd.isAgg5
  z5 := Tryd.sizeOf5
  v5 := Tryd.zeroValue5
  infoByte := by kernel_rfl
  cellsByte := by kernel_rfl
  sizeByte := by kernel_rfl
  neB5 := by decide }
open Go.RowKit in
/-- (*strings.Builder).String: "String returns the accumulated string.": OF A BUILDER THAT HOLDS AT LEAST ONE BYTE. ✋ THE MODEL FREEZES THOSE BYTES IN THE BUFFER (unsafe.String): a later write INTO them ends the model's run without an answer; a later append BEHIND them goes on. The statement's order of evaluation is drawn: one draw. (LAID: no walk: one application.) -/
theorem Tryd.Builder_String (B b : Nat) (l : List UInt8) (w : World) (h : Lib.IsBuilder 52 5 B b (Lib.byteCells l) w) (h0 : l ≠ []) :
    Calls Tryd.prog 38 #[.pointer (some ⟨b, 0, none⟩)] w fun e w' => e = .returned (.string ⟨l.toArray⟩) ∧ Below B w w' := Any.Builder_String Tryd.lays169 Tryd.Builder_Extra_169 B b l w h h0
open Go.RowKit in
/-- (*strings.Builder).String OF A BUILDER THAT HOLDS NO BYTE: the empty string. (Its buffer is nil, or a row of which it has taken nothing yet; where that row has NO capacity the model lays one new block for unsafe.SliceData's 'some address'.) One draw. (LAID: no walk: one application.) -/
theorem Tryd.Builder_String_empty (B b : Nat) (w : World) (h : Lib.IsBuilder 52 5 B b [] w) (hBw : B ≤ w.heap.size) :
    Calls Tryd.prog 38 #[.pointer (some ⟨b, 0, none⟩)] w fun e w' => e = .returned (.string ⟨#[]⟩) ∧ Below B w w' := Any.Builder_String_empty Tryd.lays169 Tryd.Builder_Extra_169 B b w h hBw
open Go.RowKit in
/-- (*strings.Builder).String: "String returns the accumulated string.": WHATEVER THE BUILDER HOLDS. (LAID: no walk: one application.) -/
theorem Tryd.Builder_String_any (B b : Nat) (l : List UInt8) (w : World) (h : Lib.IsBuilder 52 5 B b (Lib.byteCells l) w) (hBw : B ≤ w.heap.size) :
    Calls Tryd.prog 38 #[.pointer (some ⟨b, 0, none⟩)] w fun e w' => e = .returned (.string ⟨l.toArray⟩) ∧ Below B w w' := Any.Builder_String_any Tryd.lays169 Tryd.Builder_Extra_169 B b l w h hBw
def Tryd.lays241_ren : Go.Shelf.Ren := ⟨fun | 241 => 44 | 277 => 52 | n => n, fun | 70 => 50 | 3 => 3 | 0 => 0 | 72 => 52 | 37 => 44 | 5 => 5 | n => n, fun | n => n⟩
theorem Tryd.lays241 : Go.Proofs.Lays.n241 Tryd.prog Tryd.lays241_ren := {
  mixed := by kernel_rfl
  f241 := Tryd.func44.trans (congrArg some (by kernel_rfl))
  f277 := Tryd.func52.trans (congrArg some (by kernel_rfl))
  t0 := Tryd.underlying0
  a0 := Tryd.isAgg0
  z0 := Tryd.sizeOf0
  v0 := Tryd.zeroValue0
  t3 := Tryd.underlying3
  a3 := Tryd.isAgg3
  z3 := Tryd.sizeOf3
  v3 := Tryd.zeroValue3
  t37 := Tryd.underlying44
  a37 := Tryd.isAgg44
  z37 := Tryd.sizeOf44
  v37 := Tryd.zeroValue44
  t70 := Tryd.underlying50
  a70 := Tryd.isAgg50
  z70 := Tryd.sizeOf50
  v70 := Tryd.zeroValue50
  t72 := Tryd.underlying52
  a72 := Tryd.isAgg52
  z72 := Tryd.sizeOf52
  v72 := Tryd.zeroValue52 }
theorem Tryd.Builder_Extra_241 : Builder.Extra Tryd.prog Tryd.lays241_ren := {
  sizeBuilder := by kernel_rfl
  liesBuilder := by kernel_rfl
  t5 := Tryd.underlying5
  a5 := Tryd.isAgg5
  z5 := Tryd.sizeOf5
  v5 := Tryd.zeroValue5
  infoByte := by kernel_rfl
  cellsByte := by kernel_rfl
  sizeByte := by kernel_rfl
  neB5 := by decide }
open Go.RowKit in
/-- (*strings.Builder).grow (no doc but "grow copies the buffer to a new, larger buffer so that there are at least n bytes of capacity beyond len(b.buf)."): AT A BUILDER WITHOUT A BUFFER: a new row of whatever bytes for its buffer, none of them its own yet. Three draws. (LAID: no walk: one application.) -/
theorem Tryd.Builder_grow_fresh (B b n : Nat) (w : World) (hB : B ≤ b) (hbk : w.heap[b]? = some (.cells #[.pointer (some ⟨b, 0, none⟩), .slice none 0 0] 52 (0, 0))) (hBw : B ≤ w.heap.size) (hn : n ≤ 281474976710656) :
    Calls Tryd.prog 44 #[.pointer (some ⟨b, 0, none⟩), .int .i64 n] w fun e w' => e = .returned (.tuple #[]) ∧ (Lib.BuilderAt 52 5 B b (.pointer (some ⟨b, 0, none⟩)) [] w' ∧ Below B w w') := Any.Builder_grow_fresh Tryd.lays241 Tryd.Builder_Extra_241 B b n w hB hbk hBw hn
def Tryd.lays165_ren : Go.Shelf.Ren := ⟨fun | 165 => 36 | 240 => 43 | 241 => 44 | 276 => 51 | 277 => 52 | n => n, fun | 70 => 50 | 3 => 3 | 0 => 0 | 4 => 4 | 9 => 9 | 20 => 20 | 72 => 52 | 37 => 44 | 164 => 65 | 5 => 5 | n => n, fun | n => n⟩
theorem Tryd.lays165 : Go.Proofs.Lays.n165 Tryd.prog Tryd.lays165_ren := {
  mixed := by kernel_rfl
  f165 := Tryd.func36.trans (congrArg some (by kernel_rfl))
  f240 := Tryd.func43.trans (congrArg some (by kernel_rfl))
  f241 := Tryd.func44.trans (congrArg some (by kernel_rfl))
  f276 := Tryd.func51.trans (congrArg some (by kernel_rfl))
  f277 := Tryd.func52.trans (congrArg some (by kernel_rfl))
  t0 := Tryd.underlying0
  a0 := Tryd.isAgg0
  z0 := Tryd.sizeOf0
  v0 := Tryd.zeroValue0
  t3 := Tryd.underlying3
  a3 := Tryd.isAgg3
  z3 := Tryd.sizeOf3
  v3 := Tryd.zeroValue3
  t4 := Tryd.underlying4
  a4 := Tryd.isAgg4
  z4 := Tryd.sizeOf4
  v4 := Tryd.zeroValue4
  t9 := Tryd.underlying9
  a9 := Tryd.isAgg9
  z9 := Tryd.sizeOf9
  v9 := Tryd.zeroValue9
  t20 := Tryd.underlying20
  a20 := Tryd.isAgg20
  z20 := Tryd.sizeOf20
  v20 := Tryd.zeroValue20
  t37 := Tryd.underlying44
  a37 := Tryd.isAgg44
  z37 := Tryd.sizeOf44
  v37 := Tryd.zeroValue44
  t70 := Tryd.underlying50
  a70 := Tryd.isAgg50
  z70 := Tryd.sizeOf50
  v70 := Tryd.zeroValue50
  t72 := Tryd.underlying52
  a72 := Tryd.isAgg52
  z72 := Tryd.sizeOf52
  v72 := Tryd.zeroValue52
  t164 := Tryd.underlying65
  a164 := Tryd.isAgg65
  z164 := Tryd.sizeOf65
  v164 := Tryd.zeroValue65 }
theorem Tryd.Builder_Extra_165 : Builder.Extra Tryd.prog Tryd.lays165_ren := {
  sizeBuilder := by kernel_rfl
  liesBuilder := by kernel_rfl
  t5 := Tryd.underlying5
  a5 := Tryd.isAgg5
  z5 := Tryd.sizeOf5
  v5 := Tryd.zeroValue5
  infoByte := by kernel_rfl
  cellsByte := by kernel_rfl
  sizeByte := by kernel_rfl
  neB5 := by decide }
open Go.RowKit in
/-- (*strings.Builder).Grow AT A BUILDER THAT HAS NOT BEEN WRITTEN ('var b strings.Builder; b.Grow(n)'): "Grow grows b's capacity, if necessary, to guarantee space for another n bytes.": it holds no byte behind it as before it. (LAID: no walk: one application.) -/
theorem Tryd.Builder_Grow_fresh (B b n : Nat) (w : World) (hB : B ≤ b) (hbk : w.heap[b]? = some (.cells #[.pointer none, .slice none 0 0] 52 (0, 0))) (hBw : B ≤ w.heap.size) (hn : n ≤ 281474976710656) :
    Calls Tryd.prog 36 #[.pointer (some ⟨b, 0, none⟩), .int .i64 n] w fun e w' => e = .returned (.tuple #[]) ∧ (Lib.BuilderAt 52 5 B b (.pointer (some ⟨b, 0, none⟩)) [] w' ∧ Below B w w') := Any.Builder_Grow_fresh Tryd.lays165 Tryd.Builder_Extra_165 B b n w hB hbk hBw hn
def Tryd.lays156_ren : Go.Shelf.Ren := ⟨fun | 156 => 27 | 165 => 36 | 166 => 37 | 169 => 38 | 240 => 43 | 241 => 44 | 276 => 51 | 277 => 52 | n => n, fun | 31 => 22 | 9 => 9 | 3 => 3 | 4 => 4 | 0 => 0 | 20 => 20 | 72 => 52 | 76 => 56 | 70 => 50 | 37 => 44 | 75 => 55 | 127 => 61 | 164 => 65 | 5 => 5 | 80 => 58 | n => n, fun | n => n⟩
theorem Tryd.lays156 : Go.Proofs.Lays.n156 Tryd.prog Tryd.lays156_ren := {
  mixed := by kernel_rfl
  f156 := Tryd.func27.trans (congrArg some (by kernel_rfl))
  f165 := Tryd.func36.trans (congrArg some (by kernel_rfl))
  f166 := Tryd.func37.trans (congrArg some (by kernel_rfl))
  f169 := Tryd.func38.trans (congrArg some (by kernel_rfl))
  f240 := Tryd.func43.trans (congrArg some (by kernel_rfl))
  f241 := Tryd.func44.trans (congrArg some (by kernel_rfl))
  f276 := Tryd.func51.trans (congrArg some (by kernel_rfl))
  f277 := Tryd.func52.trans (congrArg some (by kernel_rfl))
  t0 := Tryd.underlying0
  a0 := Tryd.isAgg0
  z0 := Tryd.sizeOf0
  v0 := Tryd.zeroValue0
  t3 := Tryd.underlying3
  a3 := Tryd.isAgg3
  z3 := Tryd.sizeOf3
  v3 := Tryd.zeroValue3
  t4 := Tryd.underlying4
  a4 := Tryd.isAgg4
  z4 := Tryd.sizeOf4
  v4 := Tryd.zeroValue4
  t9 := Tryd.underlying9
  a9 := Tryd.isAgg9
  z9 := Tryd.sizeOf9
  v9 := Tryd.zeroValue9
  t20 := Tryd.underlying20
  a20 := Tryd.isAgg20
  z20 := Tryd.sizeOf20
  v20 := Tryd.zeroValue20
  t31 := Tryd.underlying22
  a31 := Tryd.isAgg22
  z31 := Tryd.sizeOf22
  v31 := Tryd.zeroValue22
  t37 := Tryd.underlying44
  a37 := Tryd.isAgg44
  z37 := Tryd.sizeOf44
  v37 := Tryd.zeroValue44
  t70 := Tryd.underlying50
  a70 := Tryd.isAgg50
  z70 := Tryd.sizeOf50
  v70 := Tryd.zeroValue50
  t72 := Tryd.underlying52
  a72 := Tryd.isAgg52
  z72 := Tryd.sizeOf52
  v72 := Tryd.zeroValue52
  t75 := Tryd.underlying55
  a75 := Tryd.isAgg55
  z75 := Tryd.sizeOf55
  v75 := Tryd.zeroValue55
  t76 := Tryd.underlying56
  a76 := Tryd.isAgg56
  z76 := Tryd.sizeOf56
  v76 := Tryd.zeroValue56
  t127 := Tryd.underlying61
  a127 := Tryd.isAgg61
  z127 := Tryd.sizeOf61
  v127 := Tryd.zeroValue61
  t164 := Tryd.underlying65
  a164 := Tryd.isAgg65
  z164 := Tryd.sizeOf65
  v164 := Tryd.zeroValue65 }
theorem Tryd.Builder_Extra_156 : Builder.Extra Tryd.prog Tryd.lays156_ren := {
  sizeBuilder := by kernel_rfl
  liesBuilder := by kernel_rfl
  t5 := Tryd.underlying5
  a5 := Tryd.isAgg5
  z5 := Tryd.sizeOf5
  v5 := Tryd.zeroValue5
  infoByte := by kernel_rfl
  cellsByte := by kernel_rfl
  sizeByte := by kernel_rfl
  neB5 := by decide }
open Go.RowKit in
/-- No element: the empty string; the world is as it was. (Whatever the slice's address and capacity: a nil slice too.) (LAID: no walk: one application.) -/
theorem Tryd.strings_Join_none (a : Option Addr) (c : Nat) (sep : ByteArray) (w : World) :
    Calls Tryd.prog 27 #[.slice a 0 c, .string sep] w fun e w' => e = .returned (.string ⟨#[]⟩) ∧ w' = w := Any.strings_Join_none Tryd.lays156 Tryd.Builder_Extra_156 a c sep w
open Go.RowKit in
/-- strings.Join: "Join concatenates the elements of its first argument to create a single string. The separator string sep is placed between elements in the resulting string.": HOWEVER MANY ELEMENTS. Below the heap's end the world is as it was. (LAID: no walk: one application.) -/
theorem Tryd.strings_Join (bk o c : Nat) (xs : List ByteArray) (sep : ByteArray) (w : World) (hcells : ∀ (j : Nat) x, xs[j]? = some x → w.cell? ⟨bk, o + j, none⟩ = some (.string x)) (hbk : bk < w.heap.size) (hN : xs.length ≤ 140737488355328) (hcap : xs.length ≤ c) (hlen : (Lib.join (xs.map (·.data.toList)) sep.data.toList).length ≤ 140737488355328) :
    Calls Tryd.prog 27 #[.slice (some ⟨bk, o, none⟩) xs.length c, .string sep] w fun e w' => e = .returned (.string ⟨(Lib.join (xs.map (·.data.toList)) sep.data.toList).toArray⟩) ∧ Below w.heap.size w w' := Any.strings_Join Tryd.lays156 Tryd.Builder_Extra_156 bk o c xs sep w hcells hbk hN hcap hlen
open Go.RowKit in
/-- (*strings.Builder).String: "String returns the accumulated string.": OF A BUILDER THAT HOLDS AT LEAST ONE BYTE. ✋ THE MODEL FREEZES THOSE BYTES IN THE BUFFER (unsafe.String): a later write INTO them ends the model's run without an answer; a later append BEHIND them goes on. The statement's order of evaluation is drawn: one draw. THE FORM '_f': IT SAYS BESIDES THAT THE BUILDER IS A BUILDER STILL ('Lib.IsBuilderF', the same bytes): SO IT CAN BE WRITTEN ON: 'b.WriteString(b.String()[:k])'. (LAID: no walk: one application.) -/
theorem Tryd.Builder_String_f (B b : Nat) (l : List UInt8) (w : World) (h : Lib.IsBuilderF 52 5 B b (Lib.byteCells l) w) (h0 : l ≠ []) :
    Calls Tryd.prog 38 #[.pointer (some ⟨b, 0, none⟩)] w fun e w' => e = .returned (.string ⟨l.toArray⟩) ∧ (Lib.IsBuilderF 52 5 B b (Lib.byteCells l) w' ∧ Below B w w') := Any.Builder_String_f Tryd.lays169 Tryd.Builder_Extra_169 B b l w h h0
open Go.RowKit in
/-- (*strings.Builder).String OF A BUILDER THAT HOLDS NO BYTE: the empty string; THE FORM '_f': a builder still. (LAID: no walk: one application.) -/
theorem Tryd.Builder_String_empty_f (B b : Nat) (w : World) (h : Lib.IsBuilderF 52 5 B b [] w) (hBw : B ≤ w.heap.size) :
    Calls Tryd.prog 38 #[.pointer (some ⟨b, 0, none⟩)] w fun e w' => e = .returned (.string ⟨#[]⟩) ∧ (Lib.IsBuilderF 52 5 B b [] w' ∧ Below B w w') := Any.Builder_String_empty_f Tryd.lays169 Tryd.Builder_Extra_169 B b w h hBw
open Go.RowKit in
/-- (*strings.Builder).String: "String returns the accumulated string.": WHATEVER THE BUILDER HOLDS; THE FORM '_f': OF A BUILDER THAT MAY HAVE BEEN READ BEFORE; AND IT IS A BUILDER STILL, holding the same bytes: it can be written on. (LAID: no walk: one application.) -/
theorem Tryd.Builder_String_any_f (B b : Nat) (l : List UInt8) (w : World) (h : Lib.IsBuilderF 52 5 B b (Lib.byteCells l) w) (hBw : B ≤ w.heap.size) :
    Calls Tryd.prog 38 #[.pointer (some ⟨b, 0, none⟩)] w fun e w' => e = .returned (.string ⟨l.toArray⟩) ∧ (Lib.IsBuilderF 52 5 B b (Lib.byteCells l) w' ∧ Below B w w') := Any.Builder_String_any_f Tryd.lays169 Tryd.Builder_Extra_169 B b l w h hBw
open Go.RowKit in
/-- (*strings.Builder).String: "String returns the accumulated string.": OF A BUILDER THAT HOLDS AT LEAST ONE BYTE. ✋ THE MODEL FREEZES THOSE BYTES IN THE BUFFER (unsafe.String): a later write INTO them ends the model's run without an answer; a later append BEHIND them goes on. The statement's order of evaluation is drawn: one draw. THE FORM '_k': OVER 'Lib.IsBuilderF' (a builder that 'String()' may have read), AND WITH THE FRAME THAT REACHES ABOVE THE BUILDER: 'Lib.OthersKept': every block that is not b and is no row of uint8's stands as it stood: the iterator of a range among them. (LAID: no walk: one application.) -/
theorem Tryd.Builder_String_k (B b : Nat) (l : List UInt8) (w : World) (h : Lib.IsBuilderF 52 5 B b (Lib.byteCells l) w) (h0 : l ≠ []) :
    Calls Tryd.prog 38 #[.pointer (some ⟨b, 0, none⟩)] w fun e w' => e = .returned (.string ⟨l.toArray⟩) ∧ (Lib.IsBuilderF 52 5 B b (Lib.byteCells l) w' ∧ Below B w w' ∧ Lib.OthersKept 5 (some b) w w') := Any.Builder_String_k Tryd.lays169 Tryd.Builder_Extra_169 B b l w h h0
open Go.RowKit in
/-- (*strings.Builder).String OF A BUILDER THAT HOLDS NO BYTE: the empty string; THE FORM '_k': OVER 'Lib.IsBuilderF' (a builder that 'String()' may have read), AND WITH THE FRAME THAT REACHES ABOVE THE BUILDER: 'Lib.OthersKept': every block that is not b and is no row of uint8's stands as it stood: the iterator of a range among them. (LAID: no walk: one application.) -/
theorem Tryd.Builder_String_empty_k (B b : Nat) (w : World) (h : Lib.IsBuilderF 52 5 B b [] w) (hBw : B ≤ w.heap.size) :
    Calls Tryd.prog 38 #[.pointer (some ⟨b, 0, none⟩)] w fun e w' => e = .returned (.string ⟨#[]⟩) ∧ (Lib.IsBuilderF 52 5 B b [] w' ∧ Below B w w' ∧ Lib.OthersKept 5 (some b) w w') := Any.Builder_String_empty_k Tryd.lays169 Tryd.Builder_Extra_169 B b w h hBw
open Go.RowKit in
/-- (*strings.Builder).String: "String returns the accumulated string.": WHATEVER THE BUILDER HOLDS; THE FORM '_k': OVER 'Lib.IsBuilderF' (a builder that 'String()' may have read), AND WITH THE FRAME THAT REACHES ABOVE THE BUILDER: 'Lib.OthersKept': every block that is not b and is no row of uint8's stands as it stood: the iterator of a range among them. (LAID: no walk: one application.) -/
theorem Tryd.Builder_String_any_k (B b : Nat) (l : List UInt8) (w : World) (h : Lib.IsBuilderF 52 5 B b (Lib.byteCells l) w) (hBw : B ≤ w.heap.size) :
    Calls Tryd.prog 38 #[.pointer (some ⟨b, 0, none⟩)] w fun e w' => e = .returned (.string ⟨l.toArray⟩) ∧ (Lib.IsBuilderF 52 5 B b (Lib.byteCells l) w' ∧ Below B w w' ∧ Lib.OthersKept 5 (some b) w w') := Any.Builder_String_any_k Tryd.lays169 Tryd.Builder_Extra_169 B b l w h hBw
open Go.RowKit in
/-- (*strings.Builder).grow (no doc but "grow copies the buffer to a new, larger buffer so that there are at least n bytes of capacity beyond len(b.buf)."): AT A BUILDER WITHOUT A BUFFER: a new row of whatever bytes for its buffer, none of them its own yet. Three draws. (LAID: no walk: one application.) -/
theorem Tryd.Builder_grow_fresh_cap (B b n : Nat) (w : World) (hB : B ≤ b) (hbk : w.heap[b]? = some (.cells #[.pointer (some ⟨b, 0, none⟩), .slice none 0 0] 52 (0, 0))) (hBw : B ≤ w.heap.size) (hn : n ≤ 281474976710656) :
    Calls Tryd.prog 44 #[.pointer (some ⟨b, 0, none⟩), .int .i64 n] w fun e w' => e = .returned (.tuple #[]) ∧ (Lib.BuilderAt 52 5 B b (.pointer (some ⟨b, 0, none⟩)) [] w' ∧ Below B w w') ∧ ∃ p cap, w'.cell? ⟨b, 1, none⟩ = some (.slice p 0 cap) ∧ n ≤ cap := Any.Builder_grow_fresh_cap Tryd.lays241 Tryd.Builder_Extra_241 B b n w hB hbk hBw hn
open Go.RowKit in
/-- (*strings.Builder).Grow AT A BUILDER THAT HAS NOT BEEN WRITTEN ('var b strings.Builder; b.Grow(n)'): "Grow grows b's capacity, if necessary, to guarantee space for another n bytes.": it holds no byte behind it as before it. (LAID: no walk: one application.) -/
theorem Tryd.Builder_Grow_fresh_cap (B b n : Nat) (w : World) (hB : B ≤ b) (hbk : w.heap[b]? = some (.cells #[.pointer none, .slice none 0 0] 52 (0, 0))) (hBw : B ≤ w.heap.size) (hn : n ≤ 281474976710656) :
    Calls Tryd.prog 36 #[.pointer (some ⟨b, 0, none⟩), .int .i64 n] w fun e w' => e = .returned (.tuple #[]) ∧ (Lib.BuilderAt 52 5 B b (.pointer (some ⟨b, 0, none⟩)) [] w' ∧ Below B w w') ∧ ∃ p cap, w'.cell? ⟨b, 1, none⟩ = some (.slice p 0 cap) ∧ n ≤ cap := Any.Builder_Grow_fresh_cap Tryd.lays165 Tryd.Builder_Extra_165 B b n w hB hbk hBw hn
def Tryd.lays217_ren : Go.Shelf.Ren := ⟨fun | 217 => 55 | 266 => 59 | n => n, fun | 9 => 9 | 5 => 5 | 3 => 3 | n => n, fun | n => n⟩
theorem Tryd.lays217 : Go.Proofs.Lays.n217 Tryd.prog Tryd.lays217_ren := {
  mixed := by kernel_rfl
  f217 := Tryd.func55.trans (congrArg some (by kernel_rfl))
  f266 := Tryd.func59.trans (congrArg some (by kernel_rfl))
  t3 := Tryd.underlying3
  a3 := Tryd.isAgg3
  z3 := Tryd.sizeOf3
  v3 := Tryd.zeroValue3
  t5 := Tryd.underlying5
  a5 := Tryd.isAgg5
  z5 := Tryd.sizeOf5
  v5 := Tryd.zeroValue5
  t9 := Tryd.underlying9
  a9 := Tryd.isAgg9
  z9 := Tryd.sizeOf9
  v9 := Tryd.zeroValue9 }
open Go.RowKit Go.Lib in
/-- internal/stringslite.IndexByte (what strings.IndexByte calls): IT RETURNS 'Lib.indexByte s c'; the world is as it was. (LAID: no walk: one application.) -/
theorem Tryd.stringslite_IndexByte (s : ByteArray) (c : Int) (w : World) :
    Calls Tryd.prog 55 #[.string s, .int .u8 c] w fun e w' => e = .returned (.int .i64 (Lib.indexByte s.data.toList c.toNat.toUInt8)) ∧ w' = w := Any.stringslite_IndexByte Tryd.lays217 s c w
def Tryd.lays224_ren : Go.Shelf.Ren := ⟨fun | 224 => 57 | n => n, fun | 3 => 3 | n => n, fun | n => n⟩
theorem Tryd.lays224 : Go.Proofs.Lays.n224 Tryd.prog Tryd.lays224_ren := {
  mixed := by kernel_rfl
  f224 := Tryd.func57.trans (congrArg some (by kernel_rfl))
  t3 := Tryd.underlying3
  a3 := Tryd.isAgg3
  z3 := Tryd.sizeOf3
  v3 := Tryd.zeroValue3 }
open Go.RowKit Go.Lib in
/-- internal/bytealg.Cutover: "Cutover reports the number of failures of IndexByte we should tolerate before switching over to Index. n is the number of bytes processed so far.": on amd64: (n + 16) / 8. (LAID: no walk: one application.) -/
theorem Tryd.bytealg_Cutover (n : Int) (h0 : 0 ≤ n) (h1 : n < 4611686018427387904) (w : World) :
    Calls Tryd.prog 57 #[.int .i64 n] w fun e w' => e = .returned (.int .i64 ((n + 16) / 8)) ∧ w' = w := Any.bytealg_Cutover Tryd.lays224 n h0 h1 w
def Tryd.lays314_ren : Go.Shelf.Ren := ⟨fun | 314 => 60 | n => n, fun | 9 => 9 | 51 => 75 | 3 => 3 | 4 => 4 | 5 => 5 | 46 => 69 | n => n, fun | n => n⟩
theorem Tryd.lays314 : Go.Proofs.Lays.n314 Tryd.prog Tryd.lays314_ren := {
  mixed := by kernel_rfl
  f314 := Tryd.func60.trans (congrArg some (by kernel_rfl))
  t3 := Tryd.underlying3
  a3 := Tryd.isAgg3
  z3 := Tryd.sizeOf3
  v3 := Tryd.zeroValue3
  t4 := Tryd.underlying4
  a4 := Tryd.isAgg4
  z4 := Tryd.sizeOf4
  v4 := Tryd.zeroValue4
  t5 := Tryd.underlying5
  a5 := Tryd.isAgg5
  z5 := Tryd.sizeOf5
  v5 := Tryd.zeroValue5
  t9 := Tryd.underlying9
  a9 := Tryd.isAgg9
  z9 := Tryd.sizeOf9
  v9 := Tryd.zeroValue9
  t46 := Tryd.underlying69
  a46 := Tryd.isAgg69
  z46 := Tryd.sizeOf69
  v46 := Tryd.zeroValue69
  t51 := Tryd.underlying75
  a51 := Tryd.isAgg75
  z51 := Tryd.sizeOf75
  v51 := Tryd.zeroValue75 }
open Go.RowKit Go.Lib in
/-- hashStr: "returns the hash and the appropriate multiplicative factor for use in Rabin-Karp algorithm": THE HASH OF ALL OF sep, AND 16777619 ^ len(sep), both in uint32. (LAID: no walk: one application.) -/
theorem Tryd.bytealg_hashStr (sep : ByteArray) (hs : sep.size < 4294967281) (w : World) :
    Calls Tryd.prog 60 #[.string sep] w fun e w' => e = .returned (.tuple #[.int .u32 (RK.H sep.data.toList % 4294967296), .int .u32 (16777619 ^ sep.size % 4294967296)]) ∧ w' = w := Any.bytealg_hashStr Tryd.lays314 sep hs w
def Tryd.lays267_ren : Go.Shelf.Ren := ⟨fun | 267 => 58 | 314 => 60 | n => n, fun | 9 => 9 | 3 => 3 | 146 => 76 | 51 => 75 | 4 => 4 | 5 => 5 | 46 => 69 | n => n, fun | n => n⟩
theorem Tryd.lays267 : Go.Proofs.Lays.n267 Tryd.prog Tryd.lays267_ren := {
  mixed := by kernel_rfl
  f267 := Tryd.func58.trans (congrArg some (by kernel_rfl))
  f314 := Tryd.func60.trans (congrArg some (by kernel_rfl))
  t3 := Tryd.underlying3
  a3 := Tryd.isAgg3
  z3 := Tryd.sizeOf3
  v3 := Tryd.zeroValue3
  t4 := Tryd.underlying4
  a4 := Tryd.isAgg4
  z4 := Tryd.sizeOf4
  v4 := Tryd.zeroValue4
  t5 := Tryd.underlying5
  a5 := Tryd.isAgg5
  z5 := Tryd.sizeOf5
  v5 := Tryd.zeroValue5
  t9 := Tryd.underlying9
  a9 := Tryd.isAgg9
  z9 := Tryd.sizeOf9
  v9 := Tryd.zeroValue9
  t46 := Tryd.underlying69
  a46 := Tryd.isAgg69
  z46 := Tryd.sizeOf69
  v46 := Tryd.zeroValue69
  t51 := Tryd.underlying75
  a51 := Tryd.isAgg75
  z51 := Tryd.sizeOf75
  v51 := Tryd.zeroValue75
  t146 := Tryd.underlying76
  a146 := Tryd.isAgg76
  z146 := Tryd.sizeOf76
  v146 := Tryd.zeroValue76 }
open Go.RowKit Go.Lib in
theorem Tryd.bytealg_IndexRabinKarp (s sep : ByteArray) (h1 : 1 ≤ sep.size) (h2 : sep.size ≤ s.size) (hs : s.size < 4294967281) (w : World) :
    Calls Tryd.prog 58 #[.string s, .string sep] w fun e w' => e = .returned (.int .i64 (Lib.index s.data.toList sep.data.toList)) ∧ w' = w := Any.bytealg_IndexRabinKarp Tryd.lays267 s sep h1 h2 hs w
def Tryd.lays219_ren : Go.Shelf.Ren := ⟨fun | 219 => 54 | 217 => 55 | 225 => 56 | 224 => 57 | 267 => 58 | 266 => 59 | 314 => 60 | n => n, fun | 9 => 9 | 3 => 3 | 4 => 4 | 5 => 5 | 46 => 69 | 146 => 76 | 51 => 75 | n => n, fun | 1 => 0 | n => n⟩
theorem Tryd.lays219 : Go.Proofs.Lays.n219 Tryd.prog Tryd.lays219_ren := {
  mixed := by kernel_rfl
  f217 := Tryd.func55.trans (congrArg some (by kernel_rfl))
  f219 := Tryd.func54.trans (congrArg some (by kernel_rfl))
  f224 := Tryd.func57.trans (congrArg some (by kernel_rfl))
  f225 := Tryd.func56.trans (congrArg some (by kernel_rfl))
  f266 := Tryd.func59.trans (congrArg some (by kernel_rfl))
  f267 := Tryd.func58.trans (congrArg some (by kernel_rfl))
  f314 := Tryd.func60.trans (congrArg some (by kernel_rfl))
  t3 := Tryd.underlying3
  a3 := Tryd.isAgg3
  z3 := Tryd.sizeOf3
  v3 := Tryd.zeroValue3
  t4 := Tryd.underlying4
  a4 := Tryd.isAgg4
  z4 := Tryd.sizeOf4
  v4 := Tryd.zeroValue4
  t5 := Tryd.underlying5
  a5 := Tryd.isAgg5
  z5 := Tryd.sizeOf5
  v5 := Tryd.zeroValue5
  t9 := Tryd.underlying9
  a9 := Tryd.isAgg9
  z9 := Tryd.sizeOf9
  v9 := Tryd.zeroValue9
  t46 := Tryd.underlying69
  a46 := Tryd.isAgg69
  z46 := Tryd.sizeOf69
  v46 := Tryd.zeroValue69
  t51 := Tryd.underlying75
  a51 := Tryd.isAgg75
  z51 := Tryd.sizeOf75
  v51 := Tryd.zeroValue75
  t146 := Tryd.underlying76
  a146 := Tryd.isAgg76
  z146 := Tryd.sizeOf76
  v146 := Tryd.zeroValue76
  g1 := by kernel_rfl }
open Go.RowKit Go.Lib in
/-- internal/stringslite.Index (what strings.Index calls) AT A substr OF ONE BYTE c: IT RETURNS 'Lib.indexByte s c'; the world is as it was. (LAID: no walk: one application.) -/
theorem Tryd.stringslite_Index_one (s : ByteArray) (c : UInt8) (w : World) :
    Calls Tryd.prog 54 #[.string s, .string ⟨#[c]⟩] w fun e w' => e = .returned (.int .i64 (Lib.indexByte s.data.toList c)) ∧ w' = w := Any.stringslite_Index_one Tryd.lays219 s c w
open Go.RowKit Go.Lib in
/-- internal/stringslite.Index (what strings.Index calls) AT A substr OF WHATEVER LENGTH: IT RETURNS 'Lib.index s substr'; the world is as it was. 'm': what internal/bytealg.MaxLen holds: whatever. (LAID: no walk: one application.) -/
theorem Tryd.stringslite_Index (s sub : ByteArray) (m : Int) (w : World) (hs : s.size < 4294967281) (hm : w.cell? ⟨0, 0, none⟩ = some (.int .i64 m)) :
    Calls Tryd.prog 54 #[.string s, .string sub] w fun e w' => e = .returned (.int .i64 (Lib.index s.data.toList sub.data.toList)) ∧ w' = w := Any.stringslite_Index Tryd.lays219 s sub m w hs hm
def Tryd.lays143_ren : Go.Shelf.Ren := ⟨fun | 143 => 48 | 219 => 54 | 217 => 55 | 225 => 56 | 224 => 57 | 267 => 58 | 266 => 59 | 314 => 60 | n => n, fun | 9 => 9 | 3 => 3 | 4 => 4 | 5 => 5 | 46 => 69 | 146 => 76 | 51 => 75 | n => n, fun | 1 => 0 | n => n⟩
theorem Tryd.lays143 : Go.Proofs.Lays.n143 Tryd.prog Tryd.lays143_ren := {
  mixed := by kernel_rfl
  f143 := Tryd.func48.trans (congrArg some (by kernel_rfl))
  f217 := Tryd.func55.trans (congrArg some (by kernel_rfl))
  f219 := Tryd.func54.trans (congrArg some (by kernel_rfl))
  f224 := Tryd.func57.trans (congrArg some (by kernel_rfl))
  f225 := Tryd.func56.trans (congrArg some (by kernel_rfl))
  f266 := Tryd.func59.trans (congrArg some (by kernel_rfl))
  f267 := Tryd.func58.trans (congrArg some (by kernel_rfl))
  f314 := Tryd.func60.trans (congrArg some (by kernel_rfl))
  t3 := Tryd.underlying3
  a3 := Tryd.isAgg3
  z3 := Tryd.sizeOf3
  v3 := Tryd.zeroValue3
  t4 := Tryd.underlying4
  a4 := Tryd.isAgg4
  z4 := Tryd.sizeOf4
  v4 := Tryd.zeroValue4
  t5 := Tryd.underlying5
  a5 := Tryd.isAgg5
  z5 := Tryd.sizeOf5
  v5 := Tryd.zeroValue5
  t9 := Tryd.underlying9
  a9 := Tryd.isAgg9
  z9 := Tryd.sizeOf9
  v9 := Tryd.zeroValue9
  t46 := Tryd.underlying69
  a46 := Tryd.isAgg69
  z46 := Tryd.sizeOf69
  v46 := Tryd.zeroValue69
  t51 := Tryd.underlying75
  a51 := Tryd.isAgg75
  z51 := Tryd.sizeOf75
  v51 := Tryd.zeroValue75
  t146 := Tryd.underlying76
  a146 := Tryd.isAgg76
  z146 := Tryd.sizeOf76
  v146 := Tryd.zeroValue76
  g1 := by kernel_rfl }
open Go.RowKit Go.Lib in
/-- strings.Index: "Index returns the index of the first instance of substr in s, or -1 if substr is not present in s.": AT A substr OF ONE BYTE c: IT RETURNS 'Lib.indexByte s c'; the world is as it was. (LAID: no walk: one application.) -/
theorem Tryd.strings_Index_one (s : ByteArray) (c : UInt8) (w : World) :
    Calls Tryd.prog 48 #[.string s, .string ⟨#[c]⟩] w fun e w' => e = .returned (.int .i64 (Lib.indexByte s.data.toList c)) ∧ w' = w := Any.strings_Index_one Tryd.lays143 s c w
open Go.RowKit Go.Lib in
/-- strings.Index: "Index returns the index of the first instance of substr in s, or -1 if substr is not present in s.": IT RETURNS 'Lib.index s substr'; the world is as it was. (LAID: no walk: one application.) -/
theorem Tryd.strings_Index (s sub : ByteArray) (m : Int) (w : World) (hs : s.size < 4294967281) (hm : w.cell? ⟨0, 0, none⟩ = some (.int .i64 m)) :
    Calls Tryd.prog 48 #[.string s, .string sub] w fun e w' => e = .returned (.int .i64 (Lib.index s.data.toList sub.data.toList)) ∧ w' = w := Any.strings_Index Tryd.lays143 s sub m w hs hm
def Tryd.laysM219_ren : Go.Shelf.Ren := ⟨fun | 219 => 54 | 217 => 55 | 225 => 56 | 224 => 57 | 267 => 58 | 266 => 59 | 314 => 60 | n => n, fun | 9 => 9 | 3 => 3 | 4 => 4 | 5 => 5 | 46 => 69 | 146 => 76 | 51 => 75 | n => n, fun | 1 => 0 | n => n⟩
theorem Tryd.laysM219 : Go.Proofs.LaysM.n219 Tryd.prog Tryd.laysM219_ren := {
  mixed := by kernel_rfl
  f217 := Tryd.func55.trans (congrArg some (by kernel_rfl))
  f219 := Tryd.func54.trans (congrArg some (by kernel_rfl))
  f224 := Tryd.func57.trans (congrArg some (by kernel_rfl))
  f225 := Tryd.func56.trans (congrArg some (by kernel_rfl))
  f266 := Tryd.func59.trans (congrArg some (by kernel_rfl))
  f267 := Tryd.func58.trans (congrArg some (by kernel_rfl))
  f314 := Tryd.func60.trans (congrArg some (by kernel_rfl))
  t3 := Tryd.underlying3
  a3 := Tryd.isAgg3
  z3 := Tryd.sizeOf3
  v3 := Tryd.zeroValue3
  t4 := Tryd.underlying4
  a4 := Tryd.isAgg4
  z4 := Tryd.sizeOf4
  v4 := Tryd.zeroValue4
  t5 := Tryd.underlying5
  a5 := Tryd.isAgg5
  z5 := Tryd.sizeOf5
  v5 := Tryd.zeroValue5
  t9 := Tryd.underlying9
  a9 := Tryd.isAgg9
  z9 := Tryd.sizeOf9
  v9 := Tryd.zeroValue9
  t46 := Tryd.underlying69
  a46 := Tryd.isAgg69
  z46 := Tryd.sizeOf69
  v46 := Tryd.zeroValue69
  t51 := Tryd.underlying75
  a51 := Tryd.isAgg75
  z51 := Tryd.sizeOf75
  v51 := Tryd.zeroValue75
  t146 := Tryd.underlying76
  a146 := Tryd.isAgg76
  z146 := Tryd.sizeOf76
  v146 := Tryd.zeroValue76
  g1 := by kernel_rfl
  i3 := by kernel_rfl
  i4 := by kernel_rfl
  i5 := by kernel_rfl
  i9 := by kernel_rfl
  i46 := by kernel_rfl
  i51 := by kernel_rfl
  i146 := by kernel_rfl
  m1 := by kernel_rfl
  s1_3 := fun w h => Go.Proofs.cell_of_shapedOpen_int (zero := #[.int .i64 0]) (t := 3) h (of_decide_eq_true (by kernel_rfl)) (by kernel_rfl) rfl (by kernel_rfl) (by kernel_rfl) Tryd.underlying3 }
open Go.RowKit Go.Lib in
theorem Tryd.stringslite_Index_shaped (s sub : ByteArray) (w : World) (h : w.ShapedOpen Tryd.prog) (hs : s.size < 4294967281) :
    Calls Tryd.prog 54 #[.string s, .string sub] w fun e w' => e = .returned (.int .i64 (Lib.index s.data.toList sub.data.toList)) ∧ w' = w := Any.stringslite_Index_shaped Tryd.laysM219 s sub w h hs
def Tryd.laysM143_ren : Go.Shelf.Ren := ⟨fun | 143 => 48 | 219 => 54 | 217 => 55 | 225 => 56 | 224 => 57 | 267 => 58 | 266 => 59 | 314 => 60 | n => n, fun | 9 => 9 | 3 => 3 | 4 => 4 | 5 => 5 | 46 => 69 | 146 => 76 | 51 => 75 | n => n, fun | 1 => 0 | n => n⟩
theorem Tryd.laysM143 : Go.Proofs.LaysM.n143 Tryd.prog Tryd.laysM143_ren := {
  mixed := by kernel_rfl
  f143 := Tryd.func48.trans (congrArg some (by kernel_rfl))
  f217 := Tryd.func55.trans (congrArg some (by kernel_rfl))
  f219 := Tryd.func54.trans (congrArg some (by kernel_rfl))
  f224 := Tryd.func57.trans (congrArg some (by kernel_rfl))
  f225 := Tryd.func56.trans (congrArg some (by kernel_rfl))
  f266 := Tryd.func59.trans (congrArg some (by kernel_rfl))
  f267 := Tryd.func58.trans (congrArg some (by kernel_rfl))
  f314 := Tryd.func60.trans (congrArg some (by kernel_rfl))
  t3 := Tryd.underlying3
  a3 := Tryd.isAgg3
  z3 := Tryd.sizeOf3
  v3 := Tryd.zeroValue3
  t4 := Tryd.underlying4
  a4 := Tryd.isAgg4
  z4 := Tryd.sizeOf4
  v4 := Tryd.zeroValue4
  t5 := Tryd.underlying5
  a5 := Tryd.isAgg5
  z5 := Tryd.sizeOf5
  v5 := Tryd.zeroValue5
  t9 := Tryd.underlying9
  a9 := Tryd.isAgg9
  z9 := Tryd.sizeOf9
  v9 := Tryd.zeroValue9
  t46 := Tryd.underlying69
  a46 := Tryd.isAgg69
  z46 := Tryd.sizeOf69
  v46 := Tryd.zeroValue69
  t51 := Tryd.underlying75
  a51 := Tryd.isAgg75
  z51 := Tryd.sizeOf75
  v51 := Tryd.zeroValue75
  t146 := Tryd.underlying76
  a146 := Tryd.isAgg76
  z146 := Tryd.sizeOf76
  v146 := Tryd.zeroValue76
  g1 := by kernel_rfl
  i3 := by kernel_rfl
  i4 := by kernel_rfl
  i5 := by kernel_rfl
  i9 := by kernel_rfl
  i46 := by kernel_rfl
  i51 := by kernel_rfl
  i146 := by kernel_rfl
  m1 := by kernel_rfl
  s1_3 := fun w h => Go.Proofs.cell_of_shapedOpen_int (zero := #[.int .i64 0]) (t := 3) h (of_decide_eq_true (by kernel_rfl)) (by kernel_rfl) rfl (by kernel_rfl) (by kernel_rfl) Tryd.underlying3 }
open Go.RowKit Go.Lib in
theorem Tryd.strings_Index_shaped (s sub : ByteArray) (w : World) (h : w.ShapedOpen Tryd.prog) (hs : s.size < 4294967281) :
    Calls Tryd.prog 48 #[.string s, .string sub] w fun e w' => e = .returned (.int .i64 (Lib.index s.data.toList sub.data.toList)) ∧ w' = w := Any.strings_Index_shaped Tryd.laysM143 s sub w h hs
def Tryd.lays260_ren : Go.Shelf.Ren := ⟨fun | 260 => 53 | n => n, fun | 9 => 9 | 21 => 21 | 3 => 3 | 4 => 4 | 5 => 5 | 119 => 68 | 0 => 0 | 46 => 69 | 139 => 72 | 138 => 71 | n => n, fun | 3 => 1 | 4 => 2 | n => n⟩
theorem Tryd.lays260 : Go.Proofs.Lays.n260 Tryd.prog Tryd.lays260_ren := {
  mixed := by kernel_rfl
  f260 := Tryd.func53.trans (congrArg some (by kernel_rfl))
  t0 := Tryd.underlying0
  a0 := Tryd.isAgg0
  z0 := Tryd.sizeOf0
  v0 := Tryd.zeroValue0
  t3 := Tryd.underlying3
  a3 := Tryd.isAgg3
  z3 := Tryd.sizeOf3
  v3 := Tryd.zeroValue3
  t4 := Tryd.underlying4
  a4 := Tryd.isAgg4
  z4 := Tryd.sizeOf4
  v4 := Tryd.zeroValue4
  t5 := Tryd.underlying5
  a5 := Tryd.isAgg5
  z5 := Tryd.sizeOf5
  v5 := Tryd.zeroValue5
  t9 := Tryd.underlying9
  a9 := Tryd.isAgg9
  z9 := Tryd.sizeOf9
  v9 := Tryd.zeroValue9
  t21 := Tryd.underlying21
  a21 := Tryd.isAgg21
  z21 := Tryd.sizeOf21
  v21 := Tryd.zeroValue21
  t46 := Tryd.underlying69
  a46 := Tryd.isAgg69
  z46 := Tryd.sizeOf69
  v46 := Tryd.zeroValue69
  t119 := Tryd.underlying68
  a119 := Tryd.isAgg68
  z119 := Tryd.sizeOf68
  t138 := Tryd.underlying71
  a138 := Tryd.isAgg71
  z138 := Tryd.sizeOf71
  v138 := Tryd.zeroValue71
  t139 := Tryd.underlying72
  a139 := Tryd.isAgg72
  z139 := Tryd.sizeOf72
  v139 := Tryd.zeroValue72
  g3 := by kernel_rfl
  g4 := by kernel_rfl }
open Go.RowKit Go.Lib in
theorem Tryd.utf8_decodeRuneInStringSlow (s : ByteArray) (w : World) (hT : Lib.Utf8Tabs 1 2 w) :
    Calls Tryd.prog 53 #[.string s] w fun e w' => e = .returned (.tuple #[.int .i32 (Lib.decodeGo s).1, .int .i64 (Lib.decodeGo s).2]) ∧ Below w.heap.size w w' := Any.utf8_decodeRuneInStringSlow Tryd.lays260 s w hT
end Go.Proofs
end

section
namespace Go.Proofs.YthilbpgkhjchcaaDoor.LSplit
open Go Go.RowKit Go.Shelf Go.Lib Go.Proofs.YthilbpgkhjchcaaDoor.XSeq Go.Proofs.YthilbpgkhjchcaaDoor.LSpec Go.Proofs.YthilbpgkhjchcaaDoor.PB

attribute [local go_sem] Oper.semAt_some

abbrev encS (x : ByteArray) : Array Value := #[.string x]

theorem no_depth {p : Prop} (h : Fence.wide.depth.isSome = true) : p := by simp [Fence.wide] at h
theorem not_neg_one (i : Nat) : ((i : Int) == -1) = false := by simp

set_option maxRecDepth 100000 in
set_option maxHeartbeats 4000000 in
/-- splitSeq's closure, for every loop body. -/
theorem split1 (F : Fence) (hF : F = Fence.wide) (l bsep bs bsv : Nat) (c : UInt8) (s : ByteArray) (hs : s.size ≤ 140737488351232) (M : Nat → Prop) (b : Option Nat) (B : Nat)
    (J Jx : List ByteArray → World → Prop) (hJ : AbX M b B J) (hbM : ∀ k, b = some k → M k)
    (hrow : ∀ pre X r, J pre X → xrow b X = some r → r < X.heap.size) (w : World) (hsz : ∀ pre X, J pre X → w.heap.size ≤ X.heap.size)
    (hY : ∀ pre (x : ByteArray) X, x.size ≤ s.size → J pre X → pre.length < s.size + 1 → ∀ m, YieldAt F m Tryd.prog l (encS x) X fun e Y =>
      (e = .returned (.bool true) ∧ J (pre ++ [x]) Y ∧ KpX M b X Y) ∨ (e = .returned (.bool false) ∧ Jx (pre ++ [x]) Y ∧ KpX M b X Y))
    (h0 : J [] w) (hBs : Boxed w bs 9 (.string s)) (hBsep : Boxed w bsep 9 (.string ⟨#[c]⟩)) (hBsv : Boxed w bsv 3 (.int .i64 0))
    (hne : bs ≠ bsep ∧ bs ≠ bsv ∧ bsep ≠ bsv) (hMs : B ≤ bs ∧ ¬ M bs ∧ ¬ M bsep ∧ ¬ M bsv) (hr0 : some bs ≠ xrow b w ∧ some bsep ≠ xrow b w ∧ some bsv ≠ xrow b w) (n : Nat) :
    CallsIn F n Tryd.prog 46 #[.func (.yield l) #[] #[], .pointer (some ⟨bsep, 0, none⟩), .pointer (some ⟨bs, 0, none⟩), .pointer (some ⟨bsv, 0, none⟩)] w fun e Y => (∃ v, e = .returned v) ∧
      ((∃ xs : List ByteArray, xs.map toL = splitL c (toL s) ∧ J xs Y) ∨ (∃ pre : List ByteArray, (∃ more, pre.map toL ++ more = splitL c (toL s)) ∧ Jx pre Y)) := by
  subst hF
  refine callsIn_of_wp Tryd.func46 rfl trivial ?_ rfl
  simp only [Tryd.ntmps46, List.size_toArray, List.length_cons, List.length_nil, Nat.reduceAdd, Nat.reduceSub, Array.replicate_succ, Array.replicate_zero, List.push_toArray, List.append_toArray, List.nil_append, List.cons_append]
  have c1 := hBs.cell
  have c2 := hBsep.cell
  have c3 := hBsv.cell
  gi_wp2
  gi_loopw [7] (fun _ wr => ∃ (pre : List ByteArray) (rest : ByteArray), J pre wr ∧ pre.map toL ++ splitL c (toL rest) = splitL c (toL s) ∧ rest.size ≤ s.size ∧
      Boxed wr bs 9 (.string rest) ∧ Boxed wr bsep 9 (.string ⟨#[c]⟩) ∧ Boxed wr bsv 3 (.int .i64 0) ∧ some bs ≠ xrow b wr ∧ some bsep ≠ xrow b wr ∧ some bsv ≠ xrow b wr)
    (fun _ wr => match wr.cell? ⟨bs, 0, none⟩ with | some (.string r) => r.size | _ => 0)
  case atStart => exact ⟨[], s, h0, by simp, Nat.le_refl _, hBs, hBsep, hBsv, hr0⟩
  case round =>
    obtain ⟨pre, rest, hJs, hx, hle, b1, b2, b3, r1, r2, r3⟩ := hrel
    have c1 := b1.cell
    have c2 := b2.cell
    have c3 := b3.cell
    have hlen : pre.length < s.size + 1 := by
      have e := congrArg List.length hx
      have h1 := splitL_length c (toL s)
      have h2 : 0 < (splitL c (toL rest)).length := List.length_pos_iff.2 (splitL_ne c (toL rest))
      simp only [List.length_append, List.length_map] at e
      rw [toL_length] at h1
      omega
    rcases split_at (c := c) rest with ⟨h1, h2⟩ | ⟨i, hi, h1, h2⟩
    · have h1' : Lib.indexByte rest.data.toList c = -1 := h1
      obtain ⟨fn, tmps, assign, body, hy, hR⟩ := hY pre rest wr hle hJs hlen (n - 1)
      clear h1
      gi_wp2_with (refine ⟨trivial, no_depth, ?_⟩; (with_reducible refine (callsIn_wide.2 (Tryd.strings_Index_one rest c _)).mono ?_); rintro e w' ⟨rfl, rfl⟩; rw [h1'])
      refine ⟨no_depth, ?_⟩
      refine hR.mono ?_
      rintro e Y (⟨rfl, hJ2, hk2⟩ | ⟨rfl, hJx2, hk2⟩)
      · gi_wp2
        go_end0
        exact ⟨⟨_, rfl⟩, .inl ⟨pre ++ [rest], by rw [List.map_append, List.map_singleton, ← hx, h2], hJ2⟩⟩
      · gi_wp2
        go_end0
        exact ⟨⟨_, rfl⟩, .inr ⟨pre ++ [rest], ⟨[], by rw [List.map_append, List.map_singleton, ← hx, h2, List.append_nil]⟩, hJx2⟩⟩
    · have h1' : Lib.indexByte rest.data.toList c = (i : Int) := h1
      obtain ⟨fn, tmps, assign, body, hy, hR⟩ := hY pre (rest.extract 0 i) wr (by rw [ByteArray.size_extract]; omega) hJs hlen (n - 1)
      clear h1
      gi_wp2_with (refine ⟨trivial, no_depth, ?_⟩; (with_reducible refine (callsIn_wide.2 (Tryd.strings_Index_one rest c _)).mono ?_); rintro e w' ⟨rfl, rfl⟩; rw [h1'])
      refine ⟨no_depth, ?_⟩
      refine hR.mono ?_
      rintro e Y (⟨rfl, hJ2, hk2⟩ | ⟨rfl, hJx2, hk2⟩)
      · have d1 := hk2.boxed b1 hMs.2.1 r1
        have d2 := hk2.boxed b2 hMs.2.2.1 r2
        have d3 := hk2.boxed b3 hMs.2.2.2 r3
        have q1 := hk2.ne b1.lt r1
        have q2 := hk2.ne b2.lt r2
        have q3 := hk2.ne b3.lt r3
        have e1 := d1.cell
        have e2 := d2.cell
        have e3 := d3.cell
        have e4 := d1.frozen
        gi_wp2
        go_roundw
        case rel => 
          have hrs : xrow b (Y.setCell ⟨bs, 0, none⟩ (.string (rest.extract (i + 1) rest.size))) = xrow b Y :=
            xrow_of_block (fun k e => Below.heap_setCell Y ⟨bs, 0, none⟩ _ k (fun e' => hMs.2.1 (by rw [← show k = bs from e']; exact hbM k e)))
          exact ⟨pre ++ [rest.extract 0 i], rest.extract (i + 1) rest.size, hJ.setCell _ hJ2 hMs.1 hMs.2.1 q1, by rw [List.map_append, List.map_singleton, ← hx, h2, List.append_assoc]; rfl, by rw [ByteArray.size_extract]; omega,
            d1.set _, d2.kept (grownBy_setCell' Y bs _) (fun e => hne.1 (by cases e; rfl)), d3.kept (grownBy_setCell' Y bs _) (fun e => hne.2.1 (by cases e; rfl)), by rw [hrs]; exact q1, by rw [hrs]; exact q2, by rw [hrs]; exact q3⟩
        case measure =>
          rw [(d1.set (.string (rest.extract (i + 1) rest.size))).cell, c1]
          simp only [ByteArray.size_extract]
          omega
      · gi_wp2
        refine bodyPost_ret (results_none rfl _ _ _) rfl ?_
        exact ⟨⟨_, rfl⟩, .inr ⟨pre ++ [rest.extract 0 i], ⟨_, by rw [List.map_append, List.map_singleton, ← hx, h2, List.append_assoc]; rfl⟩, hJx2⟩⟩

end Go.Proofs.YthilbpgkhjchcaaDoor.LSplit
end

section
namespace Go.Proofs.YthilbpgkhjchcaaDoor.P
open Go.RowKit Go.Proofs.YthilbpgkhjchcaaDoorW.PrintWords Go.Proofs.YthilbpgkhjchcaaDoorW.PrintLast Go.Proofs.YthilbpgkhjchcaaDoorW.PrintMore
attribute [local go_sem] max2_int min2_int max_two min_two max_three min_three max_four min_four   -- for this text's walks alone
set_option linter.unusedVariables false
set_option linter.unusedSimpArgs false

/-! ### octet_blank: function 41 -/
def octet_blank.f (a0 : Int) : Option (Bool) := if a0 = 32 then (some true) else (some (a0 == 9))
set_option maxHeartbeats 8000000 in
set_option maxRecDepth 100000 in
theorem octet_blank.calls (a0 : Int) (r : Bool) (w : World) (h : octet_blank.f a0 = some r) :
    Calls Tryd.prog 41 #[.int .u8 a0] w fun e w' => e = .returned (.bool r) ∧ Drawn0 w w' := by
  have H : (if a0 = 32 then (some true) else (some (a0 == 9))) = some r := h
  clear h
  by_cases c2 : a0 = 32
  · rw [if_pos c2] at H
    have c2b0 : (a0 == 32) = true := beq_iff_eq.mpr c2
    have c2b1 : (a0 != 32) = false := bne_eq_false_iff_eq.mpr c2
    clear c2
    obtain rfl := Option.some.inj H
    go_enter Tryd.func41, Tryd.ntmps41
    go_wp2
    go_ret
    exact ⟨by first | rfl | (simp; done) | (simp [*]; done), by repeat (first | exact Drawn0.refl _ | apply Drawn0.step)⟩
  · rw [if_neg c2] at H
    have c2b0 : (a0 == 32) = false := beq_eq_false_iff_ne.mpr c2
    have c2b1 : (a0 != 32) = true := bne_iff_ne.mpr c2
    obtain rfl := Option.some.inj H
    go_enter Tryd.func41, Tryd.ntmps41
    go_wp2
    go_ret
    exact ⟨by first | rfl | (simp; done) | (simp [*]; done), by repeat (first | exact Drawn0.refl _ | apply Drawn0.step)⟩

end Go.Proofs.YthilbpgkhjchcaaDoor.P
end

section
namespace Go.Proofs.YthilbpgkhjchcaaDoor.P
open Go.RowKit Go.Proofs.YthilbpgkhjchcaaDoorW.PrintWords Go.Proofs.YthilbpgkhjchcaaDoorW.PrintLast Go.Proofs.YthilbpgkhjchcaaDoorW.PrintMore
attribute [local go_sem] max2_int min2_int max_two min_two max_three min_three max_four min_four   -- for this text's walks alone
set_option linter.unusedVariables false
set_option linter.unusedSimpArgs false

/-! ### octet_Trim: function 31 -/
mutual
def octet_Trim.j1 : Nat → ByteArray → Option (ByteArray)
  | 0, _ => none
  | k + 1, x0 => octet_Trim.l1 k x0
def octet_Trim.l1 : Nat → ByteArray → Option (ByteArray)
  | 0, _ => none
  | k + 1, x0 => if x0.toList = ([] : List UInt8) then (some x0) else (if 0 ≤ (wrap64 ((x0.size : Int) - 1)) then (if (wrap64 ((x0.size : Int) - 1)) < (x0.size : Int) then ((octet_blank.f (bt x0 (wrap64 ((x0.size : Int) - 1)))).bind fun t318 => (if t318 = true then (if (wrap64 ((x0.size : Int) - 1)) ≤ (x0.size : Int) then (octet_Trim.l1 k (x0.extract 0 ((wrap64 ((x0.size : Int) - 1)) : Int).toNat)) else (none)) else (some x0))) else (none)) else (none))
def octet_Trim.l0 : Nat → ByteArray → Option (ByteArray)
  | 0, _ => none
  | k + 1, x0 => if x0.toList = ([] : List UInt8) then (octet_Trim.j1 k x0) else (if 0 < (x0.size : Int) then ((octet_blank.f (bt x0 0)).bind fun t317 => (if t317 = true then (if 1 ≤ (x0.size : Int) then (octet_Trim.l0 k (x0.extract 1 x0.size)) else (none)) else (octet_Trim.j1 k x0))) else (none))
end
def octet_Trim.f (k : Nat) (a0 : ByteArray) : Option (ByteArray) := octet_Trim.l0 k a0
theorem octet_Trim.mono_l : ∀ k, (∀ y0, LeO (octet_Trim.j1 k y0) (octet_Trim.j1 (k + 1) y0)) ∧ (∀ y0, LeO (octet_Trim.l1 k y0) (octet_Trim.l1 (k + 1) y0)) ∧ (∀ y0, LeO (octet_Trim.l0 k y0) (octet_Trim.l0 (k + 1) y0))
  | 0 => ⟨fun _ r h => by simp [octet_Trim.j1] at h, fun _ r h => by simp [octet_Trim.l1] at h, fun _ r h => by simp [octet_Trim.l0] at h⟩
  | k + 1 => by
    obtain ⟨ih0, ih1, ih2⟩ := octet_Trim.mono_l k
    refine ⟨?_, ?_, ?_⟩
    · intro y0
      unfold octet_Trim.j1
      repeat' first
      | (with_reducible exact ih0 _)
      | (with_reducible exact ih1 _)
      | (with_reducible exact ih2 _)
      | (with_reducible exact LeO.refl _)
      | (with_reducible exact LeO.none _)
      | (with_reducible refine LeO.ite ?_ ?_)
      | (with_reducible refine LeO.bind ?_ (fun _ => ?_))
      | exact ih0 _
      | exact ih1 _
      | exact ih2 _
      | exact LeO.none _
      | refine LeO.ite ?_ ?_
      | refine LeO.bind ?_ (fun _ => ?_)
    · intro y0
      unfold octet_Trim.l1
      repeat' first
      | (with_reducible exact ih0 _)
      | (with_reducible exact ih1 _)
      | (with_reducible exact ih2 _)
      | (with_reducible exact LeO.refl _)
      | (with_reducible exact LeO.none _)
      | (with_reducible refine LeO.ite ?_ ?_)
      | (with_reducible refine LeO.bind ?_ (fun _ => ?_))
      | exact ih0 _
      | exact ih1 _
      | exact ih2 _
      | exact LeO.none _
      | refine LeO.ite ?_ ?_
      | refine LeO.bind ?_ (fun _ => ?_)
    · intro y0
      unfold octet_Trim.l0
      repeat' first
      | (with_reducible exact ih0 _)
      | (with_reducible exact ih1 _)
      | (with_reducible exact ih2 _)
      | (with_reducible exact LeO.refl _)
      | (with_reducible exact LeO.none _)
      | (with_reducible refine LeO.ite ?_ ?_)
      | (with_reducible refine LeO.bind ?_ (fun _ => ?_))
      | exact ih0 _
      | exact ih1 _
      | exact ih2 _
      | exact LeO.none _
      | refine LeO.ite ?_ ?_
      | refine LeO.bind ?_ (fun _ => ?_)
theorem octet_Trim.mono : ∀ a0 k, LeO (octet_Trim.f k a0) (octet_Trim.f (k + 1) a0) := by
  intro a0 k
  obtain ⟨ih0, ih1, ih2⟩ := octet_Trim.mono_l k
  unfold octet_Trim.f
  repeat' first
      | (with_reducible exact ih0 _)
      | (with_reducible exact ih1 _)
      | (with_reducible exact ih2 _)
      | (with_reducible exact LeO.refl _)
      | (with_reducible exact LeO.none _)
      | (with_reducible refine LeO.ite ?_ ?_)
      | (with_reducible refine LeO.bind ?_ (fun _ => ?_))
      | exact ih0 _
      | exact ih1 _
      | exact ih2 _
      | exact LeO.none _
      | refine LeO.ite ?_ ?_
      | refine LeO.bind ?_ (fun _ => ?_)
set_option maxHeartbeats 8000000 in
set_option maxRecDepth 100000 in
theorem octet_Trim.calls (k : Nat) (a0 : ByteArray) (r : ByteArray) (w : World) (h : octet_Trim.f k a0 = some r) :
    Calls Tryd.prog 31 #[.string a0] w fun e w' => e = .returned (.string r) ∧ Drawn0 w w' := by
  have H : (octet_Trim.l0 k a0) = some r := h
  clear h
  have HC2 := Aside0.mk H
  clear H
  go_enter Tryd.func31, Tryd.ntmps31
  go_upto_block 0 with (fail)
  go_cut [0] (fun v0 wc => ∃ (kq : Nat) (x0_1 : ByteArray), v0 = .string x0_1 ∧ Aside0 (octet_Trim.j1 kq x0_1 = some r) ∧ Aside0 (kq ≤ k) ∧ Drawn0 w wc)
  case first =>
    have H := HC2.out
    clear HC2
    have H' := Aside0.mk H
    clear H
    go_wp2
    go_loopg [0] k (fun kq v0 w' => ∃ (x0_1 : ByteArray), v0 = .string x0_1 ∧ Aside0 (octet_Trim.l0 kq x0_1 = some r) ∧ Aside0 (kq ≤ k) ∧ Drawn0 w w')
    case atStart => exact ⟨(a0), (by first | rfl | (simp; done) | (simp [*]; done)), H', ⟨Nat.le_refl _⟩, by repeat (first | exact Drawn0.refl _ | apply Drawn0.step)⟩
    case round =>
      clear H'
      try clear p2
      obtain ⟨x0_1, rfl, HA, HK1, ⟨m1, rfl⟩⟩ := hrel
      cases gk with
      | zero => exact absurd HA.out (by simp [octet_Trim.l0])
      | succ k1 =>
        have H := HA.out
        clear HA
        simp only [octet_Trim.l0] at H
        by_cases c3 : x0_1.toList = ([] : List UInt8)
        · rw [if_pos c3] at H
          have c3b0 : (x0_1.toList == ([] : List UInt8)) = true := beq_iff_eq.mpr c3
          have c3b1 : (x0_1.toList != ([] : List UInt8)) = false := bne_eq_false_iff_eq.mpr c3
          clear c3
          (first | rw [c3b0] | (simp only [i64_w, i32_w]; rw [c3b0]) | skip)
          have H' := Aside0.mk H
          clear H
          go_wp2
          go_meet
          case rel => exact ⟨_, (x0_1), (by first | rfl | (simp; done) | (simp [*]; done)), H', ⟨by have := HK1.out; first | omega | exact Nat.le_refl _⟩, by repeat (first | exact Drawn0.refl _ | apply Drawn0.step)⟩
        · rw [if_neg c3] at H
          have c3b0 : (x0_1.toList == ([] : List UInt8)) = false := beq_eq_false_iff_ne.mpr c3
          have c3b1 : (x0_1.toList != ([] : List UInt8)) = true := bne_iff_ne.mpr c3
          (first | rw [c3b0] | (simp only [i64_w, i32_w]; rw [c3b0]) | skip)
          by_cases c4 : 0 < (x0_1.size : Int)
          · rw [if_pos c4] at H
            have c4b0 : decide (0 < (x0_1.size : Int)) = true := decide_eq_true c4
            have c4b1 : decide (0 < x0_1.size) = true := decide_eq_true (by omega)
            clear c4
            replace H := Option.bind_eq_some_iff.mp H
            obtain ⟨t317, A60, H⟩ := H
            replace H : (if t317 = true then (if 1 ≤ (x0_1.size : Int) then (octet_Trim.l0 k1 (x0_1.extract 1 x0_1.size)) else (none)) else (octet_Trim.j1 k1 x0_1)) = some r := H
            have A6 := Aside0.mk A60
            clear A60
            by_cases c7 : t317 = true
            · subst c7
              have H1 : (if 1 ≤ (x0_1.size : Int) then (octet_Trim.l0 k1 (x0_1.extract 1 x0_1.size)) else (none)) = some r := by rw [if_pos rfl] at H; exact H
              clear H
              have H := H1
              clear H1
              by_cases c8 : 1 ≤ (x0_1.size : Int)
              · rw [if_pos c8] at H
                have c8b0 := eq_true c8
                have c8b1 : decide (1 ≤ (x0_1.size : Int)) = true := decide_eq_true c8
                clear c8
                have H' := Aside0.mk H
                clear H
                have p5 : 0 ≤ (0 : Int) := (by omega)
                have q5 : 0 < x0_1.size := (by have : (0 : Int) < (x0_1.size : Int) := of_decide_eq_true (by first | (with_reducible assumption) | assumption); omega)
                have hx5 : ∀ h : 0 < x0_1.size, ((x0_1[0]'h).toNat : Int) = bt x0_1 0 := bt_at x0_1 0
                clear p5
                have qi5 : (0 < (x0_1.size : Int)) = True := eq_true (of_decide_eq_true (by first | (with_reducible assumption) | assumption))
                replace q5 := eq_true q5
                go_wp2_with (first | (go_at_call 41; (with_reducible refine (octet_blank.calls (bt x0_1 0) true _ A6.out).mono ?_); rintro e w' ⟨rfl, ⟨nd, rfl⟩⟩))
                go_roundg k1
                case measure => have := HK1.out; omega
                case rel => exact ⟨(x0_1.extract 1 x0_1.size), (by first | rfl | (simp; done) | (simp [*]; done)), H', ⟨by have := HK1.out; omega⟩, by repeat (first | exact Drawn0.refl _ | apply Drawn0.step)⟩
              · rw [if_neg c8] at H
                exact absurd H (by simp)
            · replace c7 := Bool.eq_false_iff.mpr c7
              subst c7
              have H1 : (octet_Trim.j1 k1 x0_1) = some r := by rw [if_neg (show ¬ (false = true) by decide)] at H; exact H
              clear H
              have H := H1
              clear H1
              have H' := Aside0.mk H
              clear H
              have p5 : 0 ≤ (0 : Int) := (by omega)
              have q5 : 0 < x0_1.size := (by have : (0 : Int) < (x0_1.size : Int) := of_decide_eq_true (by first | (with_reducible assumption) | assumption); omega)
              have hx5 : ∀ h : 0 < x0_1.size, ((x0_1[0]'h).toNat : Int) = bt x0_1 0 := bt_at x0_1 0
              clear p5
              have qi5 : (0 < (x0_1.size : Int)) = True := eq_true (of_decide_eq_true (by first | (with_reducible assumption) | assumption))
              replace q5 := eq_true q5
              go_wp2_with (first | (go_at_call 41; (with_reducible refine (octet_blank.calls (bt x0_1 0) false _ A6.out).mono ?_); rintro e w' ⟨rfl, ⟨nd, rfl⟩⟩))
              go_meet
              case rel => exact ⟨_, (x0_1), (by first | rfl | (simp; done) | (simp [*]; done)), H', ⟨by have := HK1.out; first | omega | exact Nat.le_refl _⟩, by repeat (first | exact Drawn0.refl _ | apply Drawn0.step)⟩
          · rw [if_neg c4] at H
            exact absurd H (by simp)
  case rest =>
    clear HC2
    try clear p2
    try clear c3
    try clear c3b0
    try clear c3b1
    try clear c4
    try clear c4b0
    try clear c4b1
    try clear p5
    try clear q5
    try clear hx5
    try clear qi5
    try clear c7
    try clear c8
    try clear c8b0
    try clear c8b1
    try clear p2
    try clear p5
    try clear q5
    obtain ⟨kq, x0_1, rfl, HA, HJ1, ⟨mc1, rfl⟩⟩ := hcut
    cases kq with
    | zero => exact absurd HA.out (by simp [octet_Trim.j1])
    | succ kj1 =>
      have H := HA.out
      clear HA
      simp only [octet_Trim.j1] at H
      have H' := Aside0.mk H
      clear H
      go_wp2
      go_loopg [0] kj1 (fun kq v0 w' => ∃ (x0_2 : ByteArray), v0 = .string x0_2 ∧ Aside0 (octet_Trim.l1 kq x0_2 = some r) ∧ Aside0 (kq ≤ kj1) ∧ Drawn0 w w')
      case atStart => exact ⟨(x0_1), (by first | rfl | (simp; done) | (simp [*]; done)), H', ⟨Nat.le_refl _⟩, by repeat (first | exact Drawn0.refl _ | apply Drawn0.step)⟩
      case round =>
        clear H'
        try clear c1
        try clear p2
        try clear c3
        try clear c3b0
        try clear c3b1
        try clear c4
        try clear c4b0
        try clear c4b1
        try clear p5
        try clear q5
        try clear hx5
        try clear qi5
        try clear c7
        try clear c8
        try clear c8b0
        try clear c8b1
        try clear p2
        try clear p5
        try clear q5
        obtain ⟨x0_2, rfl, HA, HK2, ⟨m2, rfl⟩⟩ := hrel
        cases gk with
        | zero => exact absurd HA.out (by simp [octet_Trim.l1])
        | succ k2 =>
          have H := HA.out
          clear HA
          simp only [octet_Trim.l1] at H
          by_cases c9 : x0_2.toList = ([] : List UInt8)
          · rw [if_pos c9] at H
            have c9b0 : (x0_2.toList == ([] : List UInt8)) = true := beq_iff_eq.mpr c9
            have c9b1 : (x0_2.toList != ([] : List UInt8)) = false := bne_eq_false_iff_eq.mpr c9
            clear c9
            obtain rfl := Option.some.inj H
            go_wp2
            go_ret
            exact ⟨by first | rfl | (simp; done) | (simp [*]; done), by repeat (first | exact Drawn0.refl _ | apply Drawn0.step)⟩
          · rw [if_neg c9] at H
            have c9b0 : (x0_2.toList == ([] : List UInt8)) = false := beq_eq_false_iff_ne.mpr c9
            have c9b1 : (x0_2.toList != ([] : List UInt8)) = true := bne_iff_ne.mpr c9
            obtain ⟨ji10, hji10⟩ : ∃ j_ : Int, (wrap64 ((x0_2.size : Int) - 1)) = j_ := ⟨_, rfl⟩
            replace H : (if 0 ≤ (ji10) then (if (ji10) < (x0_2.size : Int) then ((octet_blank.f (bt x0_2 (ji10))).bind fun t318 => (if t318 = true then (if (ji10) ≤ (x0_2.size : Int) then (octet_Trim.l1 k2 (x0_2.extract 0 ((ji10) : Int).toNat)) else (none)) else (some x0_2))) else (none)) else (none)) = some r := by first | (rw [hji10] at H; exact H) | (simp only [hji10] at H ⊢; exact H)
            have hji10w : (IntKind.i64.wrap ((x0_2.size : Int) - 1)) = ji10 := (i64_w _).trans hji10
            by_cases c11 : 0 ≤ (ji10)
            · rw [if_pos c11] at H
              have c11b0 : decide (0 ≤ (ji10)) = true := decide_eq_true c11
              clear c11
              by_cases c12 : (ji10) < (x0_2.size : Int)
              · rw [if_pos c12] at H
                have c12b0 : decide ((ji10) < (x0_2.size : Int)) = true := decide_eq_true c12
                clear c12
                replace H := Option.bind_eq_some_iff.mp H
                obtain ⟨t318, A140, H⟩ := H
                replace H : (if t318 = true then (if (ji10) ≤ (x0_2.size : Int) then (octet_Trim.l1 k2 (x0_2.extract 0 ((ji10) : Int).toNat)) else (none)) else (some x0_2)) = some r := H
                have A14 := Aside0.mk A140
                clear A140
                by_cases c15 : t318 = true
                · subst c15
                  have H1 : (if (ji10) ≤ (x0_2.size : Int) then (octet_Trim.l1 k2 (x0_2.extract 0 ((ji10) : Int).toNat)) else (none)) = some r := by rw [if_pos rfl] at H; exact H
                  clear H
                  have H := H1
                  clear H1
                  have c16b0 := eq_true (of_decide_eq_true (by first | (with_reducible assumption) | assumption) : 0 ≤ (ji10))
                  by_cases c17 : (ji10) ≤ (x0_2.size : Int)
                  · rw [if_pos c17] at H
                    have c17b0 := eq_true c17
                    have c17b1 : decide ((ji10) ≤ (x0_2.size : Int)) = true := decide_eq_true c17
                    clear c17
                    have H' := Aside0.mk H
                    clear H
                    have p13 : 0 ≤ ((ji10) : Int) := of_decide_eq_true (by first | (with_reducible assumption) | assumption)
                    have q13 : (ji10) < (x0_2.size : Int) := of_decide_eq_true (by first | (with_reducible assumption) | assumption)
                    have hx13 := bt_at x0_2 (ji10)
                    replace p13 := eq_true p13
                    replace q13 := eq_true q13
                    go_wp2_with (first | (go_at_call 41; (with_reducible refine (octet_blank.calls (bt x0_2 (ji10)) true _ A14.out).mono ?_); rintro e w' ⟨rfl, ⟨nd, rfl⟩⟩))
                    go_roundg k2
                    case measure => have := HJ1.out; have := HK2.out; omega
                    case rel => exact ⟨(x0_2.extract 0 ((ji10) : Int).toNat), (by first | rfl | (simp; done) | (simp only [← hji10] <;> (first | rfl | simp)) | (simp [*]; done)), H', ⟨by have := HJ1.out; have := HK2.out; omega⟩, by repeat (first | exact Drawn0.refl _ | apply Drawn0.step)⟩
                  · rw [if_neg c17] at H
                    exact absurd H (by simp)
                · replace c15 := Bool.eq_false_iff.mpr c15
                  subst c15
                  have H1 : (some x0_2) = some r := by rw [if_neg (show ¬ (false = true) by decide)] at H; exact H
                  clear H
                  have H := H1
                  clear H1
                  obtain rfl := Option.some.inj H
                  have p13 : 0 ≤ ((ji10) : Int) := of_decide_eq_true (by first | (with_reducible assumption) | assumption)
                  have q13 : (ji10) < (x0_2.size : Int) := of_decide_eq_true (by first | (with_reducible assumption) | assumption)
                  have hx13 := bt_at x0_2 (ji10)
                  replace p13 := eq_true p13
                  replace q13 := eq_true q13
                  go_wp2_with (first | (go_at_call 41; (with_reducible refine (octet_blank.calls (bt x0_2 (ji10)) false _ A14.out).mono ?_); rintro e w' ⟨rfl, ⟨nd, rfl⟩⟩))
                  go_ret
                  exact ⟨by first | rfl | (simp; done) | (simp only [← hji10] <;> (first | rfl | simp)) | (simp [*]; done), by repeat (first | exact Drawn0.refl _ | apply Drawn0.step)⟩
              · rw [if_neg c12] at H
                exact absurd H (by simp)
            · rw [if_neg c11] at H
              exact absurd H (by simp)

end Go.Proofs.YthilbpgkhjchcaaDoor.P
end

section
namespace Go.Proofs.YthilbpgkhjchcaaDoor.LTrim
open Go Go.RowKit Go.Proofs.YthilbpgkhjchcaaDoorW.PrintWords Go.Proofs.YthilbpgkhjchcaaDoor.PB Go.Proofs.YthilbpgkhjchcaaDoor.P
open Go.Proofs.YthilbpgkhjchcaaDoor.LSpec (blankL trimL)

def rtrim (l : List UInt8) : List UInt8 := (l.reverse.dropWhile blankL).reverse
theorem rtrim_nil : rtrim [] = [] := rfl
theorem rtrim_blank (a : List UInt8) (x : UInt8) (h : blankL x = true) : rtrim (a ++ [x]) = rtrim a := by simp [rtrim, h]
theorem rtrim_not (a : List UInt8) (x : UInt8) (h : blankL x = false) : rtrim (a ++ [x]) = a ++ [x] := by simp [rtrim, h]
theorem trimL_eq (l : List UInt8) : trimL l = rtrim (l.dropWhile blankL) := rfl

theorem blank_f (c : UInt8) : octet_blank.f (c.toNat : Int) = some (blankL c) := by
  unfold octet_blank.f blankL
  by_cases h : c = 32
  · subst h; rfl
  · have : ¬ ((c.toNat : Int) = 32) := fun e => h ((u8_eq_nat c 32 (by omega)).1 e)
    rw [if_neg this]
    congr 1
    rw [Bool.eq_iff_iff]
    simp only [beq_iff_eq, Bool.or_eq_true, h, false_or]
    exact u8_eq_nat c 9 (by omega)

theorem trim_l1 : ∀ (n : Nat) (l : List UInt8), l.length = n → n ≤ 140737488351232 → Ev (fun k => octet_Trim.l1 k (ofL l)) (ofL (rtrim l)) := by
  intro n
  induction n with
  | zero =>
    intro l hl _
    obtain rfl : l = [] := List.length_eq_zero_iff.1 hl
    refine Ev.step (f := fun _ => some (ofL [])) (fun k => ?_) (Ev.now _)
    simp only [octet_Trim.l1]
    rw [if_pos (by rw [toList_ofL])]
  | succ n ih =>
    intro l hl hn
    obtain ⟨a, x, rfl⟩ := ne_nil_split l (by intro e; rw [e] at hl; simp at hl)
    have ha : a.length = n := by simpa using hl
    have hs : ((ofL (a ++ [x])).size : Int) = n + 1 := by rw [size_ofL]; simp [ha]
    have hw : wrap64 (((ofL (a ++ [x])).size : Int) - 1) = n := by rw [hs, wrap64_ok (by omega) (by omega)]; omega
    have hb : bt (ofL (a ++ [x])) (n : Int) = (x.toNat : Int) := by rw [bt_ofL]; simp [← ha]
    have he : (ofL (a ++ [x])).extract 0 ((n : Int)).toNat = ofL a := by rw [extract_ofL]; simp [← ha]
    cases hx : blankL x with
    | true =>
      refine Ev.step (f := fun k => octet_Trim.l1 k (ofL a)) (fun k => ?_) (by rw [rtrim_blank _ _ hx]; exact ih a ha (by omega))
      simp only [octet_Trim.l1]
      rw [if_neg (by rw [toList_ofL]; simp), hw, if_pos (by omega), if_pos (by omega), hb, blank_f, hx]
      simp only [Option.bind_some, if_true]
      rw [if_pos (by omega), he]
    | false =>
      refine Ev.step (f := fun _ => some (ofL (a ++ [x]))) (fun k => ?_) (by rw [rtrim_not _ _ hx]; exact Ev.now _)
      simp only [octet_Trim.l1]
      rw [if_neg (by rw [toList_ofL]; simp), hw, if_pos (by omega), if_pos (by omega), hb, blank_f, hx]
      simp

theorem trim_j1 (l : List UInt8) (hn : l.length ≤ 140737488351232) : Ev (fun k => octet_Trim.j1 k (ofL l)) (ofL (rtrim l)) :=
  Ev.step (fun k => by simp only [octet_Trim.j1]) (trim_l1 _ l rfl hn)

theorem trim_l0 : ∀ (l : List UInt8), l.length ≤ 140737488351232 → Ev (fun k => octet_Trim.l0 k (ofL l)) (ofL (trimL l)) := by
  intro l
  induction l with
  | nil =>
    intro _
    refine Ev.step (f := fun k => octet_Trim.j1 k (ofL [])) (fun k => ?_) (trim_j1 [] (by simp))
    simp only [octet_Trim.l0]
    rw [if_pos (by rw [toList_ofL])]
  | cons x r ih =>
    intro hn
    have hn' : r.length + 1 ≤ 140737488351232 := by simpa using hn
    have hb : bt (ofL (x :: r)) 0 = (x.toNat : Int) := by rw [bt_ofL]; simp
    have hs : ((ofL (x :: r)).size : Int) = r.length + 1 := by rw [size_ofL]; simp
    have he : (ofL (x :: r)).extract 1 (ofL (x :: r)).size = ofL r := by rw [extract_ofL, size_ofL]; simp
    cases hx : blankL x with
    | true =>
      refine Ev.step (f := fun k => octet_Trim.l0 k (ofL r)) (fun k => ?_) (by have : trimL (x :: r) = trimL r := by simp [trimL, hx]
                                                                               rw [this]; exact ih (by omega))
      simp only [octet_Trim.l0]
      rw [if_neg (by rw [toList_ofL]; simp), if_pos (by omega), hb, blank_f, hx]
      simp only [Option.bind_some, if_true]
      rw [if_pos (by omega), he]
    | false =>
      refine Ev.step (f := fun k => octet_Trim.j1 k (ofL (x :: r))) (fun k => ?_) (by have : trimL (x :: r) = rtrim (x :: r) := by simp [trimL, rtrim, hx]
                                                                                      rw [this]; exact trim_j1 _ hn)
      simp only [octet_Trim.l0]
      rw [if_neg (by rw [toList_ofL]; simp), if_pos (by omega), hb, blank_f, hx]
      simp

theorem trim_ev (s : ByteArray) (hs : s.size ≤ 140737488351232) : Ev (fun k => octet_Trim.f k s) (ofL (trimL (toL s))) := by
  have := trim_l0 (toL s) (by rw [toL_length]; exact hs)
  rw [ofL_toL] at this
  exact this

end Go.Proofs.YthilbpgkhjchcaaDoor.LTrim
end

section
namespace Go.Proofs.YthilbpgkhjchcaaDoor.LElems
open Go Go.RowKit Go.Shelf Go.Lib Go.Proofs.YthilbpgkhjchcaaDoor.XSeq Go.Proofs.YthilbpgkhjchcaaDoor.LSplit
open Go.Proofs.YthilbpgkhjchcaaDoor.LSpec (splitL trimL elemsL elemsAll blankL)
open Go.Proofs.YthilbpgkhjchcaaDoor.PB
open Go.Proofs.YthilbpgkhjchcaaDoorW.PrintWords (Ev Drawn0)
open Go.Proofs.YthilbpgkhjchcaaDoor.P (octet_Trim.f octet_Trim.calls)

attribute [local go_sem] Oper.semAt_some

set_option maxHeartbeats 1000000 in
theorem splitSeq_calls (s sep : ByteArray) (v : Int) (w : World) : Calls Tryd.prog 40 #[.string s, .string sep, .int .i64 v] w fun e w' =>
    e = .returned (.func (.func 46) #[] #[.pointer (some ⟨w.heap.size + 1, 0, none⟩), .pointer (some ⟨w.heap.size, 0, none⟩), .pointer (some ⟨w.heap.size + 2, 0, none⟩)]) ∧
    w' = ((w.alloc (.cells #[.string s] 9)).alloc (.cells #[.string sep] 9)).alloc (.cells #[.int .i64 v] 3) := by
  go_enter Tryd.func40, Tryd.ntmps40
  go_wp2
  go_ret
  exact ⟨rfl, rfl⟩

set_option maxHeartbeats 1000000 in
theorem SplitSeq_calls (s sep : ByteArray) (w : World) : Calls Tryd.prog 30 #[.string s, .string sep] w fun e w' =>
    e = .returned (.func (.func 46) #[] #[.pointer (some ⟨w.heap.size + 1, 0, none⟩), .pointer (some ⟨w.heap.size, 0, none⟩), .pointer (some ⟨w.heap.size + 2, 0, none⟩)]) ∧
    w' = ((w.alloc (.cells #[.string s] 9)).alloc (.cells #[.string sep] 9)).alloc (.cells #[.int .i64 0] 3) := by
  go_enter Tryd.func30, Tryd.ntmps30
  go_wp2_with ((with_reducible refine (splitSeq_calls s sep 0 _).mono ?_); rintro e w' ⟨rfl, rfl⟩)
  go_ret
  exact ⟨rfl, rfl⟩

/-- a text's elements. -/
def pieces (ps : List ByteArray) : List ByteArray := ((ps.map toL).map trimL).filter (fun p => !p.isEmpty) |>.map ofL
theorem pieces_snoc (ps : List ByteArray) (x : ByteArray) : pieces (ps ++ [x]) = pieces ps ++ (if (trimL (toL x)).isEmpty then [] else [ofL (trimL (toL x))]) := by
  unfold pieces
  cases h : (trimL (toL x)).isEmpty <;> simp [h]

theorem pieces_split {ps : List ByteArray} {x : ByteArray} (h : ps.map toL = splitL 44 (toL x)) : pieces ps = (elemsL (toL x)).map ofL := by
  unfold pieces elemsL; rw [h]
theorem pieces_prefix {ps : List ByteArray} {x : ByteArray} {more : List (List UInt8)} (h : ps.map toL ++ more = splitL 44 (toL x)) : ∃ more', pieces ps ++ more' = (elemsL (toL x)).map ofL := by
  refine ⟨((more.map trimL).filter (fun p => !p.isEmpty)).map ofL, ?_⟩
  unfold pieces elemsL
  rw [← h]
  simp
theorem pieces_length (ps : List ByteArray) : (pieces ps).length ≤ ps.length := by
  unfold pieces
  rw [List.length_map]
  exact Nat.le_trans (List.length_filter_le _ _) (by simp)
theorem total_split (l : List ByteArray) (k : Nat) (h : k < l.length) : LSpec.total (l.take k) + (l[k].size + 1) ≤ LSpec.total l := by
  have e : l = l.take k ++ l[k] :: l.drop (k + 1) := by rw [← List.drop_eq_getElem_cons h, List.take_append_drop]
  have : LSpec.total l = LSpec.total (l.take k) + (l[k].size + 1) + LSpec.total (l.drop (k + 1)) := by
    have e2 := congrArg LSpec.total e
    simp only [LSpec.total, List.map_append, List.map_cons, List.sum_append, List.sum_cons] at e2 ⊢
    omega
  omega
theorem blk_add (a : Addr) (i : Nat) : (a.add i).block = a.block := by unfold Addr.add; split <;> rfl
def gives (l : List ByteArray) : List ByteArray := (elemsAll l).map ofL
theorem gives_take (l : List ByteArray) (k : Nat) (h : k < l.length) : gives (l.take (k + 1)) = gives (l.take k) ++ (elemsL (toL l[k])).map ofL := by
  unfold gives
  rw [List.take_succ_eq_append_getElem h, LSpec.elemsAll_append, LSpec.elemsAll_one, List.map_append]
theorem gives_prefix (l : List ByteArray) (k : Nat) (h : k < l.length) : ∃ more, gives (l.take k) ++ (elemsL (toL l[k])).map ofL ++ more = gives l := by
  rw [← gives_take l k h]
  refine ⟨gives (l.drop (k + 1)), ?_⟩
  unfold gives
  rw [← List.map_append, ← LSpec.elemsAll_append, List.take_append_drop]
theorem gives_length (l : List ByteArray) (k : Nat) : (gives (l.take k)).length ≤ LSpec.total (l.take k) := by
  unfold gives; rw [List.length_map]; exact LSpec.elemsAll_length _

set_option maxRecDepth 100000 in
set_option maxHeartbeats 4000000 in
/-- lists.elements' closure, for every loop body. -/
theorem elements1 (l bv : Nat) (A0 : Option Addr) (c0 : Nat) (l0 : List ByteArray) (hsize : ∀ s ∈ l0, s.size ≤ 140737488351232) (hl0 : l0.length ≤ 9223372036854775807) (M : Nat → Prop) (b : Option Nat) (B : Nat)
    (J Jx : List ByteArray → World → Prop) (hJ : AbX M b B J) (hJx : AbX M b B Jx) (hbM : ∀ k, b = some k → M k) (w : World) (hMw : ∀ k, M k → k < w.heap.size) (hB : B ≤ w.heap.size)
    (hrow : ∀ pre X r, J pre X → xrow b X = some r → r < X.heap.size)
    (hY : ∀ pre (x : ByteArray) X, x.size ≤ 140737488351232 → J pre X → pre.length < LSpec.total l0 → ∀ m, YieldAt Fence.wide m Tryd.prog l (encS x) X fun e Y =>
      (e = .returned (.bool true) ∧ J (pre ++ [x]) Y ∧ KpX M b X Y) ∨ (e = .returned (.bool false) ∧ Jx (pre ++ [x]) Y ∧ KpX M b X Y))
    (h0 : J [] w) (hbv : Kept M b bv (.cells #[.slice A0 l0.length c0] 22 (0, 0)) w)
    (hC : ∀ k, k < l0.length → ∃ ad o, A0 = some ad ∧ Kept M b ad.block o w ∧ w.cell? (ad.add k) = some (.string (l0[k]?.getD ByteArray.empty))) (n : Nat) :
    CallsIn Fence.wide n Tryd.prog 29 #[.func (.yield l) #[] #[], .pointer (some ⟨bv, 0, none⟩)] w fun e Y => (∃ v, e = .returned v) ∧
      ((∃ xs, xs = gives l0 ∧ J xs Y) ∨ (∃ pre : List ByteArray, (∃ more, pre ++ more = gives l0) ∧ Jx pre Y)) := by
  refine callsIn_of_wp_marks Tryd.func29 rfl trivial ?_ rfl
  simp only [Tryd.ntmps29, List.size_toArray, List.length_cons, List.length_nil, Nat.reduceAdd, Nat.reduceSub, Array.replicate_succ, Array.replicate_zero, List.push_toArray, List.append_toArray, List.nil_append, List.cons_append]
  have hbv1 := hbv.alloc (.cells #[.func (.yield l) #[] #[]] 35)
  have c1 := hbv1.boxed.cell
  gi_wp2
  have hw1 : Below w.heap.size w (w.alloc (.cells #[.func (.yield l) #[] #[]] 35)) := (Below.refl _ w).alloc (Nat.le_refl _) _
  have hby : Kept M b w.heap.size (.cells #[.func (.yield l) #[] #[]] 35 (0, 0)) (w.alloc (.cells #[.func (.yield l) #[] #[]] 35)) :=
    ⟨World.alloc_heap_new w _, fun h => by have := hMw _ h; omega, fun e => by
      rw [xrow_of_block (fun k e => hw1.block k (hMw k (hbM k e)))] at e
      have := hrow _ _ _ h0 e.symm
      omega, fun j e => by have := hMw j (hbM j e); simp; omega⟩
  have h01 : J [] (w.alloc (.cells #[.func (.yield l) #[] #[]] 35)) := hJ.alloc _ h0
  have hC1 : ∀ k, k < l0.length → ∃ ad o, A0 = some ad ∧ Kept M b ad.block o (w.alloc (.cells #[.func (.yield l) #[] #[]] 35)) ∧ (w.alloc (.cells #[.func (.yield l) #[] #[]] 35)).cell? (ad.add k) = some (.string (l0[k]?.getD ByteArray.empty)) := by
    intro k hk
    obtain ⟨ad, o, e1, e2, e3⟩ := hC k hk
    exact ⟨ad, o, e1, e2.alloc _, (hw1.cell (p := ad.add k) (by have := e2.lt; rw [blk_add] ; exact this)).trans e3⟩
  clear c1
  have hs1 : (w.alloc (.cells #[.func (.yield l) #[] #[]] 35)).heap.size = w.heap.size + 1 := by simp
  generalize w.alloc (.cells #[.func (.yield l) #[] #[]] 35) = w1 at *
  refine wpIn_loop (fun a wr => ∃ (k : Nat) (ds : List Deferred) (u4 u5 u9 u10 u11 u12 u13 u14 u15 u16 u17 u18 u19 u20 u21 u22 u23 u24 u25 : Value),
      a = { tmps := #[.func (.yield l) #[] #[], .pointer (some ⟨bv, 0, none⟩), .pointer (some ⟨w.heap.size, 0, none⟩), undef, u4, u5, .slice A0 l0.length c0, .int .i64 l0.length, .int .i64 k, u9, u10, u11, u12, u13, u14, u15, u16, u17, u18, u19, u20, u21, u22, u23, u24, u25], defers := ds } ∧
      k ≤ l0.length ∧ J (gives (l0.take k)) wr ∧ KeepAll M b w1 wr ∧ Marks M b ds wr ∧ (∀ r, { target := Target.collected r, args := #[] } ∈ ds → w1.heap.size ≤ r) ∧ w1.heap.size ≤ wr.heap.size)
    (fun a _ => l0.length - (RowKit.intOf (a.tmps.getD 8 undef)).toNat) ?_ ?_
  · exact ⟨0, [], _, _, _, _, _, _, _, _, _, _, _, _, _, _, _, _, _, _, _, rfl, Nat.zero_le _, by simpa [gives, elemsAll] using h01, KeepAll.refl _ _ _, Marks.nil _ _ _, by simp, Nat.le_refl _⟩
  rintro a wr ⟨k, ds, u4, u5, u9, u10, u11, u12, u13, u14, u15, u16, u17, u18, u19, u20, u21, u22, u23, u24, u25, rfl, hk, hJr, hka, hm, hds, hsz⟩
  by_cases hlt : k < l0.length
  · obtain ⟨ad, o, rfl, hko, hcell⟩ := hC1 k hlt
    have hko2 := hka _ _ hko
    have hcell2 : wr.cell? (ad.add k) = some (.string (l0[k]?.getD ByteArray.empty)) := by
      rw [← hcell]; exact World.cell?_of_block (by rw [blk_add, hko2.obj, hko.obj])
    have hby2 := hka _ _ hby
    gi_wp2_with (refine ⟨trivial, no_depth, ?_⟩; (with_reducible refine (callsIn_wide.2 (SplitSeq_calls _ _ _)).mono ?_); rintro e w' ⟨rfl, rfl⟩)
    have hxl : l0[k].size ≤ 140737488351232 := hsize _ (List.getElem_mem hlt)
    have htot := total_split l0 k hlt
    have hgl := gives_length l0 k
    have hgt := gives_take l0 k hlt
    have hgp := gives_prefix l0 k hlt
    generalize l0[k] = x at *
    have hb3 : Below wr.heap.size wr (((wr.alloc (.cells #[.string x] 9)).alloc (.cells #[.string ⟨#[44]⟩] 9)).alloc (.cells #[.int .i64 0] 3)) :=
      (((Below.refl _ wr).alloc (Nat.le_refl _) _).alloc (by simp) _).alloc (by simp; omega) _
    have hs3 : (((wr.alloc (.cells #[.string x] 9)).alloc (.cells #[.string ⟨#[44]⟩] 9)).alloc (.cells #[.int .i64 0] 3)).heap.size = wr.heap.size + 3 := by simp
    have bS := ((Boxed.new wr 9 (.string x)).alloc (.cells #[.string ⟨#[44]⟩] 9)).alloc (.cells #[.int .i64 0] 3)
    have bP := (Boxed.new (wr.alloc (.cells #[.string x] 9)) 9 (.string ⟨#[44]⟩)).alloc (.cells #[.int .i64 0] 3)
    have bV := Boxed.new ((wr.alloc (.cells #[.string x] 9)).alloc (.cells #[.string ⟨#[44]⟩] 9)) 3 (.int .i64 0)
    rw [World.size_alloc] at bP
    rw [World.size_alloc, World.size_alloc] at bV
    have hJ3 : J (gives (l0.take k)) (((wr.alloc (.cells #[.string x] 9)).alloc (.cells #[.string ⟨#[44]⟩] 9)).alloc (.cells #[.int .i64 0] 3)) := hJ.below hJr hb3
    have hka3 : KeepAll M b w1 (((wr.alloc (.cells #[.string x] 9)).alloc (.cells #[.string ⟨#[44]⟩] 9)).alloc (.cells #[.int .i64 0] 3)) := hka.trans (KeepAll.of_below hb3)
    have hm3 : Marks M b ds (((wr.alloc (.cells #[.string x] 9)).alloc (.cells #[.string ⟨#[44]⟩] 9)).alloc (.cells #[.int .i64 0] 3)) := hm.below hb3
    have hMr : ∀ j, M j → j < wr.heap.size := fun j hj => by have := hMw j hj; omega
    have hxr3 : xrow b (((wr.alloc (.cells #[.string x] 9)).alloc (.cells #[.string ⟨#[44]⟩] 9)).alloc (.cells #[.int .i64 0] 3)) = xrow b wr := xrow_of_block (fun j e => hb3.block j (hMr j (hbM j e)))
    generalize ((wr.alloc (.cells #[.string x] 9)).alloc (.cells #[.string ⟨#[44]⟩] 9)).alloc (.cells #[.int .i64 0] 3) = w3 at *
    refine wpIn_rangeX rfl rfl (gf := 46) (lb := #[.pointer (some ⟨wr.heap.size + 1, 0, none⟩), .pointer (some ⟨wr.heap.size, 0, none⟩), .pointer (some ⟨wr.heap.size + 2, 0, none⟩)]) rfl trivial (enters_of Tryd.func46 (by kernel_rfl) rfl)
      (encs := encS) (A := fun y => y.size ≤ x.size) (M := M) (b := b) (B := wr.heap.size) (S := fun ps => ps.map toL = splitL 44 (toL x)) (Sp := fun ps => ∃ more, ps.map toL ++ more = splitL 44 (toL x)) (N := x.size + 1) ?hseq (fun _ => rfl) (fun j hj => by have := hMr j hj; omega) hbM (by omega)
      (fun pre' W => J (gives (l0.take k) ++ pieces pre') W ∧ KeepAll M b w1 W ∧ Marks M b ds W ∧ w1.heap.size ≤ W.heap.size)
      (fun c pre' W => (c = .ret ∧ Jx (gives (l0.take k) ++ pieces pre') W) ∧ Marks M b ds W) ?hI ?hIx ?hrow ?h0 ?a1 ?assign ?body ?done ?stop
    case assign =>
      intro m l' x' W K hK
      gi_wp2
      exact hK
    case hseq =>
      intro W1 hbW hsW l' J' Jx' hJ' hJx' hrow' hsz' hY' h0' m
      refine split1 Fence.wide rfl l' (wr.heap.size + 1) wr.heap.size (wr.heap.size + 2) 44 x hxl (withLoop M w3) b wr.heap.size J' Jx' hJ' (fun j e => .inl (hbM j e)) hrow' W1 hsz' hY' h0'
        ?_ ?_ ?_ (by omega) ?_ ?_ m
      · exact (hbW.block _ bS.lt).trans bS
      · exact (hbW.block _ bP.lt).trans bP
      · exact (hbW.block _ bV.lt).trans bV
      · have hn : ∀ j, wr.heap.size ≤ j → j < wr.heap.size + 3 → ¬ withLoop M w3 j := fun j h1 h2 h => by
          rcases h with h | h | h
          · have := hMr j h; omega
          · omega
          · omega
        exact ⟨Nat.le_refl _, hn _ (by omega) (by omega), hn _ (by omega) (by omega), hn _ (by omega) (by omega)⟩
      · have hxr : xrow b W1 = xrow b wr := by
          rw [← hxr3]; exact xrow_of_block (fun j e => hbW.block j (by have := hMr j (hbM j e); omega))
        have hn : ∀ j, wr.heap.size ≤ j → some j ≠ xrow b W1 := fun j h1 e => by
          rw [hxr] at e
          have := hrow _ _ _ hJr e.symm
          omega
        exact ⟨hn _ (by omega), hn _ (by omega), hn _ (by omega)⟩
    case hI =>
      refine AbX.and ?_ (AbX.and (abX_keepAll hbM hsz) (AbX.and (abX_marks hbM (fun r hr => hm.lt hr)) (abX_sized _ _ _ _)))
      exact fun s W W' row hs hg hr => hJ _ W W' row hs hg (fun r e => ⟨by have := (hr r e).1; omega, (hr r e).2⟩)
    case hIx =>
      intro c
      refine AbX.and ?_ (abX_marks hbM (fun r hr => hm.lt hr))
      exact fun s W W' row hs hg hr => ⟨hs.1, hJx _ W W' row hs.2 hg (fun r e => ⟨by have := (hr r e).1; omega, (hr r e).2⟩)⟩
    case hrow => exact fun pre' X r h e => hrow _ X r h.1 e
    case h0 => exact ⟨by simpa [pieces] using hJ3, hka3, hm3, by omega⟩
    case body =>
      rintro m l' pre' x' W hx' hszW ⟨hi, hka', hm', hsz'⟩ hlen'
      obtain ⟨kt, htr⟩ := (LTrim.trim_ev x' (by omega)).rounds
      gi_wp2
      refine ⟨trivial, no_depth, ?_⟩
      refine (CallsIn.inRound l' (callsIn_wide.2 (octet_Trim.calls kt x' _ _ htr))).mono ?_
      rintro e W2 ⟨rfl, hd⟩
      have hbW := hd.below
      have hi2 := hJ.below hi hbW
      have hka2 := hka'.trans (KeepAll.of_below hbW)
      have hm2 := hm'.below hbW
      have hkp : KpX M b W W2 := KpX.below hbW (fun j e => by have := hMr j (hbM j e); omega)
      have hsz2 := hbW.size
      have hby2' := hka2 _ _ hby
      have cby := hby2'.boxed.cell
      cases he : (trimL (toL x')).isEmpty with
      | true =>
        have hf1 : ((ofL (trimL (toL x'))).toList == ([] : List UInt8)) = true := by rw [toList_ofL]; simpa using he
        gi_wp2
        refine ⟨fun _ h => (by cases h), ?_⟩
        gi_wp2
        have hp : pieces (pre' ++ [x']) = pieces pre' := by rw [pieces_snoc, he]; simp
        exact ⟨hkp, by rw [hp]; exact hi2, hka2, hm2, by omega⟩
      | false =>
        have hf1 : ((ofL (trimL (toL x'))).toList == ([] : List UInt8)) = false := by rw [toList_ofL]; simpa using he
        have hp : gives (l0.take k) ++ pieces (pre' ++ [x']) = gives (l0.take k) ++ pieces pre' ++ [ofL (trimL (toL x'))] := by rw [pieces_snoc, he]; simp
        have htl : (ofL (trimL (toL x'))).size ≤ 140737488351232 := by
          rw [size_ofL]
          have := LSpec.trimL_length (toL x')
          rw [toL_length] at this
          omega
        obtain ⟨fn, tmps, assign, body, hy, hR⟩ := hY (gives (l0.take k) ++ pieces pre') (ofL (trimL (toL x'))) W2 htl hi2 (by
          have := pieces_length pre'
          rw [List.length_append]
          omega) (m - 1)
        gi_wp2
        refine ⟨no_depth, ?_⟩
        refine RoundIn.mono (F := Fence.wide.inRound l') hR ?_
        rintro e Y (⟨rfl, hJ2, hk2⟩ | ⟨rfl, hJx2, hk2⟩)
        · gi_wp2
          exact ⟨hkp.trans hk2, by rw [hp]; exact hJ2, hka2.trans hk2.keepAll, hk2.marks hm2, Nat.le_trans (by omega) hk2.size⟩
        · gi_wp2
          exact ⟨hkp.trans hk2, ⟨rfl, by rw [hp]; exact hJx2⟩, hk2.marks hm2⟩
    case done =>
      rintro ps W hszW hps ⟨hi, hka', hm', hsz'⟩ hD hDr
      gi_wp2
      refine ⟨⟨k + 1, _, _, _, _, _, _, _, _, _, _, _, _, _, _, _, _, _, _, _, _, rfl, by omega, ?_, hka', ?_, ?_, hsz'⟩, by simp [RowKit.intOf]; omega⟩
      · rw [hgt, ← pieces_split hps]; exact hi
      · exact hm'.push ⟨hD, fun h => by have := hMr _ h; omega, hDr, fun j e => by have := hMr j (hbM j e); omega⟩ (fun r' hr' => by have := hm3.lt hr'; omega)
      · intro r hr
        rcases List.mem_cons.1 hr with e | e
        · have : r = w3.heap.size := by simpa using e
          omega
        · exact hds r e
    case stop =>
      rintro c pre' W hszW ⟨more, hmore⟩ ⟨⟨rfl, hx'⟩, hm'⟩ hD hDr
      gi_wp2
      refine leaves_marks hbM (fun _ W => Jx (gives (l0.take k) ++ pieces pre') W) (B := w.heap.size) (fun s A A' row hs hg hr => hJx _ A A' row hs hg (fun r e => ⟨by have := (hr r e).1; omega, (hr r e).2⟩)) ?_ _ W
        (hm'.push ⟨hD, fun h => by have := hMr _ h; omega, hDr, fun j e => by have := hMr j (hbM j e); omega⟩ (fun r' hr' => by have := hm3.lt hr'; omega)) ?_ hx'
      · intro W' hj
        obtain ⟨more', hm1⟩ := pieces_prefix hmore
        obtain ⟨more2, hm2⟩ := hgp
        exact ⟨_, results_none rfl _ _ _, ⟨_, rfl⟩, .inr ⟨_, ⟨more' ++ more2, by rw [← hm2, ← hm1]; simp⟩, hj⟩⟩
      · intro r hr
        rcases List.mem_cons.1 hr with e | e
        · have : r = w3.heap.size := by simpa using e
          omega
        · have := hds r e; omega
  · obtain rfl : k = l0.length := by omega
    gi_wp2
    refine leaves_marks hbM (fun _ W => J (gives l0) W) (B := w.heap.size) (fun s A A' row hs hg hr => hJ _ A A' row hs hg (fun r e => ⟨by have := (hr r e).1; omega, (hr r e).2⟩)) ?_ _ wr hm ?_ (by rw [List.take_length] at hJr; exact hJr)
    · intro W' hj
      exact ⟨_, results_none rfl _ _ _, ⟨_, rfl⟩, .inl ⟨_, rfl, hj⟩⟩
    · intro r hr
      have := hds r hr; omega

end Go.Proofs.YthilbpgkhjchcaaDoor.LElems
end

section
namespace Go.Proofs.YthilbpgkhjchcaaDoor.LColl
open Go Go.RowKit Go.Shelf Go.Lib Go.Proofs.YthilbpgkhjchcaaDoor.XSeq Go.Proofs.YthilbpgkhjchcaaDoor.LSplit Go.Proofs.YthilbpgkhjchcaaDoor.LElems
open Go.Proofs.YthilbpgkhjchcaaDoor.LSpec (splitL trimL elemsL elemsAll blankL)
open Go.Proofs.YthilbpgkhjchcaaDoor.PB

attribute [local go_sem] Oper.semAt_some

theorem info9 : (Tryd.prog.info? 9).map (fun i => (i.zero, i.size, i.bytes)) = some (some (.string ⟨#[]⟩), 1, 16) := by kernel_rfl

set_option maxHeartbeats 1000000 in
theorem elements_calls (A : Option Addr) (n c : Nat) (w : World) : Calls Tryd.prog 23 #[.slice A n c] w fun e w' =>
    e = .returned (.func (.func 29) #[] #[.pointer (some ⟨w.heap.size, 0, none⟩)]) ∧ w' = w.alloc (.cells #[.slice A n c] 22) := by
  go_enter Tryd.func23, Tryd.ntmps23
  go_wp2
  go_ret
  exact ⟨rfl, rfl⟩

/-- What a call reads of the values: each cell, in a block that lies there. -/
def Reads (w : World) (A0 : Option Addr) (l0 : List ByteArray) : Prop := ∀ k, k < l0.length → ∃ ad, A0 = some ad ∧ w.cell? (ad.add k) = some (.string (l0[k]?.getD ByteArray.empty))

theorem Reads.below {w w' : World} {A0 : Option Addr} {l0 : List ByteArray} (h : Reads w A0 l0) (hb : Below w.heap.size w w') : Reads w' A0 l0 := fun k hk => by
  obtain ⟨ad, e, hc⟩ := h k hk
  exact ⟨ad, e, (hb.cell (World.block_lt_of_cell? w _ hc)).trans hc⟩

theorem Reads.kept {w W : World} {A0 : Option Addr} {l0 : List ByteArray} (h : Reads w A0 l0) (hb : Below w.heap.size w W) {M : Nat → Prop} {b : Option Nat} (hM : ∀ k, k < w.heap.size → ¬ M k) (hr : ∀ k, k < w.heap.size → some k ≠ xrow b W) (hbx : ∀ j, b = some j → j < W.heap.size) :
    ∀ k, k < l0.length → ∃ ad o, A0 = some ad ∧ Kept M b ad.block o W ∧ W.cell? (ad.add k) = some (.string (l0[k]?.getD ByteArray.empty)) := fun k hk => by
  obtain ⟨ad, e, hc⟩ := h k hk
  have hlt : ad.block < w.heap.size := by have := World.block_lt_of_cell? w _ hc; rwa [blk_add] at this
  obtain ⟨o, ho⟩ : ∃ o, w.heap[ad.block]? = some o := ⟨_, Array.getElem?_eq_getElem hlt⟩
  exact ⟨ad, o, e, ⟨(hb.block _ hlt).trans ho, hM _ hlt, hr _ hlt, hbx⟩, (hb.cell (World.block_lt_of_cell? w _ hc)).trans hc⟩

set_option maxRecDepth 100000 in
set_option maxHeartbeats 4000000 in
theorem appendSeq (bv : Nat) (A0 : Option Addr) (c0 : Nat) (l0 : List ByteArray) (hsize : LSpec.total l0 ≤ 1099511627776) (w w0 : World) (h0w : Below w0.heap.size w0 w) (hr0 : Reads w0 A0 l0) (hbv : Boxed w bv 22 (.slice A0 l0.length c0)) :
    Calls Tryd.prog 35 #[.slice none 0 0, .func (.func 29) #[] #[.pointer (some ⟨bv, 0, none⟩)]] w fun e w' => ∃ v, e = .returned v ∧ w'.ownsRow w.heap.size 9 1 v (gives l0).length ((gives l0).map Value.string) ∧ (v = .slice none 0 0 ↔ gives l0 = []) ∧ Below w.heap.size w w' := by
  refine (callsIn_wide (n := 9)).1 ?_
  obtain ⟨i0, hi, hz0, hz1, hz2⟩ := info_parts info9
  refine callsIn_of_wp_marks Tryd.func35 rfl trivial ?_ rfl
  simp only [Tryd.ntmps35, List.size_toArray, List.length_cons, List.length_nil, Nat.reduceAdd, Nat.reduceSub, Array.replicate_succ, Array.replicate_zero, List.push_toArray, List.append_toArray, List.nil_append, List.cons_append]
  gi_wp2
  have hlens : ∀ s ∈ l0, s.size ≤ 140737488351232 := fun s hs => by have := LSpec.total_mem hs; omega
  have hlen0 : l0.length ≤ LSpec.total l0 := LSpec.total_length l0
  have hbS := Boxed.new w 22 (.slice none 0 0)
  have hB1 : Below w.heap.size w (w.alloc (.cells #[.slice none 0 0] 22)) := (Below.refl _ w).alloc (Nat.le_refl _) _
  have hs1 : (w.alloc (.cells #[.slice none 0 0] 22)).heap.size = w.heap.size + 1 := by simp
  have hbv1 := hbv.alloc (.cells #[.slice none 0 0] 22)
  generalize w.alloc (.cells #[.slice none 0 0] 22) = w1 at *
  refine wpIn_rangeX rfl rfl (gf := 29) (lb := #[.pointer (some ⟨bv, 0, none⟩)]) rfl trivial (enters_of Tryd.func29 (by kernel_rfl) rfl)
    (encs := encS) (A := fun y => y.size ≤ 140737488351232) (M := fun k => k = w.heap.size) (b := some w.heap.size) (B := w1.heap.size) (S := fun xs => xs = gives l0) (Sp := fun pre => ∃ more, pre ++ more = gives l0) (N := LSpec.total l0) ?hseq (fun _ => rfl) (fun j hj => by omega) (fun j e => by cases e; rfl) (Nat.le_refl _)
    (fun pre W => (∃ v, Boxed W w.heap.size 22 v ∧ W.ownsRow w.heap.size 9 1 v pre.length (pre.map Value.string) ∧ (v = .slice none 0 0 ↔ pre = [])) ∧ Below w.heap.size w W)
    (fun _ _ _ => False)
    (AbX.and (abX_holdsRow (M := fun k => k = w.heap.size) (Bx := w.heap.size) (t := 22) (e := 9) (size := 1) (n₀ := w.heap.size) rfl (fun pre => pre.length) (fun pre => pre.map Value.string) (fun pre v => v = .slice none 0 0 ↔ pre = [])) (abX_below _ _ (Nat.le_refl _) (by omega))) (fun _ _ _ _ _ h _ _ => h) ?hrow ?h0 ?a1 ?assign ?body ?done ?stop
  case assign =>
    intro m l' x' W K hK
    gi_wp2
    exact hK
  case hseq =>
    intro W1 hbW hsW l' J' Jx' hJ' hJx' hrow' hsz' hY' h0' m
    have hbw : Below w.heap.size w W1 := hB1.trans (hbW.mono (by omega))
    have hxr : xrow (some w.heap.size) W1 = none := by
      have : Boxed W1 w.heap.size 22 (.slice none 0 0) := (hbW.block _ (by omega)).trans hbS
      rw [xrow_boxed this]; rfl
    have hbvlt := hbv.lt
    have h0W : Below w0.heap.size w0 W1 := h0w.trans (hbw.mono h0w.size)
    refine elements1 l' bv A0 c0 l0 hlens (by omega) (withLoop (fun k => k = w.heap.size) w1) (some w.heap.size) w1.heap.size J' Jx' hJ' hJx' (fun j e => .inl (by cases e; rfl)) W1 (fun k hk => by rcases hk with h | h | h <;> omega) (by omega) hrow' hY' h0' ?_ ?_ m
    · exact ⟨(hbW.block _ (by omega)).trans hbv1, fun hk => by rcases hk with h | h | h <;> omega, by rw [hxr]; simp, fun j e => by cases e; omega⟩
    · exact hr0.kept h0W (fun k hk h => by have := h0w.size; rcases h with h | h | h <;> omega) (fun k hk => by rw [hxr]; simp) (fun j e => by cases e; omega)
  case hrow =>
    rintro pre X r ⟨⟨v, hv, hrw, _⟩, _⟩ e
    rw [xrow_boxed hv] at e
    exact (ownsRow_lt hrw e).2
  case h0 => exact ⟨⟨_, hbS, World.ownsRow_nil _ _ _ _, by simp⟩, hB1⟩
  case body =>
    rintro m l' pre x W hx hszW ⟨⟨v, hv, hrow, hnil⟩, hB⟩ hlt
    have hc := hv.cell
    gi_wp2_with (gi_at_builtin; refine wpListIn_append_own_at _ rfl _ _ 22 rfl w.heap.size 9 i0 (.string ⟨#[]⟩) 1 16 Tryd.underlying22 hi hz0 hz1 hz2 rfl (by decide) _ _ _ rfl (hrow.alloc _) ⟨W.heap.size, 0, none⟩ 1 1 [.string x] rfl rfl (cell_one_new _ _ _) (by simp [Value.oneCell']) (by unfold maxLen; omega) (by omega) (by have := hB.size; simp; omega) ?_; intro v' w3 hown' hgrow _ hat; obtain ⟨g', cap', rfl⟩ := ownsRow_succ hown'; obtain ⟨hv1, hv2, hr2, hk2, hb2⟩ := hv.appended (by decide) hrow hB.size (Nat.le_refl _) hown' hgrow; have hkx := KpX.appended (M := fun k => k = w.heap.size) hv (by decide) hrow hgrow hat rfl; have hc1 := hv1.cell; have hf1 := hv1.frozen)
    exact ⟨hkx, ⟨_, hv2, by simpa using hr2, by simp⟩, hB.trans hb2⟩
  case done =>
    rintro xs W hszW rfl ⟨⟨v, hv, hrow, hnil⟩, hB⟩ hD hDr
    have hc := hv.cell
    gi_wp2
    refine ⟨by simp, .inl ⟨_, _, rfl, run_takeDeferred hD, ?_⟩⟩
    exact ⟨_, results_tmp rfl _ _ _, v, rfl, ownsRow_putObj hrow _ hD rfl, hnil, hB.trans (belowK_b (w := w) (Nat.le_refl _) W w1.heap.size _ _ (by omega) hD rfl rfl)⟩
  case stop =>
    rintro c pre W _ _ h
    exact h.elim

set_option maxHeartbeats 1000000 in
theorem collect (bv : Nat) (A0 : Option Addr) (c0 : Nat) (l0 : List ByteArray) (hsize : LSpec.total l0 ≤ 1099511627776) (w w0 : World) (h0w : Below w0.heap.size w0 w) (hr0 : Reads w0 A0 l0) (hbv : Boxed w bv 22 (.slice A0 l0.length c0)) :
    Calls Tryd.prog 26 #[.func (.func 29) #[] #[.pointer (some ⟨bv, 0, none⟩)]] w fun e w' => ∃ v, e = .returned v ∧ w'.ownsRow w.heap.size 9 1 v (gives l0).length ((gives l0).map Value.string) ∧ (v = .slice none 0 0 ↔ gives l0 = []) ∧ Below w.heap.size w w' := by
  go_enter Tryd.func26, Tryd.ntmps26
  go_wp2_with ((with_reducible refine (appendSeq bv A0 c0 l0 hsize _ w0 h0w hr0 hbv).mono ?_); rintro e w' ⟨v, rfl, h1, h2, h3⟩)
  go_ret
  exact ⟨v, rfl, h1, h2, h3⟩

set_option maxHeartbeats 1000000 in
/-- lists.Elements. -/
theorem Elements_calls (A0 : Option Addr) (c0 : Nat) (l0 : List ByteArray) (hsize : LSpec.total l0 ≤ 1099511627776) (w : World) (hr : Reads w A0 l0) :
    Calls Tryd.prog 13 #[.slice A0 l0.length c0] w fun e w' => ∃ v, e = .returned v ∧ w'.ownsRow w.heap.size 9 1 v (gives l0).length ((gives l0).map Value.string) ∧ Below w.heap.size w w' := by
  go_enter Tryd.func13, Tryd.ntmps13
  go_wp2_with (first | ((with_reducible refine (elements_calls _ _ _ _).mono ?_); rintro e w' ⟨rfl, rfl⟩) | ((with_reducible refine (collect w.heap.size A0 c0 l0 hsize _ w ((Below.refl _ w).alloc (Nat.le_refl _) _) hr (Boxed.new w 22 _)).mono ?_); rintro e w' ⟨v, rfl, h1, h2, h3⟩))
  go_ret
  exact ⟨v, rfl, Go.Proofs.YthilbpgkhjchcaaDoorW.PrintWords.own_weaken h1 (by simp), ((Below.refl _ w).alloc (Nat.le_refl _) _).trans (h3.mono (by simp))⟩

end Go.Proofs.YthilbpgkhjchcaaDoor.LColl
end

section
namespace Go.Proofs.YthilbpgkhjchcaaDoor.P
open Go.RowKit Go.Proofs.YthilbpgkhjchcaaDoorW.PrintWords Go.Proofs.YthilbpgkhjchcaaDoorW.PrintLast Go.Proofs.YthilbpgkhjchcaaDoorW.PrintMore
attribute [local go_sem] max2_int min2_int max_two min_two max_three min_three max_four min_four   -- for this text's walks alone
set_option linter.unusedVariables false
set_option linter.unusedSimpArgs false

/-! ### octet_within: function 34 -/
def octet_within.f (a0 : Int) (a1 : Int) (a2 : Int) : Option (Bool) := if a0 ≥ a1 then (some (decide (a0 ≤ a2))) else (some false)
set_option maxHeartbeats 8000000 in
set_option maxRecDepth 100000 in
theorem octet_within.calls (a0 : Int) (a1 : Int) (a2 : Int) (r : Bool) (w : World) (h : octet_within.f a0 a1 a2 = some r) :
    Calls Tryd.prog 34 #[.int .u8 a0, .int .u8 a1, .int .u8 a2] w fun e w' => e = .returned (.bool r) ∧ Drawn0 w w' := by
  have H : (if a0 ≥ a1 then (some (decide (a0 ≤ a2))) else (some false)) = some r := h
  clear h
  by_cases c4 : a0 ≥ a1
  · rw [if_pos c4] at H
    have c4b0 : decide (a1 ≤ a0) = true := decide_eq_true c4
    clear c4
    obtain rfl := Option.some.inj H
    go_enter Tryd.func34, Tryd.ntmps34
    go_wp2
    go_ret
    exact ⟨by first | rfl | (simp; done) | (simp [*]; done), by repeat (first | exact Drawn0.refl _ | apply Drawn0.step)⟩
  · rw [if_neg c4] at H
    have c4b0 : decide (a1 ≤ a0) = false := decide_eq_false c4
    clear c4
    obtain rfl := Option.some.inj H
    go_enter Tryd.func34, Tryd.ntmps34
    go_wp2
    go_ret
    exact ⟨by first | rfl | (simp; done) | (simp [*]; done), by repeat (first | exact Drawn0.refl _ | apply Drawn0.step)⟩

end Go.Proofs.YthilbpgkhjchcaaDoor.P
end

section
namespace Go.Proofs.YthilbpgkhjchcaaDoor.P
open Go.RowKit Go.Proofs.YthilbpgkhjchcaaDoorW.PrintWords Go.Proofs.YthilbpgkhjchcaaDoorW.PrintLast Go.Proofs.YthilbpgkhjchcaaDoorW.PrintMore
attribute [local go_sem] max2_int min2_int max_two min_two max_three min_three max_four min_four   -- for this text's walks alone
set_option linter.unusedVariables false
set_option linter.unusedSimpArgs false

/-! ### octet_Letter: function 49 -/
def octet_Letter.f (a0 : Int) : Option (Bool) := (octet_within.f a0 65 90).bind fun t319 => (if t319 = true then (some true) else ((octet_within.f a0 97 122).bind fun t320 => (some t320)))
set_option maxHeartbeats 8000000 in
set_option maxRecDepth 100000 in
theorem octet_Letter.calls (a0 : Int) (r : Bool) (w : World) (h : octet_Letter.f a0 = some r) :
    Calls Tryd.prog 49 #[.int .u8 a0] w fun e w' => e = .returned (.bool r) ∧ Drawn0 w w' := by
  have H : ((octet_within.f a0 65 90).bind fun t319 => (if t319 = true then (some true) else ((octet_within.f a0 97 122).bind fun t320 => (some t320)))) = some r := h
  clear h
  replace H := Option.bind_eq_some_iff.mp H
  obtain ⟨t319, A20, H⟩ := H
  replace H : (if t319 = true then (some true) else ((octet_within.f a0 97 122).bind fun t320 => (some t320))) = some r := H
  have A2 := Aside0.mk A20
  clear A20
  by_cases c3 : t319 = true
  · subst c3
    have H1 : (some true) = some r := by rw [if_pos rfl] at H; exact H
    clear H
    have H := H1
    clear H1
    obtain rfl := Option.some.inj H
    go_enter Tryd.func49, Tryd.ntmps49
    go_wp2_with (first | ((with_reducible refine gate_callee (f := 34) rfl ?_); refine goesL_ (some 4) rfl rfl Tryd.func34 (by kernel_rfl) rfl #[.int .u8 a0, .int .u8 65, .int .u8 90] rfl (by (try simp only [List.map_toArray, List.map_cons, List.map_nil]); first | done | rfl | (simp only [List.length_drop, List.length_take]; rfl)) ?_; (with_reducible refine (octet_within.calls a0 65 90 true _ A2.out).mono ?_); rintro e w' ⟨rfl, ⟨nd, rfl⟩⟩; refine ⟨_, rfl, ?_⟩))
    go_ret
    exact ⟨by first | rfl | (simp; done) | (simp [*]; done), by repeat (first | exact Drawn0.refl _ | apply Drawn0.step)⟩
  · replace c3 := Bool.eq_false_iff.mpr c3
    subst c3
    have H1 : ((octet_within.f a0 97 122).bind fun t320 => (some t320)) = some r := by rw [if_neg (show ¬ (false = true) by decide)] at H; exact H
    clear H
    have H := H1
    clear H1
    replace H := Option.bind_eq_some_iff.mp H
    obtain ⟨t320, A40, H⟩ := H
    replace H : (some t320) = some r := H
    have A4 := Aside0.mk A40
    clear A40
    obtain rfl := Option.some.inj H
    go_enter Tryd.func49, Tryd.ntmps49
    go_wp2_with (first | ((with_reducible refine gate_callee (f := 34) rfl ?_); refine goesL_ (some 4) rfl rfl Tryd.func34 (by kernel_rfl) rfl #[.int .u8 a0, .int .u8 65, .int .u8 90] rfl (by (try simp only [List.map_toArray, List.map_cons, List.map_nil]); first | done | rfl | (simp only [List.length_drop, List.length_take]; rfl)) ?_; (with_reducible refine (octet_within.calls a0 65 90 false _ A2.out).mono ?_); rintro e w' ⟨rfl, ⟨nd, rfl⟩⟩; refine ⟨_, rfl, ?_⟩) | (go_at_call 34; (with_reducible refine (octet_within.calls a0 97 122 t320 _ A4.out).mono ?_); rintro e w' ⟨rfl, ⟨nd, rfl⟩⟩))
    go_ret
    exact ⟨by first | rfl | (simp; done) | (simp [*]; done), by repeat (first | exact Drawn0.refl _ | apply Drawn0.step)⟩

end Go.Proofs.YthilbpgkhjchcaaDoor.P
end

section
namespace Go.Proofs.YthilbpgkhjchcaaDoor.P
open Go.RowKit Go.Proofs.YthilbpgkhjchcaaDoorW.PrintWords Go.Proofs.YthilbpgkhjchcaaDoorW.PrintLast Go.Proofs.YthilbpgkhjchcaaDoorW.PrintMore
attribute [local go_sem] max2_int min2_int max_two min_two max_three min_three max_four min_four   -- for this text's walks alone
set_option linter.unusedVariables false
set_option linter.unusedSimpArgs false

/-! ### octet_Digit: function 50 -/
def octet_Digit.f (a0 : Int) : Option (Bool) := (octet_within.f a0 48 57).bind fun t321 => (some t321)
set_option maxHeartbeats 8000000 in
set_option maxRecDepth 100000 in
theorem octet_Digit.calls (a0 : Int) (r : Bool) (w : World) (h : octet_Digit.f a0 = some r) :
    Calls Tryd.prog 50 #[.int .u8 a0] w fun e w' => e = .returned (.bool r) ∧ Drawn0 w w' := by
  have H : ((octet_within.f a0 48 57).bind fun t321 => (some t321)) = some r := h
  clear h
  replace H := Option.bind_eq_some_iff.mp H
  obtain ⟨t321, A20, H⟩ := H
  replace H : (some t321) = some r := H
  have A2 := Aside0.mk A20
  clear A20
  obtain rfl := Option.some.inj H
  go_enter Tryd.func50, Tryd.ntmps50
  go_wp2_with (first | ((with_reducible refine gate_callee (f := 34) rfl ?_); refine goesL_ (some 4) rfl rfl Tryd.func34 (by kernel_rfl) rfl #[.int .u8 a0, .int .u8 48, .int .u8 57] rfl (by (try simp only [List.map_toArray, List.map_cons, List.map_nil]); first | done | rfl | (simp only [List.length_drop, List.length_take]; rfl)) ?_; (with_reducible refine (octet_within.calls a0 48 57 t321 _ A2.out).mono ?_); rintro e w' ⟨rfl, ⟨nd, rfl⟩⟩; refine ⟨_, rfl, ?_⟩))
  go_ret
  exact ⟨by first | rfl | (simp; done) | (simp [*]; done), by repeat (first | exact Drawn0.refl _ | apply Drawn0.step)⟩

end Go.Proofs.YthilbpgkhjchcaaDoor.P
end

section
namespace Go.Proofs.YthilbpgkhjchcaaDoor.P
open Go.RowKit Go.Proofs.YthilbpgkhjchcaaDoorW.PrintWords Go.Proofs.YthilbpgkhjchcaaDoorW.PrintLast Go.Proofs.YthilbpgkhjchcaaDoorW.PrintMore
attribute [local go_sem] max2_int min2_int max_two min_two max_three min_three max_four min_four   -- for this text's walks alone
set_option linter.unusedVariables false
set_option linter.unusedSimpArgs false

/-! ### octet_alnum: function 42 -/
def octet_alnum.f (a0 : Int) : Option (Bool) := (octet_Letter.f a0).bind fun t322 => (if t322 = true then (some true) else ((octet_Digit.f a0).bind fun t323 => (some t323)))
set_option maxHeartbeats 8000000 in
set_option maxRecDepth 100000 in
theorem octet_alnum.calls (a0 : Int) (r : Bool) (w : World) (h : octet_alnum.f a0 = some r) :
    Calls Tryd.prog 42 #[.int .u8 a0] w fun e w' => e = .returned (.bool r) ∧ Drawn0 w w' := by
  have H : ((octet_Letter.f a0).bind fun t322 => (if t322 = true then (some true) else ((octet_Digit.f a0).bind fun t323 => (some t323)))) = some r := h
  clear h
  replace H := Option.bind_eq_some_iff.mp H
  obtain ⟨t322, A20, H⟩ := H
  replace H : (if t322 = true then (some true) else ((octet_Digit.f a0).bind fun t323 => (some t323))) = some r := H
  have A2 := Aside0.mk A20
  clear A20
  by_cases c3 : t322 = true
  · subst c3
    have H1 : (some true) = some r := by rw [if_pos rfl] at H; exact H
    clear H
    have H := H1
    clear H1
    obtain rfl := Option.some.inj H
    go_enter Tryd.func42, Tryd.ntmps42
    go_wp2_with (first | ((with_reducible refine gate_callee (f := 49) rfl ?_); refine goesL_ (some 4) rfl rfl Tryd.func49 (by kernel_rfl) rfl #[.int .u8 a0] rfl (by (try simp only [List.map_toArray, List.map_cons, List.map_nil]); first | done | rfl | (simp only [List.length_drop, List.length_take]; rfl)) ?_; (with_reducible refine (octet_Letter.calls a0 true _ A2.out).mono ?_); rintro e w' ⟨rfl, ⟨nd, rfl⟩⟩; refine ⟨_, rfl, ?_⟩))
    go_ret
    exact ⟨by first | rfl | (simp; done) | (simp [*]; done), by repeat (first | exact Drawn0.refl _ | apply Drawn0.step)⟩
  · replace c3 := Bool.eq_false_iff.mpr c3
    subst c3
    have H1 : ((octet_Digit.f a0).bind fun t323 => (some t323)) = some r := by rw [if_neg (show ¬ (false = true) by decide)] at H; exact H
    clear H
    have H := H1
    clear H1
    replace H := Option.bind_eq_some_iff.mp H
    obtain ⟨t323, A40, H⟩ := H
    replace H : (some t323) = some r := H
    have A4 := Aside0.mk A40
    clear A40
    obtain rfl := Option.some.inj H
    go_enter Tryd.func42, Tryd.ntmps42
    go_wp2_with (first | ((with_reducible refine gate_callee (f := 49) rfl ?_); refine goesL_ (some 4) rfl rfl Tryd.func49 (by kernel_rfl) rfl #[.int .u8 a0] rfl (by (try simp only [List.map_toArray, List.map_cons, List.map_nil]); first | done | rfl | (simp only [List.length_drop, List.length_take]; rfl)) ?_; (with_reducible refine (octet_Letter.calls a0 false _ A2.out).mono ?_); rintro e w' ⟨rfl, ⟨nd, rfl⟩⟩; refine ⟨_, rfl, ?_⟩) | (go_at_call 50; (with_reducible refine (octet_Digit.calls a0 t323 _ A4.out).mono ?_); rintro e w' ⟨rfl, ⟨nd, rfl⟩⟩))
    go_ret
    exact ⟨by first | rfl | (simp; done) | (simp [*]; done), by repeat (first | exact Drawn0.refl _ | apply Drawn0.step)⟩

end Go.Proofs.YthilbpgkhjchcaaDoor.P
end

section
namespace Go.Proofs.YthilbpgkhjchcaaDoor.P
open Go.RowKit Go.Proofs.YthilbpgkhjchcaaDoorW.PrintWords Go.Proofs.YthilbpgkhjchcaaDoorW.PrintLast Go.Proofs.YthilbpgkhjchcaaDoorW.PrintMore
attribute [local go_sem] max2_int min2_int max_two min_two max_three min_three max_four min_four   -- for this text's walks alone
set_option linter.unusedVariables false
set_option linter.unusedSimpArgs false

/-! ### octet_Token: function 33 -/
def octet_Token.j0 : Nat → Int → Int → Bool → Option (Bool)
  | 0, _, _, _ => none
  | k + 1, x0, x3, x4 => if x4 = true then (some true) else (if x3 = 45 then (some true) else (if x3 = 46 then (some true) else (if x3 = 94 then (some true) else (if x3 = 95 then (some true) else (if x3 = 96 then (some true) else (if x3 = 124 then (some true) else (if x3 = 126 then (some true) else ((octet_alnum.f x0).bind fun t324 => (some t324)))))))))
def octet_Token.f (k : Nat) (a0 : Int) : Option (Bool) := if a0 = 33 then (octet_Token.j0 k a0 a0 (a0 == 33)) else (if a0 = 35 then (octet_Token.j0 k a0 a0 (a0 == 35)) else (if a0 = 36 then (octet_Token.j0 k a0 a0 (a0 == 36)) else (if a0 = 37 then (octet_Token.j0 k a0 a0 (a0 == 37)) else (if a0 = 38 then (octet_Token.j0 k a0 a0 (a0 == 38)) else (if a0 = 39 then (octet_Token.j0 k a0 a0 (a0 == 39)) else (if a0 = 42 then (octet_Token.j0 k a0 a0 (a0 == 42)) else (octet_Token.j0 k a0 a0 (a0 == 43))))))))
theorem octet_Token.mono_l : ∀ k, (∀ y0 y1 y2, LeO (octet_Token.j0 k y0 y1 y2) (octet_Token.j0 (k + 1) y0 y1 y2))
  | 0 => fun _ _ _ r h => by simp [octet_Token.j0] at h
  | k + 1 => by
    have ih0 := octet_Token.mono_l k
    · intro y0 y1 y2
      unfold octet_Token.j0
      repeat' first
      | (with_reducible exact ih0 _ _ _)
      | (with_reducible exact LeO.refl _)
      | (with_reducible exact LeO.none _)
      | (with_reducible refine LeO.ite ?_ ?_)
      | (with_reducible refine LeO.bind ?_ (fun _ => ?_))
      | exact ih0 _ _ _
      | exact LeO.none _
      | refine LeO.ite ?_ ?_
      | refine LeO.bind ?_ (fun _ => ?_)
theorem octet_Token.mono : ∀ a0 k, LeO (octet_Token.f k a0) (octet_Token.f (k + 1) a0) := by
  intro a0 k
  have ih0 := octet_Token.mono_l k
  unfold octet_Token.f
  repeat' first
      | (with_reducible exact ih0 _ _ _)
      | (with_reducible exact LeO.refl _)
      | (with_reducible exact LeO.none _)
      | (with_reducible refine LeO.ite ?_ ?_)
      | (with_reducible refine LeO.bind ?_ (fun _ => ?_))
      | exact ih0 _ _ _
      | exact LeO.none _
      | refine LeO.ite ?_ ?_
      | refine LeO.bind ?_ (fun _ => ?_)
set_option maxHeartbeats 8000000 in
set_option maxRecDepth 100000 in
theorem octet_Token.calls (k : Nat) (a0 : Int) (r : Bool) (w : World) (h : octet_Token.f k a0 = some r) :
    Calls Tryd.prog 33 #[.int .u8 a0] w fun e w' => e = .returned (.bool r) ∧ Drawn0 w w' := by
  have H : (if a0 = 33 then (octet_Token.j0 k a0 a0 (a0 == 33)) else (if a0 = 35 then (octet_Token.j0 k a0 a0 (a0 == 35)) else (if a0 = 36 then (octet_Token.j0 k a0 a0 (a0 == 36)) else (if a0 = 37 then (octet_Token.j0 k a0 a0 (a0 == 37)) else (if a0 = 38 then (octet_Token.j0 k a0 a0 (a0 == 38)) else (if a0 = 39 then (octet_Token.j0 k a0 a0 (a0 == 39)) else (if a0 = 42 then (octet_Token.j0 k a0 a0 (a0 == 42)) else (octet_Token.j0 k a0 a0 (a0 == 43))))))))) = some r := h
  clear h
  have HC2 := Aside0.mk H
  clear H
  go_enter Tryd.func33, Tryd.ntmps33
  go_upto_if 4 with (fail)
  go_cut [4] (fun v4 wc => ∃ (kq : Nat) (x4_1 : Bool), v4 = .bool x4_1 ∧ Aside0 (octet_Token.j0 kq a0 a0 x4_1 = some r) ∧ Aside0 (kq ≤ k) ∧ Drawn0 w wc)
  case first =>
    have H := HC2.out
    clear HC2
    by_cases c3 : a0 = 33
    · rw [if_pos c3] at H
      have c3b0 : (a0 == 33) = true := beq_iff_eq.mpr c3
      have c3b1 : (a0 != 33) = false := bne_eq_false_iff_eq.mpr c3
      clear c3
      (first | rw [c3b0] | (simp only [i64_w, i32_w]; rw [c3b0]) | skip)
      have H' := Aside0.mk H
      clear H
      go_wp2
      go_meet
      case rel => exact ⟨_, ((a0 == 33)), (by first | rfl | (simp; done) | (simp [*]; done)), H', ⟨by first | omega | exact Nat.le_refl _⟩, by repeat (first | exact Drawn0.refl _ | apply Drawn0.step)⟩
    · rw [if_neg c3] at H
      have c3b0 : (a0 == 33) = false := beq_eq_false_iff_ne.mpr c3
      have c3b1 : (a0 != 33) = true := bne_iff_ne.mpr c3
      (first | rw [c3b0] | (simp only [i64_w, i32_w]; rw [c3b0]) | skip)
      by_cases c4 : a0 = 35
      · rw [if_pos c4] at H
        have c4b0 : (a0 == 35) = true := beq_iff_eq.mpr c4
        have c4b1 : (a0 != 35) = false := bne_eq_false_iff_eq.mpr c4
        clear c4
        have H' := Aside0.mk H
        clear H
        go_wp2
        go_meet
        case rel => exact ⟨_, ((a0 == 35)), (by first | rfl | (simp; done) | (simp [*]; done)), H', ⟨by first | omega | exact Nat.le_refl _⟩, by repeat (first | exact Drawn0.refl _ | apply Drawn0.step)⟩
      · rw [if_neg c4] at H
        have c4b0 : (a0 == 35) = false := beq_eq_false_iff_ne.mpr c4
        have c4b1 : (a0 != 35) = true := bne_iff_ne.mpr c4
        by_cases c5 : a0 = 36
        · rw [if_pos c5] at H
          have c5b0 : (a0 == 36) = true := beq_iff_eq.mpr c5
          have c5b1 : (a0 != 36) = false := bne_eq_false_iff_eq.mpr c5
          clear c5
          have H' := Aside0.mk H
          clear H
          go_wp2
          go_meet
          case rel => exact ⟨_, ((a0 == 36)), (by first | rfl | (simp; done) | (simp [*]; done)), H', ⟨by first | omega | exact Nat.le_refl _⟩, by repeat (first | exact Drawn0.refl _ | apply Drawn0.step)⟩
        · rw [if_neg c5] at H
          have c5b0 : (a0 == 36) = false := beq_eq_false_iff_ne.mpr c5
          have c5b1 : (a0 != 36) = true := bne_iff_ne.mpr c5
          by_cases c6 : a0 = 37
          · rw [if_pos c6] at H
            have c6b0 : (a0 == 37) = true := beq_iff_eq.mpr c6
            have c6b1 : (a0 != 37) = false := bne_eq_false_iff_eq.mpr c6
            clear c6
            have H' := Aside0.mk H
            clear H
            go_wp2
            go_meet
            case rel => exact ⟨_, ((a0 == 37)), (by first | rfl | (simp; done) | (simp [*]; done)), H', ⟨by first | omega | exact Nat.le_refl _⟩, by repeat (first | exact Drawn0.refl _ | apply Drawn0.step)⟩
          · rw [if_neg c6] at H
            have c6b0 : (a0 == 37) = false := beq_eq_false_iff_ne.mpr c6
            have c6b1 : (a0 != 37) = true := bne_iff_ne.mpr c6
            by_cases c7 : a0 = 38
            · rw [if_pos c7] at H
              have c7b0 : (a0 == 38) = true := beq_iff_eq.mpr c7
              have c7b1 : (a0 != 38) = false := bne_eq_false_iff_eq.mpr c7
              clear c7
              have H' := Aside0.mk H
              clear H
              go_wp2
              go_meet
              case rel => exact ⟨_, ((a0 == 38)), (by first | rfl | (simp; done) | (simp [*]; done)), H', ⟨by first | omega | exact Nat.le_refl _⟩, by repeat (first | exact Drawn0.refl _ | apply Drawn0.step)⟩
            · rw [if_neg c7] at H
              have c7b0 : (a0 == 38) = false := beq_eq_false_iff_ne.mpr c7
              have c7b1 : (a0 != 38) = true := bne_iff_ne.mpr c7
              by_cases c8 : a0 = 39
              · rw [if_pos c8] at H
                have c8b0 : (a0 == 39) = true := beq_iff_eq.mpr c8
                have c8b1 : (a0 != 39) = false := bne_eq_false_iff_eq.mpr c8
                clear c8
                have H' := Aside0.mk H
                clear H
                go_wp2
                go_meet
                case rel => exact ⟨_, ((a0 == 39)), (by first | rfl | (simp; done) | (simp [*]; done)), H', ⟨by first | omega | exact Nat.le_refl _⟩, by repeat (first | exact Drawn0.refl _ | apply Drawn0.step)⟩
              · rw [if_neg c8] at H
                have c8b0 : (a0 == 39) = false := beq_eq_false_iff_ne.mpr c8
                have c8b1 : (a0 != 39) = true := bne_iff_ne.mpr c8
                by_cases c9 : a0 = 42
                · rw [if_pos c9] at H
                  have c9b0 : (a0 == 42) = true := beq_iff_eq.mpr c9
                  have c9b1 : (a0 != 42) = false := bne_eq_false_iff_eq.mpr c9
                  clear c9
                  have H' := Aside0.mk H
                  clear H
                  go_wp2
                  go_meet
                  case rel => exact ⟨_, ((a0 == 42)), (by first | rfl | (simp; done) | (simp [*]; done)), H', ⟨by first | omega | exact Nat.le_refl _⟩, by repeat (first | exact Drawn0.refl _ | apply Drawn0.step)⟩
                · rw [if_neg c9] at H
                  have c9b0 : (a0 == 42) = false := beq_eq_false_iff_ne.mpr c9
                  have c9b1 : (a0 != 42) = true := bne_iff_ne.mpr c9
                  have H' := Aside0.mk H
                  clear H
                  go_wp2
                  go_meet
                  case rel => exact ⟨_, ((a0 == 43)), (by first | rfl | (simp; done) | (simp [*]; done)), H', ⟨by first | omega | exact Nat.le_refl _⟩, by repeat (first | exact Drawn0.refl _ | apply Drawn0.step)⟩
  case rest =>
    clear HC2
    try clear p2
    try clear c3
    try clear c3b0
    try clear c3b1
    try clear c4
    try clear c4b0
    try clear c4b1
    try clear c5
    try clear c5b0
    try clear c5b1
    try clear c6
    try clear c6b0
    try clear c6b1
    try clear c7
    try clear c7b0
    try clear c7b1
    try clear c8
    try clear c8b0
    try clear c8b1
    try clear c9
    try clear c9b0
    try clear c9b1
    obtain ⟨kq, x4_1, rfl, HA, HJ1, ⟨mc1, rfl⟩⟩ := hcut
    cases kq with
    | zero => exact absurd HA.out (by simp [octet_Token.j0])
    | succ kj1 =>
      have H := HA.out
      clear HA
      simp only [octet_Token.j0] at H
      by_cases c10 : x4_1 = true
      · subst c10
        have H1 : (some true) = some r := by rw [if_pos rfl] at H; exact H
        clear H
        have H := H1
        clear H1
        obtain rfl := Option.some.inj H
        go_wp2
        go_ret
        exact ⟨by first | rfl | (simp; done) | (simp [*]; done), by repeat (first | exact Drawn0.refl _ | apply Drawn0.step)⟩
      · replace c10 := Bool.eq_false_iff.mpr c10
        subst c10
        have H1 : (if a0 = 45 then (some true) else (if a0 = 46 then (some true) else (if a0 = 94 then (some true) else (if a0 = 95 then (some true) else (if a0 = 96 then (some true) else (if a0 = 124 then (some true) else (if a0 = 126 then (some true) else ((octet_alnum.f a0).bind fun t324 => (some t324))))))))) = some r := by rw [if_neg (show ¬ (false = true) by decide)] at H; exact H
        clear H
        have H := H1
        clear H1
        by_cases c11 : a0 = 45
        · rw [if_pos c11] at H
          have c11b0 : (a0 == 45) = true := beq_iff_eq.mpr c11
          have c11b1 : (a0 != 45) = false := bne_eq_false_iff_eq.mpr c11
          clear c11
          obtain rfl := Option.some.inj H
          go_wp2
          go_ret
          exact ⟨by first | rfl | (simp; done) | (simp [*]; done), by repeat (first | exact Drawn0.refl _ | apply Drawn0.step)⟩
        · rw [if_neg c11] at H
          have c11b0 : (a0 == 45) = false := beq_eq_false_iff_ne.mpr c11
          have c11b1 : (a0 != 45) = true := bne_iff_ne.mpr c11
          by_cases c12 : a0 = 46
          · rw [if_pos c12] at H
            have c12b0 : (a0 == 46) = true := beq_iff_eq.mpr c12
            have c12b1 : (a0 != 46) = false := bne_eq_false_iff_eq.mpr c12
            clear c12
            obtain rfl := Option.some.inj H
            go_wp2
            go_ret
            exact ⟨by first | rfl | (simp; done) | (simp [*]; done), by repeat (first | exact Drawn0.refl _ | apply Drawn0.step)⟩
          · rw [if_neg c12] at H
            have c12b0 : (a0 == 46) = false := beq_eq_false_iff_ne.mpr c12
            have c12b1 : (a0 != 46) = true := bne_iff_ne.mpr c12
            by_cases c13 : a0 = 94
            · rw [if_pos c13] at H
              have c13b0 : (a0 == 94) = true := beq_iff_eq.mpr c13
              have c13b1 : (a0 != 94) = false := bne_eq_false_iff_eq.mpr c13
              clear c13
              obtain rfl := Option.some.inj H
              go_wp2
              go_ret
              exact ⟨by first | rfl | (simp; done) | (simp [*]; done), by repeat (first | exact Drawn0.refl _ | apply Drawn0.step)⟩
            · rw [if_neg c13] at H
              have c13b0 : (a0 == 94) = false := beq_eq_false_iff_ne.mpr c13
              have c13b1 : (a0 != 94) = true := bne_iff_ne.mpr c13
              by_cases c14 : a0 = 95
              · rw [if_pos c14] at H
                have c14b0 : (a0 == 95) = true := beq_iff_eq.mpr c14
                have c14b1 : (a0 != 95) = false := bne_eq_false_iff_eq.mpr c14
                clear c14
                obtain rfl := Option.some.inj H
                go_wp2
                go_ret
                exact ⟨by first | rfl | (simp; done) | (simp [*]; done), by repeat (first | exact Drawn0.refl _ | apply Drawn0.step)⟩
              · rw [if_neg c14] at H
                have c14b0 : (a0 == 95) = false := beq_eq_false_iff_ne.mpr c14
                have c14b1 : (a0 != 95) = true := bne_iff_ne.mpr c14
                by_cases c15 : a0 = 96
                · rw [if_pos c15] at H
                  have c15b0 : (a0 == 96) = true := beq_iff_eq.mpr c15
                  have c15b1 : (a0 != 96) = false := bne_eq_false_iff_eq.mpr c15
                  clear c15
                  obtain rfl := Option.some.inj H
                  go_wp2
                  go_ret
                  exact ⟨by first | rfl | (simp; done) | (simp [*]; done), by repeat (first | exact Drawn0.refl _ | apply Drawn0.step)⟩
                · rw [if_neg c15] at H
                  have c15b0 : (a0 == 96) = false := beq_eq_false_iff_ne.mpr c15
                  have c15b1 : (a0 != 96) = true := bne_iff_ne.mpr c15
                  by_cases c16 : a0 = 124
                  · rw [if_pos c16] at H
                    have c16b0 : (a0 == 124) = true := beq_iff_eq.mpr c16
                    have c16b1 : (a0 != 124) = false := bne_eq_false_iff_eq.mpr c16
                    clear c16
                    obtain rfl := Option.some.inj H
                    go_wp2
                    go_ret
                    exact ⟨by first | rfl | (simp; done) | (simp [*]; done), by repeat (first | exact Drawn0.refl _ | apply Drawn0.step)⟩
                  · rw [if_neg c16] at H
                    have c16b0 : (a0 == 124) = false := beq_eq_false_iff_ne.mpr c16
                    have c16b1 : (a0 != 124) = true := bne_iff_ne.mpr c16
                    by_cases c17 : a0 = 126
                    · rw [if_pos c17] at H
                      have c17b0 : (a0 == 126) = true := beq_iff_eq.mpr c17
                      have c17b1 : (a0 != 126) = false := bne_eq_false_iff_eq.mpr c17
                      clear c17
                      obtain rfl := Option.some.inj H
                      go_wp2
                      go_ret
                      exact ⟨by first | rfl | (simp; done) | (simp [*]; done), by repeat (first | exact Drawn0.refl _ | apply Drawn0.step)⟩
                    · rw [if_neg c17] at H
                      have c17b0 : (a0 == 126) = false := beq_eq_false_iff_ne.mpr c17
                      have c17b1 : (a0 != 126) = true := bne_iff_ne.mpr c17
                      replace H := Option.bind_eq_some_iff.mp H
                      obtain ⟨t324, A180, H⟩ := H
                      replace H : (some t324) = some r := H
                      have A18 := Aside0.mk A180
                      clear A180
                      obtain rfl := Option.some.inj H
                      go_wp2_with (first | ((with_reducible refine gate_callee (f := 42) rfl ?_); refine goesL_ (some 22) rfl rfl Tryd.func42 (by kernel_rfl) rfl #[.int .u8 a0] rfl (by (try simp only [List.map_toArray, List.map_cons, List.map_nil]); first | done | rfl | (simp only [List.length_drop, List.length_take]; rfl)) ?_; (with_reducible refine (octet_alnum.calls a0 t324 _ A18.out).mono ?_); rintro e w' ⟨rfl, ⟨nd, rfl⟩⟩; refine ⟨_, rfl, ?_⟩))
                      go_ret
                      exact ⟨by first | rfl | (simp; done) | (simp [*]; done), by repeat (first | exact Drawn0.refl _ | apply Drawn0.step)⟩

/-- THE ONE PURE STATEMENT of octet_Token: yours. -/
def octet_Token.Pure : Prop := ∀ (a0 : Int), (Lit.int .u8 a0).wf = true → ∃ k, octet_Token.f k a0 = some true
theorem octet_Token.walk (P : octet_Token.Pure) (a0 : Int) (w : World) (w0 : (Lit.int .u8 a0).wf = true) :
    Calls Tryd.prog 33 #[.int .u8 a0] w fun e w' => e = .returned (.bool true) ∧ Below w.heap.size w w' := by
  obtain ⟨k, h⟩ := P a0 w0
  refine (octet_Token.calls k a0 true w h).mono ?_
  rintro e w' ⟨rfl, hd⟩
  exact ⟨rfl, hd.below⟩

end Go.Proofs.YthilbpgkhjchcaaDoor.P
end

section
namespace Go.Proofs.YthilbpgkhjchcaaDoor.LOct
open Go Go.RowKit Go.Proofs.YthilbpgkhjchcaaDoorW.PrintWords Go.Proofs.YthilbpgkhjchcaaDoor.PB Go.Proofs.YthilbpgkhjchcaaDoor.P

/-- a byte of tokens. -/
def tokB (c : UInt8) : Bool :=
  (65 ≤ c && c ≤ 90) || (97 ≤ c && c ≤ 122) || (48 ≤ c && c ≤ 57) || [33, 35, 36, 37, 38, 39, 42, 43, 45, 46, 94, 95, 96, 124, 126].contains c

theorem tok_fin : ∀ n : Fin 256, octet_Token.f 2 (n.val : Int) = some (tokB (UInt8.ofNat n.val)) := by decide +kernel
theorem tok_f (c : UInt8) : octet_Token.f 2 (c.toNat : Int) = some (tokB c) := by
  have := tok_fin ⟨c.toNat, c.toNat_lt⟩
  simpa using this

def allTok (l : List UInt8) (k : Nat) : Bool := (l.take k).all tokB
theorem allTok_succ (s : ByteArray) (k : Nat) (h : k < s.size) : allTok (toL s) (k + 1) = (allTok (toL s) k && tokB s[k]) := by
  have h' : k < (toL s).length := by rw [toL_length]; exact h
  unfold allTok
  rw [List.take_succ_eq_append_getElem h', List.all_append]
  simp only [List.all_cons, List.all_nil, Bool.and_true]
  rfl
theorem ret_bool {a b : Bool} (h : a = b) : Ending.returned (.bool a) = .returned (.bool b) := by rw [h]

theorem Drawn0.trans {a b c : World} (h : Drawn0 a b) (g : Drawn0 b c) : Drawn0 a c := by
  obtain ⟨⟨n, rfl⟩⟩ := g
  exact h.step n

set_option maxHeartbeats 2000000 in
theorem All_calls (s : ByteArray) (hs : s.size ≤ 9223372036854775807) (w : World) : Calls Tryd.prog 32 #[.string s, .func (.func 33) #[] #[]] w fun e w' => e = .returned (.bool ((toL s).all tokB)) ∧ Drawn0 w w' := by
  go_enter Tryd.func32, Tryd.ntmps32
  go_wp2
  go_loopw [8] (fun i wr => ∃ k : Nat, k ≤ s.size ∧ i = .int .i64 k ∧ allTok (toL s) k = true ∧ Drawn0 w wr) (fun i _ => s.size - (RowKit.intOf i).toNat)
  case atStart => exact ⟨0, Nat.zero_le _, rfl, by simp [allTok], Drawn0.refl w⟩
  case round =>
    obtain ⟨k, hk, rfl, hat, hdr⟩ := hrel
    have Hat := Lib.hid hat
    clear hat
    by_cases hlt : k < s.size
    · have hsu := allTok_succ s k hlt
      have Hsu := Lib.hid hsu
      clear hsu
      have htk := tok_f s[k]
      cases hb : tokB s[k] with
      | true =>
        rw [hb] at htk
        have Hb := Lib.hid hb
        clear hb
        go_wp2_with ((with_reducible refine (octet_Token.calls 2 _ true _ htk).mono ?_); rintro e w' ⟨rfl, hd⟩)
        go_roundw
        case rel => exact ⟨k + 1, by omega, by go_num, by rw [Hsu.out, Hat.out, Hb.out]; rfl, Drawn0.trans hdr hd⟩
        case measure => simp [RowKit.intOf]; omega
      | false =>
        rw [hb] at htk
        have Hb := Lib.hid hb
        clear hb
        go_wp2_with ((with_reducible refine (octet_Token.calls 2 _ false _ htk).mono ?_); rintro e w' ⟨rfl, hd⟩)
        go_ret
        refine ⟨ret_bool ?_, Drawn0.trans hdr hd⟩
        have h1 : tokB s[k] = false := Hb.out
        symm
        rw [List.all_eq_false]
        exact ⟨s[k], by rw [toL]; exact Array.getElem_mem_toList (by exact hlt), by rw [h1]; simp⟩
    · obtain rfl : k = s.size := by omega
      go_wp2
      go_ret
      refine ⟨ret_bool ?_, hdr⟩
      have := Hat.out
      rw [allTok, List.take_of_length_le (by rw [toL_length]; exact Nat.le_refl _)] at this
      exact this.symm

def isTok (s : ByteArray) : Bool := !(toL s).isEmpty && (toL s).all tokB
theorem isTok_nil (s : ByteArray) (h : toL s = []) : isTok s = false := by simp [isTok, h]
theorem isTok_cons (s : ByteArray) (h : ¬ toL s = []) : isTok s = (toL s).all tokB := by simp [isTok, h]

set_option maxHeartbeats 2000000 in
theorem IsToken_calls (s : ByteArray) (hs : s.size ≤ 9223372036854775807) (w : World) : Calls Tryd.prog 24 #[.string s] w fun e w' => e = .returned (.bool (isTok s)) ∧ Drawn0 w w' := by
  by_cases h : toL s = []
  · rw [isTok_nil s h]
    have h1 : (s.toList == ([] : List UInt8)) = true := by rw [toList_toL, h]; rfl
    have h2 : (s.toList != ([] : List UInt8)) = false := by rw [bne, h1]; rfl
    clear h
    go_enter Tryd.func24, Tryd.ntmps24
    go_wp2
    go_ret
    exact ⟨rfl, Drawn0.refl _⟩
  · rw [isTok_cons s h]
    have h1 : (s.toList == ([] : List UInt8)) = false := by rw [toList_toL]; simpa using h
    have h2 : (s.toList != ([] : List UInt8)) = true := by rw [bne, h1]; rfl
    clear h
    go_enter Tryd.func24, Tryd.ntmps24
    go_wp2_with ((with_reducible refine (All_calls s hs _).mono ?_); rintro e w' ⟨rfl, hd⟩)
    go_ret
    exact ⟨rfl, hd⟩

def lowB (c : UInt8) : UInt8 := if 65 ≤ c ∧ c ≤ 90 then c + 32 else c
def lowL (l : List UInt8) : List UInt8 := l.map lowB
def isUp (c : UInt8) : Bool := 65 ≤ c && c ≤ 90
theorem up_f (c : UInt8) : octet_within.f (c.toNat : Int) 65 90 = some (isUp c) := by
  unfold octet_within.f isUp
  have h1 : (65 ≤ c) ↔ (c.toNat : Int) ≥ 65 := by rw [UInt8.le_iff_toNat_le, show (65 : UInt8).toNat = 65 from rfl]; omega
  have h2 : (c ≤ 90) ↔ (c.toNat : Int) ≤ 90 := by rw [UInt8.le_iff_toNat_le, show (90 : UInt8).toNat = 90 from rfl]; omega
  by_cases h : (c.toNat : Int) ≥ 65
  · rw [if_pos h]
    congr 1
    rw [Bool.eq_iff_iff]
    simp only [decide_eq_true_eq, Bool.and_eq_true]
    exact ⟨fun h3 => ⟨h1.2 h, h2.2 h3⟩, fun h3 => h2.1 h3.2⟩
  · rw [if_neg h]
    congr 1
    symm
    rw [Bool.and_eq_false_iff]
    left
    exact decide_eq_false (fun h3 => h (h1.1 h3))
/-- the bytes when k of them are done. -/
def lowTo (l : List UInt8) (k : Nat) : List Int := ((l.take k).map lowB ++ l.drop k).map fun c => (c.toNat : Int)

theorem lowTo_length (l : List UInt8) (k : Nat) : (lowTo l k).length = l.length := by simp [lowTo]; omega
theorem lowTo_zero (l : List UInt8) : lowTo l 0 = l.map fun c => (c.toNat : Int) := by simp [lowTo]
theorem lowTo_get (l : List UInt8) (k j : Nat) (h : j < l.length) : (lowTo l k)[j]? = some (if j < k then ((lowB l[j]).toNat : Int) else (l[j].toNat : Int)) := by
  unfold lowTo
  rw [List.getElem?_map]
  by_cases hj : j < k
  · rw [List.getElem?_append_left (by simp; omega), if_pos hj, List.getElem?_map, List.getElem?_take_of_lt hj, List.getElem?_eq_getElem h]; rfl
  · rw [List.getElem?_append_right (by simp; omega), if_neg hj, List.getElem?_drop]
    have : k + (j - (List.map lowB (List.take k l)).length) = j := by simp; omega
    rw [this, List.getElem?_eq_getElem h]; rfl
theorem lowTo_all (l : List UInt8) : lowTo l l.length = (lowL l).map fun c => (c.toNat : Int) := by simp [lowTo, lowL]

/-- the made bytes, when k of them are done. -/
def LowAt (w wr : World) (l : List UInt8) (k : Nat) : Prop :=
  (∀ j, j < l.length → wr.cell? ⟨w.heap.size, j, none⟩ = some (.int .u8 ((lowTo l k)[j]?.getD 0))) ∧ (∀ j, j < l.length → wr.frozen? ⟨w.heap.size, j, none⟩ = false) ∧ Below w.heap.size w wr ∧ w.heap.size < wr.heap.size
theorem LowAt.drawn {w wr wr' : World} {l : List UInt8} {k : Nat} (h : LowAt w wr l k) (hd : Drawn0 wr wr') : LowAt w wr' l k := by
  obtain ⟨⟨n, rfl⟩⟩ := hd
  exact ⟨h.1, h.2.1, pw_below_drewN h.2.2.1 n, h.2.2.2⟩

theorem lowB_up {c : UInt8} (h : isUp c = true) : ((c.toNat : Int) + 32) % 256 = ((lowB c).toNat : Int) := by
  have h' : 65 ≤ c ∧ c ≤ 90 := by simpa [isUp] using h
  rw [lowB, if_pos h', UInt8.toNat_add]
  have h2 := h'.2
  rw [UInt8.le_iff_toNat_le] at h2
  have : (90 : UInt8).toNat = 90 := rfl
  have : (32 : UInt8).toNat = 32 := rfl
  omega
theorem lowB_not {c : UInt8} (h : isUp c = false) : lowB c = c := by
  have h' : ¬ (65 ≤ c ∧ c ≤ 90) := by
    intro h2
    simp [isUp, h2] at h
  rw [lowB, if_neg h']
theorem LowAt.set {w wr : World} {l : List UInt8} {k : Nat} (h : LowAt w wr l k) (hk : k < l.length) (x : Int) (hx : x = ((lowB l[k]).toNat : Int)) : LowAt w (wr.setCell ⟨w.heap.size, k, none⟩ (.int .u8 x)) l (k + 1) := by
  refine ⟨fun j hj => ?_, fun j hj => by rw [World.frozen?_setCell]; exact h.2.1 j hj, h.2.2.1.setCell (p := ⟨w.heap.size, k, none⟩) (Nat.le_refl _) _, ?_⟩
  · rw [lowTo_get _ _ _ hj]
    by_cases e : j = k
    · subst e
      rw [World.cell?_setCell_same _ _ _ (h.1 j hj), if_pos (by omega), hx]; rfl
    · rw [World.cell?_setCell_other _ _ _ _ (by simp [Ne.symm e]), h.1 j hj, lowTo_get _ _ _ hj]
      by_cases e2 : j < k
      · rw [if_pos e2, if_pos (by omega)]
      · rw [if_neg e2, if_neg (by omega)]
  · simpa [World.setCell] using h.2.2.2
theorem LowAt.skip {w wr : World} {l : List UInt8} {k : Nat} (h : LowAt w wr l k) (hk : k < l.length) (hx : lowB l[k] = l[k]) : LowAt w wr l (k + 1) := by
  refine ⟨fun j hj => ?_, h.2.1, h.2.2.1, h.2.2.2⟩
  rw [h.1 j hj, lowTo_get _ _ _ hj, lowTo_get _ _ _ hj]
  by_cases e : j = k
  · subst e
    rw [if_neg (Nat.lt_irrefl _), if_pos (by omega), hx]
  · by_cases e2 : j < k
    · rw [if_pos e2, if_pos (by omega)]
    · rw [if_neg e2, if_neg (by omega)]
theorem lowAt_start (w : World) (s : ByteArray) (hs : s.size ≤ 140737488351232) : LowAt w (Lib.bytesWorld w 5 s) (toL s) 0 := by
  refine ⟨fun j hj => ?_, fun j hj => ?_, bytes_below (Below.refl _ _) (Nat.le_refl _) 5 s, by rw [Lib.bytesWorld_size]; omega⟩
  · rw [Lib.bytesWorld_cell w 5 s j (by rw [← toL_length]; exact hj), lowTo_get _ _ _ hj, if_neg (by omega)]
    have : s.data.toList[j]? = some (toL s)[j] := List.getElem?_eq_getElem hj
    simp [List.getD_eq_getElem?_getD, this]
  · have hn := Lib.bytesWorld_at_new w 5 s
    have hj' : j < s.size := by rw [← toL_length]; exact hj
    simp [World.frozen?, hn]
    intro h
    exact absurd h (by simp [Lib.bytesCells]; omega)
theorem lowAt_reads {w wr : World} {l : List UInt8} (h : LowAt w wr l l.length) (hl : l.length ≤ 140737488351232) : (Kd.int .u8).C wr (some ⟨w.heap.size, 0, none⟩) l.length (lowTo l l.length) :=
  Kd.C_of_reads (d := (0 : Int)) (h1 := fun _ => rfl) ⟨lowTo_length l _, by omega, fun _ => ⟨_, rfl, fun j hj => by
    rw [add_plain, h.1 j hj, List.getD_eq_getElem?_getD]⟩⟩
theorem strOfNums_low (l : List UInt8) : strOfNums (lowTo l l.length) = ofL (lowL l) := by
  rw [lowTo_all, strOfNums_nat]

set_option maxHeartbeats 4000000 in
theorem Lower_calls (s : ByteArray) (hs : s.size ≤ 140737488351232) (w : World) : Calls Tryd.prog 25 #[.string s] w fun e w' => e = .returned (.string (ofL (lowL (toL s)))) ∧ Below w.heap.size w w' := by
  have kc := fun (W : World) => print_bytes (P := Tryd.prog) 9 44 5 Tryd.underlying9 Tryd.underlying44 Tryd.underlying5 s W
  have hlen := toL_length s
  go_enter Tryd.func25, Tryd.ntmps25
  go_wp2
  go_loopw [10] (fun i wr => ∃ k : Nat, k ≤ s.size ∧ i = .int .i64 k ∧ Aside0 (LowAt w wr (toL s) k)) (fun i _ => s.size - (RowKit.intOf i).toNat)
  case atStart => exact ⟨0, Nat.zero_le _, rfl, Aside0.mk (lowAt_start w s hs)⟩
  case round =>
    obtain ⟨k, hk, rfl, hat⟩ := hrel
    by_cases hlt : k < s.size
    · have hlt' : k < (toL s).length := by omega
      have hcell : wr.cell? ⟨w.heap.size, k, none⟩ = some (.int .u8 ((toL s)[k].toNat : Int)) := by
        have := hat.out.1 k hlt'
        rw [lowTo_get _ _ _ hlt', if_neg (Nat.lt_irrefl k)] at this
        exact this
      have hup := up_f (toL s)[k]
      have hcb : (toL s)[k].toNat < 256 := (toL s)[k].toNat_lt
      cases hb : isUp (toL s)[k] with
      | true =>
        rw [hb] at hup
        have hv := Aside0.mk (lowB_up hb)
        clear hb
        go_wp2_with ((with_reducible refine (octet_within.calls _ 65 90 true _ hup).mono ?_); rintro e w' ⟨rfl, hd⟩; have hat2 := Aside0.mk (hat.out.drawn hd); have hfro2 := hat2.out.2.1 k hlt'; have hcell2 : w'.cell? ⟨w.heap.size, k, none⟩ = some (.int .u8 ((toL s)[k].toNat : Int)) := by (have := hat2.out.1 k hlt'; rw [lowTo_get _ _ _ hlt', if_neg (Nat.lt_irrefl k)] at this; exact this))
        go_roundw
        case rel => exact ⟨k + 1, by omega, by go_num, ⟨hat2.out.set hlt' _ hv.out⟩⟩
        case measure => simp [RowKit.intOf]; omega
      | false =>
        rw [hb] at hup
        have hv := Aside0.mk (lowB_not hb)
        clear hb
        go_wp2_with ((with_reducible refine (octet_within.calls _ 65 90 false _ hup).mono ?_); rintro e w' ⟨rfl, hd⟩; have hat2 := Aside0.mk (hat.out.drawn hd))
        go_roundw
        case rel => exact ⟨k + 1, by omega, by go_num, ⟨hat2.out.skip hlt' hv.out⟩⟩
        case measure => simp [RowKit.intOf]; omega
    · obtain rfl : k = s.size := by omega
      have kd : ∀ c, (convert 44 9 (.slice (some ⟨w.heap.size, 0, none⟩) s.size c)).run Tryd.prog wr = .ok (.string (ofL (lowL (toL s)))) wr := fun c => by
        have h1 := hat.out
        rw [← toL_length] at h1 ⊢
        rw [← strOfNums_low]
        exact Kd.C_string Tryd.underlying44 Tryd.underlying5 Tryd.underlying9 (lowAt_reads h1 (by omega))
      go_wp2
      go_ret
      exact ⟨rfl, hat.out.2.2.1⟩

end Go.Proofs.YthilbpgkhjchcaaDoor.LOct
end

section
namespace Go.Proofs.YthilbpgkhjchcaaDoor.LTok
open Go Go.RowKit Go.Shelf Go.Lib Go.Proofs.YthilbpgkhjchcaaDoor.XSeq Go.Proofs.YthilbpgkhjchcaaDoor.LSplit Go.Proofs.YthilbpgkhjchcaaDoor.LElems Go.Proofs.YthilbpgkhjchcaaDoor.LColl Go.Proofs.YthilbpgkhjchcaaDoor.LOct
open Go.Proofs.YthilbpgkhjchcaaDoor.LSpec (splitL trimL elemsL elemsAll blankL)
open Go.Proofs.YthilbpgkhjchcaaDoor.PB
open Go.Proofs.YthilbpgkhjchcaaDoorW.PrintWords (Drawn0)

attribute [local go_sem] Oper.semAt_some

def lowS (s : ByteArray) : ByteArray := ofL (lowL (toL s))
/-- is the word among the elements, the case of letters aside? -/
def hasW (word : ByteArray) (xs : List ByteArray) : Bool := xs.any fun x => (lowS x).toList == (lowS word).toList

theorem not_has_snoc {word : ByteArray} {pre : List ByteArray} {x : ByteArray} (h : hasW word pre = false) (hx : ((lowS x).toList == (lowS word).toList) = false) : hasW word (pre ++ [x]) = false := by
  simp only [hasW] at h ⊢
  rw [List.any_append, h]
  simp [hx]

set_option maxRecDepth 100000 in
set_option maxHeartbeats 4000000 in
theorem Has_calls (word : ByteArray) (hw : word.size ≤ 140737488351232) (A0 : Option Addr) (c0 : Nat) (l0 : List ByteArray) (hsize : LSpec.total l0 ≤ 1099511627776) (w : World) (hr0 : Reads w A0 l0) :
    Calls Tryd.prog 15 #[.string word, .slice A0 l0.length c0] w fun e w' => e = .returned (.bool (hasW word (gives l0))) ∧ Below w.heap.size w w' := by
  obtain ⟨n, _⟩ : ∃ n : Nat, n = n := ⟨9, rfl⟩
  refine (callsIn_wide (n := n)).1 ?_
  refine callsIn_of_wp_marks Tryd.func15 rfl trivial ?_ rfl
  simp only [Tryd.ntmps15, List.size_toArray, List.length_cons, List.length_nil, Nat.reduceAdd, Nat.reduceSub, Array.replicate_succ, Array.replicate_zero, List.push_toArray, List.append_toArray, List.nil_append, List.cons_append]
  gi_wp2
  refine ⟨trivial, no_depth, ?_⟩
  refine (callsIn_wide.2 (elements_calls A0 l0.length c0 _)).mono ?_
  rintro e w' ⟨rfl, rfl⟩
  gi_wp2
  have hbw := ((Boxed.new w 9 (.string word)).alloc (.cells #[.bool false] 4)).alloc (.cells #[.slice A0 l0.length c0] 22)
  have hbr := (Boxed.new (w.alloc (.cells #[.string word] 9)) 4 (.bool false)).alloc (.cells #[.slice A0 l0.length c0] 22)
  have hbv := Boxed.new ((w.alloc (.cells #[.string word] 9)).alloc (.cells #[.bool false] 4)) 22 (.slice A0 l0.length c0)
  rw [World.size_alloc] at hbr
  rw [World.size_alloc, World.size_alloc] at hbv
  have hB1 : Below w.heap.size w (((w.alloc (.cells #[.string word] 9)).alloc (.cells #[.bool false] 4)).alloc (.cells #[.slice A0 l0.length c0] 22)) :=
    (((Below.refl _ w).alloc (Nat.le_refl _) _).alloc (by simp) _).alloc (by simp; omega) _
  have hs1 : (((w.alloc (.cells #[.string word] 9)).alloc (.cells #[.bool false] 4)).alloc (.cells #[.slice A0 l0.length c0] 22)).heap.size = w.heap.size + 3 := by simp
  generalize ((w.alloc (.cells #[.string word] 9)).alloc (.cells #[.bool false] 4)).alloc (.cells #[.slice A0 l0.length c0] 22) = w1 at *
  have hlens : ∀ s ∈ l0, s.size ≤ 140737488351232 := fun s hs => by have := LSpec.total_mem hs; omega
  have hlen0 : l0.length ≤ LSpec.total l0 := LSpec.total_length l0
  refine wpIn_rangeX rfl rfl (gf := 29) (lb := #[.pointer (some ⟨w.heap.size + 2, 0, none⟩)]) rfl trivial (enters_of Tryd.func29 (by kernel_rfl) rfl)
    (encs := encS) (A := fun y => y.size ≤ 140737488351232) (M := fun k => k = w.heap.size + 1) (b := none) (B := w1.heap.size) (S := fun xs => xs = gives l0) (Sp := fun pre => ∃ more, pre ++ more = gives l0) (N := LSpec.total l0) ?hseq (fun _ => rfl) (fun j hj => by omega) (fun j e => by cases e) (Nat.le_refl _)
    (fun pre W => hasW word pre = false ∧ Boxed W w.heap.size 9 (.string word) ∧ Boxed W (w.heap.size + 1) 4 (.bool false) ∧ Below w.heap.size w W)
    (fun c pre W => (c = .ret ∧ hasW word pre = true) ∧ Boxed W (w.heap.size + 1) 4 (.bool true) ∧ Below w.heap.size w W)
    (AbX.and (AbX.pure _ _ _ _) (AbX.and (abX_block _ _ (.inl (by omega)) _) (AbX.and (abX_block _ _ (.inl (by omega)) _) (abX_below _ _ (Nat.le_refl _) (by omega)))))
    (fun c => AbX.and (AbX.pure _ _ _ _) (AbX.and (abX_block _ _ (.inl (by omega)) _) (abX_below _ _ (Nat.le_refl _) (by omega)))) (fun _ _ _ _ e => by cases e) ⟨rfl, hbw, hbr, hB1⟩ ?a1 ?assign ?body ?done ?stop
  case assign =>
    intro m l' x' W K hK
    gi_wp2
    exact hK
  case hseq =>
    intro W1 hbW hsW l' J' Jx' hJ' hJx' hrow' hsz' hY' h0' m
    have hbw : Below w.heap.size w W1 := hB1.trans (hbW.mono (by omega))
    refine elements1 l' _ A0 c0 l0 hlens (by omega) (withLoop (fun k => k = w.heap.size + 1) w1) none w1.heap.size J' Jx' hJ' hJx' (fun j e => by cases e) W1 (fun k hk => by rcases hk with h | h | h <;> omega) (by omega) hrow' hY' h0' ?_ ?_ m
    · exact ⟨(hbW.block _ (by omega)).trans hbv, fun hk => by rcases hk with h | h | h <;> omega, by simp [xrow], fun j e => by cases e⟩
    · exact hr0.kept hbw (fun k hk h => by rcases h with h | h | h <;> omega) (fun k hk => by simp [xrow]) (fun j e => by cases e)
  case body =>
    rintro m l' pre x W hx hszW ⟨hno, hb1, hb2, hB⟩ hlt
    have hmx : Tryd.prog.follows .mixedOrders = true := by kernel_rfl
    have c1 := hb1.cell
    gi_wp2
    gi_region_with_o (first | (refine ⟨trivial, no_depth, ?_⟩; (with_reducible refine (CallsIn.inRound l' (callsIn_wide.2 (Lower_calls x hx _))).mono ?_); rintro e wA ⟨rfl, hbA⟩; have c2 : wA.cell? ⟨w.heap.size, 0, none⟩ = some (.string word) := (hbA.cell (p := ⟨w.heap.size, 0, none⟩) (by simp; omega)).trans c1) | (refine ⟨trivial, no_depth, ?_⟩; (with_reducible refine (CallsIn.inRound l' (callsIn_wide.2 (Lower_calls word hw _))).mono ?_); rintro e wB ⟨rfl, hbB⟩))
    all_goals
      have hA : Below W.heap.size W wA := ⟨hbA.os, hbA.tape, hbA.output, hbA.size, hbA.block⟩
      have hW : Below W.heap.size W wB := hA.trans ((⟨hbB.os, hbB.tape, hbB.output, hbB.size, hbB.block⟩ : Below wA.heap.size wA wB).mono hA.size)
      clear hbA hbB hA c2
      have hb1' : Boxed wB w.heap.size 9 (.string word) := (hW.block _ (by omega)).trans hb1
      have hb2' : Boxed wB (w.heap.size + 1) 4 (.bool false) := (hW.block _ (by omega)).trans hb2
      have hB' : Below w.heap.size w wB := hB.trans (hW.mono (by omega))
      have c3 := hb2'.cell
      have c4 := hb2'.frozen
      have hkx : KpX (fun k => k = w.heap.size + 1) none W wB := KpX.below hW (fun j e => by cases e)
      cases he : ((ofL (lowL (toL x))).toList == (ofL (lowL (toL word))).toList) with
      | true =>
        gi_wp2
        exact ⟨hkx.trans (KpX.setCell _ rfl (by simp)), ⟨rfl, by simp [hasW, lowS, he]⟩, hb2'.set _, hB'.setCell (p := ⟨w.heap.size + 1, 0, none⟩) (by simp) _⟩
      | false =>
        gi_wp2
        exact ⟨hkx, not_has_snoc hno he, hb1', hb2', hB'⟩
  case done =>
    rintro xs W hszW rfl ⟨hno, hb1, hb2, hB⟩ hD hDr
    have c3 := hb2.cell
    have c4 := hb2.frozen
    gi_wp2
    have hD' : (W.setCell ⟨w.heap.size + 1, 0, none⟩ (.bool false)).heap[w1.heap.size]? = some (.deferred (some [])) := (Below.heap_setCell W ⟨w.heap.size + 1, 0, none⟩ (.bool false) w1.heap.size (by simp; omega)).trans hD
    refine ⟨by simp, .inl ⟨_, _, rfl, run_takeDeferred hD', ?_⟩⟩
    have c5 : ((W.setCell ⟨w.heap.size + 1, 0, none⟩ (.bool false)).putObj w1.heap.size (.deferred none)).cell? ⟨w.heap.size + 1, 0, none⟩ = some (.bool false) := ((hb2.set (.bool false)).kept (grownBy_putObj' _ _ _) (by simp; omega)).cell
    refine ⟨.bool false, by simp [results, Tryd.f15, go_sem, c5], by rw [hno], (hB.setCell (p := ⟨w.heap.size + 1, 0, none⟩) (by simp) _).trans (belowK_b (w := w) (Nat.le_refl _) _ w1.heap.size _ _ (by omega) hD' rfl rfl)⟩
  case stop =>
    rintro c pre W hszW ⟨more, hmore⟩ ⟨⟨rfl, hyes⟩, hb2, hB⟩ hD hDr
    gi_wp2
    refine ⟨by simp, .inl ⟨_, _, rfl, run_takeDeferred hD, ?_⟩⟩
    have c5 : (W.putObj w1.heap.size (.deferred none)).cell? ⟨w.heap.size + 1, 0, none⟩ = some (.bool true) := (hb2.kept (grownBy_putObj' _ _ _) (by simp; omega)).cell
    refine ⟨.bool true, by simp [results, Tryd.f15, go_sem, c5], ?_, hB.trans (belowK_b (w := w) (Nat.le_refl _) W w1.heap.size _ _ (by omega) hD rfl rfl)⟩
    rw [← hmore]
    simp only [hasW] at hyes ⊢
    rw [List.any_append, hyes]; rfl

/-- the tokens. -/
def toks (xs : List ByteArray) : List ByteArray := xs.map lowS

theorem tokens_round_end {w W W2 W3 w4 : World} {pre : List ByteArray} {x : ByteArray} {v v' : Value}
    (hall : pre.all isTok = true) (ht : isTok x = true) (hkx : KpX (fun k => w.heap.size ≤ k ∧ k < w.heap.size + 3) (some (w.heap.size + 2)) W W2) (hsz : w.heap.size + 2 < W2.heap.size) (hb3 : Below W2.heap.size W2 W3)
    (hv3 : Boxed W3 (w.heap.size + 2) 22 v) (hrow3 : W3.ownsRow w.heap.size 9 1 v pre.length ((toks pre).map Value.string)) (hB3 : Below w.heap.size w W3)
    (hr1 : Boxed W2 w.heap.size 22 (.slice none 0 0)) (hr2 : Boxed W2 (w.heap.size + 1) 4 (.bool false))
    (hv2 : Boxed (w4.setCell ⟨w.heap.size + 2, 0, none⟩ v') (w.heap.size + 2) 22 v') (hrow4 : (w4.setCell ⟨w.heap.size + 2, 0, none⟩ v').ownsRow w.heap.size 9 1 v' (pre.length + 1) ((toks pre).map Value.string ++ [.string (ofL (lowL (toL x)))]))
    (hkx2 : KpX (fun k => w.heap.size ≤ k ∧ k < w.heap.size + 3) (some (w.heap.size + 2)) W3 (w4.setCell ⟨w.heap.size + 2, 0, none⟩ v')) (hb2 : Below w.heap.size W3 (w4.setCell ⟨w.heap.size + 2, 0, none⟩ v'))
    (hgr : (W3.alloc (.cells #[.string (ofL (lowL (toL x)))] 9)).grownBy w4 v.ownBlock) :
    KpX (fun k => w.heap.size ≤ k ∧ k < w.heap.size + 3) (some (w.heap.size + 2)) W (w4.setCell ⟨w.heap.size + 2, 0, none⟩ v') ∧
    ((∃ v, Boxed (w4.setCell ⟨w.heap.size + 2, 0, none⟩ v') (w.heap.size + 2) 22 v ∧ (w4.setCell ⟨w.heap.size + 2, 0, none⟩ v').ownsRow w.heap.size 9 1 v (pre ++ [x]).length ((toks (pre ++ [x])).map Value.string) ∧ True) ∧ (pre ++ [x]).all isTok = true) ∧
    Boxed (w4.setCell ⟨w.heap.size + 2, 0, none⟩ v') w.heap.size 22 (.slice none 0 0) ∧ Boxed (w4.setCell ⟨w.heap.size + 2, 0, none⟩ v') (w.heap.size + 1) 4 (.bool false) ∧ Below w.heap.size w (w4.setCell ⟨w.heap.size + 2, 0, none⟩ v') := by
  have h23 : KpX (fun k => w.heap.size ≤ k ∧ k < w.heap.size + 3) (some (w.heap.size + 2)) W2 W3 := KpX.below hb3 (fun j e => by cases e; exact hsz)
  refine ⟨(hkx.trans h23).trans hkx2, ⟨⟨v', hv2, by simpa [toks, lowS] using hrow4, trivial⟩, by rw [List.all_append, hall]; simp [ht]⟩, ?_, ?_, hB3.trans hb2⟩
  · have h3 : Boxed W3 w.heap.size 22 (.slice none 0 0) := (hb3.block _ hr1.lt).trans hr1
    exact ((h3.alloc _).kept hgr (h3.not_row (by decide) hrow3)).kept (grownBy_setCell' _ _ _) (by simp)
  · have h3 : Boxed W3 (w.heap.size + 1) 4 (.bool false) := (hb3.block _ hr2.lt).trans hr2
    exact ((h3.alloc _).kept hgr (h3.not_row (by decide) hrow3)).kept (grownBy_setCell' _ _ _) (by simp)

def tokList (l0 : List ByteArray) : List ByteArray := if (gives l0).all isTok then toks (gives l0) else []
def tokOk (l0 : List ByteArray) : Bool := (gives l0).all isTok && !(gives l0).isEmpty
def TokPost (l0 : List ByteArray) (w : World) (e : Ending) (w' : World) : Prop :=
  ∃ v, e = .returned (.tuple #[v, .bool (tokOk l0)]) ∧ w'.ownsRow w.heap.size 9 1 v (tokList l0).length ((tokList l0).map Value.string) ∧ Below w.heap.size w w'
theorem tokPost_no {l0 : List ByteArray} {w w' : World} (h : (gives l0).all isTok = false) (hB : Below w.heap.size w w') : TokPost l0 w (.returned (.tuple #[.slice none 0 0, .bool false])) w' := by
  refine ⟨.slice none 0 0, by rw [tokOk, h]; rfl, ?_, hB⟩
  have : tokList l0 = [] := by rw [tokList, h]; rfl
  rw [this]
  exact World.ownsRow_nil _ _ _ _
theorem tokPost_yes {l0 : List ByteArray} {w w' : World} {v : Value} {b : Bool} (h : (gives l0).all isTok = true) (hb : b = decide (0 < (gives l0).length)) (ho : w'.ownsRow w.heap.size 9 1 v (gives l0).length ((toks (gives l0)).map Value.string)) (hB : Below w.heap.size w w') : TokPost l0 w (.returned (.tuple #[v, .bool b])) w' := by
  have h2 : tokList l0 = toks (gives l0) := by rw [tokList, h]; rfl
  refine ⟨v, ?_, by rw [h2]; simpa [toks] using ho, hB⟩
  rw [tokOk, h, hb]
  cases gives l0 <;> simp

set_option maxRecDepth 100000 in
set_option maxHeartbeats 4000000 in
theorem Tokens_calls (A0 : Option Addr) (c0 : Nat) (l0 : List ByteArray) (hsize : LSpec.total l0 ≤ 1099511627776) (w : World) (hr0 : Reads w A0 l0) :
    Calls Tryd.prog 10 #[.slice A0 l0.length c0] w (TokPost l0 w) := by
  obtain ⟨n, _⟩ : ∃ n : Nat, n = n := ⟨9, rfl⟩
  refine (callsIn_wide (n := n)).1 ?_
  obtain ⟨i0, hi, hz0, hz1, hz2⟩ := info_parts info9
  refine callsIn_of_wp_marks Tryd.func10 rfl trivial ?_ rfl
  simp only [Tryd.ntmps10, List.size_toArray, List.length_cons, List.length_nil, Nat.reduceAdd, Nat.reduceSub, Array.replicate_succ, Array.replicate_zero, List.push_toArray, List.append_toArray, List.nil_append, List.cons_append]
  gi_wp2
  refine ⟨trivial, no_depth, ?_⟩
  refine (callsIn_wide.2 (elements_calls A0 l0.length c0 _)).mono ?_
  rintro e w' ⟨rfl, rfl⟩
  gi_wp2
  have hb1 := (((Boxed.new w 22 (.slice none 0 0)).alloc (.cells #[.bool false] 4)).alloc (.cells #[.slice none 0 0] 22)).alloc (.cells #[.slice A0 l0.length c0] 22)
  have hb2 := ((Boxed.new (w.alloc (.cells #[.slice none 0 0] 22)) 4 (.bool false)).alloc (.cells #[.slice none 0 0] 22)).alloc (.cells #[.slice A0 l0.length c0] 22)
  have hb3 := (Boxed.new ((w.alloc (.cells #[.slice none 0 0] 22)).alloc (.cells #[.bool false] 4)) 22 (.slice none 0 0)).alloc (.cells #[.slice A0 l0.length c0] 22)
  have hbv := Boxed.new (((w.alloc (.cells #[.slice none 0 0] 22)).alloc (.cells #[.bool false] 4)).alloc (.cells #[.slice none 0 0] 22)) 22 (.slice A0 l0.length c0)
  rw [World.size_alloc] at hb2
  rw [World.size_alloc, World.size_alloc] at hb3
  rw [World.size_alloc, World.size_alloc, World.size_alloc] at hbv
  have hB1 : Below w.heap.size w ((((w.alloc (.cells #[.slice none 0 0] 22)).alloc (.cells #[.bool false] 4)).alloc (.cells #[.slice none 0 0] 22)).alloc (.cells #[.slice A0 l0.length c0] 22)) :=
    ((((Below.refl _ w).alloc (Nat.le_refl _) _).alloc (by simp) _).alloc (by simp; omega) _).alloc (by simp; omega) _
  have hs1 : ((((w.alloc (.cells #[.slice none 0 0] 22)).alloc (.cells #[.bool false] 4)).alloc (.cells #[.slice none 0 0] 22)).alloc (.cells #[.slice A0 l0.length c0] 22)).heap.size = w.heap.size + 4 := by simp
  generalize (((w.alloc (.cells #[.slice none 0 0] 22)).alloc (.cells #[.bool false] 4)).alloc (.cells #[.slice none 0 0] 22)).alloc (.cells #[.slice A0 l0.length c0] 22) = w1 at *
  have hs1a := Nat.le_of_eq hs1
  have hs1b := Nat.le_of_eq hs1.symm
  clear hs1
  have hlens : ∀ s ∈ l0, s.size ≤ 140737488351232 := fun s hs => by have := LSpec.total_mem hs; omega
  have hlen0 : l0.length ≤ LSpec.total l0 := LSpec.total_length l0
  refine wpIn_rangeX rfl rfl (gf := 29) (lb := #[.pointer (some ⟨w.heap.size + 3, 0, none⟩)]) rfl trivial (enters_of Tryd.func29 (by kernel_rfl) rfl)
    (encs := encS) (A := fun y => y.size ≤ 140737488351232) (M := fun k => w.heap.size ≤ k ∧ k < w.heap.size + 3) (b := some (w.heap.size + 2)) (B := w1.heap.size) (S := fun xs => xs = gives l0) (Sp := fun pre => ∃ more, pre ++ more = gives l0) (N := LSpec.total l0) ?hseq (fun _ => rfl) (fun j hj => by omega) (fun j e => by cases e; omega) (Nat.le_refl _)
    (fun pre W => ((∃ v, Boxed W (w.heap.size + 2) 22 v ∧ W.ownsRow w.heap.size 9 1 v pre.length ((toks pre).map Value.string) ∧ True) ∧ pre.all isTok = true) ∧ Boxed W w.heap.size 22 (.slice none 0 0) ∧ Boxed W (w.heap.size + 1) 4 (.bool false) ∧ Below w.heap.size w W)
    (fun c pre W => (c = .ret ∧ pre.all isTok = false) ∧ Boxed W w.heap.size 22 (.slice none 0 0) ∧ Boxed W (w.heap.size + 1) 4 (.bool false) ∧ Below w.heap.size w W)
    (AbX.and (AbX.and (abX_holdsRow (M := fun k => w.heap.size ≤ k ∧ k < w.heap.size + 3) (Bx := w.heap.size + 2) (t := 22) (e := 9) (size := 1) (n₀ := w.heap.size) (by omega) (fun pre => pre.length) (fun pre => (toks pre).map Value.string) (fun _ _ => True)) (AbX.pure _ _ _ _)) (AbX.and (abX_block _ _ (.inl (by omega)) _) (AbX.and (abX_block _ _ (.inl (by omega)) _) (abX_below _ _ (Nat.le_refl _) (by omega)))))
    (fun c => AbX.and (AbX.pure _ _ _ _) (AbX.and (abX_block _ _ (.inl (by omega)) _) (AbX.and (abX_block _ _ (.inl (by omega)) _) (abX_below _ _ (Nat.le_refl _) (by omega))))) ?hrow ⟨⟨⟨_, hb3, World.ownsRow_nil _ _ _ _, trivial⟩, rfl⟩, hb1, hb2, hB1⟩ ?a1 ?assign ?body ?done ?stop
  case assign =>
    intro m l' x' W K hK
    gi_wp2
    exact hK
  case hrow =>
    rintro pre X r ⟨⟨⟨v, hv, hrw, _⟩, _⟩, _⟩ e
    rw [xrow_boxed hv] at e
    exact (ownsRow_lt hrw e).2
  case hseq =>
    intro W1 hbW hsW l' J' Jx' hJ' hJx' hrow' hsz' hY' h0' m
    have hbw : Below w.heap.size w W1 := hB1.trans (hbW.mono (by omega))
    have hxr : xrow (some (w.heap.size + 2)) W1 = none := by
      have : Boxed W1 (w.heap.size + 2) 22 (.slice none 0 0) := (hbW.block _ (by omega)).trans hb3
      rw [xrow_boxed this]; rfl
    refine elements1 l' _ A0 c0 l0 hlens (by omega) (withLoop (fun k => w.heap.size ≤ k ∧ k < w.heap.size + 3) w1) (some (w.heap.size + 2)) w1.heap.size J' Jx' hJ' hJx' (fun j e => .inl (by cases e; omega)) W1 (fun k hk => by rcases hk with h | h | h <;> omega) (by omega) hrow' hY' h0' ?_ ?_ m
    · exact ⟨(hbW.block _ (by omega)).trans hbv, fun hk => by rcases hk with h | h | h <;> omega, by rw [hxr]; simp, fun j e => by cases e; omega⟩
    · exact hr0.kept hbw (fun k hk h => by rcases h with h | h | h <;> omega) (fun k hk => by rw [hxr]; simp) (fun j e => by cases e; omega)
  case body =>
    rintro m l' pre x W hx hszW ⟨⟨⟨v, hv, hrow, _⟩, hall⟩, hr1, hr2, hB⟩ hlt
    have hmx : Tryd.prog.follows .mixedOrders = true := by kernel_rfl
    have Hall := Go.Proofs.YthilbpgkhjchcaaDoorW.PrintWords.Aside0.mk hall
    clear hall
    gi_wp2
    refine ⟨trivial, no_depth, ?_⟩
    refine (CallsIn.inRound l' (callsIn_wide.2 (IsToken_calls x (by omega) _))).mono ?_
    rintro e W2 ⟨rfl, hd⟩
    have hbW := hd.below
    have hv' : Boxed W2 (w.heap.size + 2) 22 v := (hbW.block _ (by omega)).trans hv
    have hr1' : Boxed W2 w.heap.size 22 (.slice none 0 0) := (hbW.block _ (by omega)).trans hr1
    have hr2' : Boxed W2 (w.heap.size + 1) 4 (.bool false) := (hbW.block _ (by omega)).trans hr2
    have hB' : Below w.heap.size w W2 := hB.trans (hbW.mono (by omega))
    have hrow' := Go.Proofs.YthilbpgkhjchcaaDoorW.PrintWords.pw_own_below hrow hbW
    have hkx : KpX (fun k => w.heap.size ≤ k ∧ k < w.heap.size + 3) (some (w.heap.size + 2)) W W2 := KpX.below hbW (fun j e => by cases e; omega)
    have hsz2 := hbW.size
    clear hv hr1 hr2 hB hrow hd hbW
    cases ht : isTok x with
    | false =>
      have Ht := Go.Proofs.YthilbpgkhjchcaaDoorW.PrintWords.Aside0.mk ht
      clear ht
      have c1 := hr1'.cell
      have c2 := hr1'.frozen
      have c3 := hr2'.cell
      have c4 := hr2'.frozen
      gi_wp2
      exact ⟨hkx.trans ((KpX.setCell _ (by omega) (by simp)).trans (KpX.setCell _ (by omega) (by simp))), ⟨rfl, by rw [List.all_append, Hall.out]; simp [Ht.out]⟩,
        (hr1'.set _).kept (grownBy_setCell' _ _ _) (by simp), (hr2'.kept (grownBy_setCell' _ _ _) (by simp)).set _, (hB'.setCell (p := ⟨w.heap.size, 0, none⟩) (Nat.le_refl _) _).setCell (p := ⟨w.heap.size + 1, 0, none⟩) (by simp) _⟩
    | true =>
      have Ht := Go.Proofs.YthilbpgkhjchcaaDoorW.PrintWords.Aside0.mk ht
      clear ht
      have c1 := hv'.cell
      gi_wp2
      refine wpIn_region_any hmx ?_
      try (change wpAnyIn _ _ _ _ _ _ _ _ _ (World.drew _))
      refine wpAnyIn_ready (rs := [0, 1]) (by kernel_rfl) (by simp) ?_
      refine AllReadyIn.cons rfl (fun K hK => ?_) ?_
      · go_simp
        refine hK _ _ ?_
        clear hK K
        refine wpAnyIn_ready (rs := [1]) (by kernel_rfl) (by simp) ?_
        refine AllReadyIn.cons rfl (fun K hK => ?_) ?_
        · go_simp
          refine hK _ _ ?_
          clear hK K
          refine wpAnyIn_ready (rs := [2]) (by kernel_rfl) (by simp) ?_
          refine AllReadyIn.cons rfl (fun K hK => ?_) ?_
          · go_simp
            refine ⟨trivial, no_depth, ?_⟩
            refine (CallsIn.inRound l' (callsIn_wide.2 (Lower_calls x hx _))).mono ?_
            rintro e W3 ⟨rfl, hbL⟩
            have hb3 : Below W2.heap.size W2 W3 := ⟨hbL.os, hbL.tape, hbL.output, hbL.size, hbL.block⟩
            clear hbL
            have hv3 : Boxed W3 (w.heap.size + 2) 22 v := (hb3.block _ (by omega)).trans hv'
            have c5 := hv3.cell
            have c5b := (hv3.alloc (.cells #[.string (ofL (lowL (toL x)))] 9)).cell
            have hrow3 := Go.Proofs.YthilbpgkhjchcaaDoorW.PrintWords.pw_own_below hrow' hb3
            have hB3 : Below w.heap.size w W3 := hB'.trans (hb3.mono (by omega))
            refine hK _ _ ?_
            clear hK K
            refine wpAnyIn_ready (rs := [3]) (by kernel_rfl) (by simp) ?_
            refine AllReadyIn.cons rfl (fun K hK => ?_) ?_
            · go_simp
              refine hK _ _ ?_
              clear hK K
              refine wpAnyIn_ready (rs := [4]) (by kernel_rfl) (by simp) ?_
              refine AllReadyIn.cons rfl (fun K hK => ?_) ?_
              · refine stepIn_append_own_at _ rfl _ _ 22 rfl w.heap.size 9 i0 (.string ⟨#[]⟩) 1 16 Tryd.underlying22 hi hz0 hz1 hz2 rfl (by decide) _ _ _ rfl (hrow3.alloc _) ⟨W3.heap.size, 0, none⟩ 1 1 [.string (ofL (lowL (toL x)))] rfl rfl (cell_one_new _ _ _) (by simp [Value.oneCell']) (by unfold maxLen; omega) (by omega) (by have := hB3.size; simp; omega) ?_
                intro v' w4 hown' hgrow _ hat
                obtain ⟨g', cap', rfl⟩ := ownsRow_succ hown'
                obtain ⟨hv1, hv2, hr2, hk2, hb2⟩ := hv3.appended (by decide) hrow3 hB3.size (by omega) hown' hgrow
                have hkx2 := KpX.appended (M := fun k => w.heap.size ≤ k ∧ k < w.heap.size + 3) hv3 (by decide) hrow3 hgrow hat (by omega)
                have hgr := hgrow
                have c6 := hv1.cell
                have c7 := hv1.frozen
                refine hK _ _ ?_
                clear hK K
                refine wpAnyIn_ready (rs := [5]) (by kernel_rfl) (by simp) ?_
                refine AllReadyIn.cons rfl (fun K hK => ?_) ?_
                · go_simp
                  refine hK _ _ ?_
                  clear hK K
                  refine wpAnyIn_done (by kernel_rfl) ?_ _
                  gi_wp2
                  exact tokens_round_end Hall.out Ht.out hkx (by omega) hb3 hv3 hrow3 hB3 hr1' hr2' hv2 hr2 hkx2 hb2 hgr
                exact AllReadyIn.nil
              exact AllReadyIn.nil
            exact AllReadyIn.nil
          exact AllReadyIn.nil
        exact AllReadyIn.nil
      refine AllReadyIn.cons rfl (fun K hK => ?_) ?_
      · go_simp
        refine hK _ _ ?_
        clear hK K
        refine wpAnyIn_ready (rs := [0, 2]) (by kernel_rfl) (by simp) ?_
        refine AllReadyIn.cons rfl (fun K hK => ?_) ?_
        · go_simp
          refine hK _ _ ?_
          clear hK K
          refine wpAnyIn_ready (rs := [2]) (by kernel_rfl) (by simp) ?_
          refine AllReadyIn.cons rfl (fun K hK => ?_) ?_
          · go_simp
            refine ⟨trivial, no_depth, ?_⟩
            refine (CallsIn.inRound l' (callsIn_wide.2 (Lower_calls x hx _))).mono ?_
            rintro e W3 ⟨rfl, hbL⟩
            have hb3 : Below W2.heap.size W2 W3 := ⟨hbL.os, hbL.tape, hbL.output, hbL.size, hbL.block⟩
            clear hbL
            have hv3 : Boxed W3 (w.heap.size + 2) 22 v := (hb3.block _ (by omega)).trans hv'
            have c5 := hv3.cell
            have c5b := (hv3.alloc (.cells #[.string (ofL (lowL (toL x)))] 9)).cell
            have hrow3 := Go.Proofs.YthilbpgkhjchcaaDoorW.PrintWords.pw_own_below hrow' hb3
            have hB3 : Below w.heap.size w W3 := hB'.trans (hb3.mono (by omega))
            refine hK _ _ ?_
            clear hK K
            refine wpAnyIn_ready (rs := [3]) (by kernel_rfl) (by simp) ?_
            refine AllReadyIn.cons rfl (fun K hK => ?_) ?_
            · go_simp
              refine hK _ _ ?_
              clear hK K
              refine wpAnyIn_ready (rs := [4]) (by kernel_rfl) (by simp) ?_
              refine AllReadyIn.cons rfl (fun K hK => ?_) ?_
              · refine stepIn_append_own_at _ rfl _ _ 22 rfl w.heap.size 9 i0 (.string ⟨#[]⟩) 1 16 Tryd.underlying22 hi hz0 hz1 hz2 rfl (by decide) _ _ _ rfl (hrow3.alloc _) ⟨W3.heap.size, 0, none⟩ 1 1 [.string (ofL (lowL (toL x)))] rfl rfl (cell_one_new _ _ _) (by simp [Value.oneCell']) (by unfold maxLen; omega) (by omega) (by have := hB3.size; simp; omega) ?_
                intro v' w4 hown' hgrow _ hat
                obtain ⟨g', cap', rfl⟩ := ownsRow_succ hown'
                obtain ⟨hv1, hv2, hr2, hk2, hb2⟩ := hv3.appended (by decide) hrow3 hB3.size (by omega) hown' hgrow
                have hkx2 := KpX.appended (M := fun k => w.heap.size ≤ k ∧ k < w.heap.size + 3) hv3 (by decide) hrow3 hgrow hat (by omega)
                have hgr := hgrow
                have c6 := hv1.cell
                have c7 := hv1.frozen
                refine hK _ _ ?_
                clear hK K
                refine wpAnyIn_ready (rs := [5]) (by kernel_rfl) (by simp) ?_
                refine AllReadyIn.cons rfl (fun K hK => ?_) ?_
                · go_simp
                  refine hK _ _ ?_
                  clear hK K
                  refine wpAnyIn_done (by kernel_rfl) ?_ _
                  gi_wp2
                  exact tokens_round_end Hall.out Ht.out hkx (by omega) hb3 hv3 hrow3 hB3 hr1' hr2' hv2 hr2 hkx2 hb2 hgr
                exact AllReadyIn.nil
              exact AllReadyIn.nil
            exact AllReadyIn.nil
          exact AllReadyIn.nil
        refine AllReadyIn.cons rfl (fun K hK => ?_) ?_
        · go_simp
          refine ⟨trivial, no_depth, ?_⟩
          refine (CallsIn.inRound l' (callsIn_wide.2 (Lower_calls x hx _))).mono ?_
          rintro e W3 ⟨rfl, hbL⟩
          have hb3 : Below W2.heap.size W2 W3 := ⟨hbL.os, hbL.tape, hbL.output, hbL.size, hbL.block⟩
          clear hbL
          have hv3 : Boxed W3 (w.heap.size + 2) 22 v := (hb3.block _ (by omega)).trans hv'
          have c5 := hv3.cell
          have c5b := (hv3.alloc (.cells #[.string (ofL (lowL (toL x)))] 9)).cell
          have hrow3 := Go.Proofs.YthilbpgkhjchcaaDoorW.PrintWords.pw_own_below hrow' hb3
          have hB3 : Below w.heap.size w W3 := hB'.trans (hb3.mono (by omega))
          refine hK _ _ ?_
          clear hK K
          refine wpAnyIn_ready (rs := [0, 3]) (by kernel_rfl) (by simp) ?_
          refine AllReadyIn.cons rfl (fun K hK => ?_) ?_
          · go_simp
            refine hK _ _ ?_
            clear hK K
            refine wpAnyIn_ready (rs := [3]) (by kernel_rfl) (by simp) ?_
            refine AllReadyIn.cons rfl (fun K hK => ?_) ?_
            · go_simp
              refine hK _ _ ?_
              clear hK K
              refine wpAnyIn_ready (rs := [4]) (by kernel_rfl) (by simp) ?_
              refine AllReadyIn.cons rfl (fun K hK => ?_) ?_
              · refine stepIn_append_own_at _ rfl _ _ 22 rfl w.heap.size 9 i0 (.string ⟨#[]⟩) 1 16 Tryd.underlying22 hi hz0 hz1 hz2 rfl (by decide) _ _ _ rfl (hrow3.alloc _) ⟨W3.heap.size, 0, none⟩ 1 1 [.string (ofL (lowL (toL x)))] rfl rfl (cell_one_new _ _ _) (by simp [Value.oneCell']) (by unfold maxLen; omega) (by omega) (by have := hB3.size; simp; omega) ?_
                intro v' w4 hown' hgrow _ hat
                obtain ⟨g', cap', rfl⟩ := ownsRow_succ hown'
                obtain ⟨hv1, hv2, hr2, hk2, hb2⟩ := hv3.appended (by decide) hrow3 hB3.size (by omega) hown' hgrow
                have hkx2 := KpX.appended (M := fun k => w.heap.size ≤ k ∧ k < w.heap.size + 3) hv3 (by decide) hrow3 hgrow hat (by omega)
                have hgr := hgrow
                have c6 := hv1.cell
                have c7 := hv1.frozen
                refine hK _ _ ?_
                clear hK K
                refine wpAnyIn_ready (rs := [5]) (by kernel_rfl) (by simp) ?_
                refine AllReadyIn.cons rfl (fun K hK => ?_) ?_
                · go_simp
                  refine hK _ _ ?_
                  clear hK K
                  refine wpAnyIn_done (by kernel_rfl) ?_ _
                  gi_wp2
                  exact tokens_round_end Hall.out Ht.out hkx (by omega) hb3 hv3 hrow3 hB3 hr1' hr2' hv2 hr2 hkx2 hb2 hgr
                exact AllReadyIn.nil
              exact AllReadyIn.nil
            exact AllReadyIn.nil
          refine AllReadyIn.cons rfl (fun K hK => ?_) ?_
          · go_simp
            refine hK _ _ ?_
            clear hK K
            refine wpAnyIn_ready (rs := [0]) (by kernel_rfl) (by simp) ?_
            refine AllReadyIn.cons rfl (fun K hK => ?_) ?_
            · go_simp
              refine hK _ _ ?_
              clear hK K
              refine wpAnyIn_ready (rs := [4]) (by kernel_rfl) (by simp) ?_
              refine AllReadyIn.cons rfl (fun K hK => ?_) ?_
              · refine stepIn_append_own_at _ rfl _ _ 22 rfl w.heap.size 9 i0 (.string ⟨#[]⟩) 1 16 Tryd.underlying22 hi hz0 hz1 hz2 rfl (by decide) _ _ _ rfl (hrow3.alloc _) ⟨W3.heap.size, 0, none⟩ 1 1 [.string (ofL (lowL (toL x)))] rfl rfl (cell_one_new _ _ _) (by simp [Value.oneCell']) (by unfold maxLen; omega) (by omega) (by have := hB3.size; simp; omega) ?_
                intro v' w4 hown' hgrow _ hat
                obtain ⟨g', cap', rfl⟩ := ownsRow_succ hown'
                obtain ⟨hv1, hv2, hr2, hk2, hb2⟩ := hv3.appended (by decide) hrow3 hB3.size (by omega) hown' hgrow
                have hkx2 := KpX.appended (M := fun k => w.heap.size ≤ k ∧ k < w.heap.size + 3) hv3 (by decide) hrow3 hgrow hat (by omega)
                have hgr := hgrow
                have c6 := hv1.cell
                have c7 := hv1.frozen
                refine hK _ _ ?_
                clear hK K
                refine wpAnyIn_ready (rs := [5]) (by kernel_rfl) (by simp) ?_
                refine AllReadyIn.cons rfl (fun K hK => ?_) ?_
                · go_simp
                  refine hK _ _ ?_
                  clear hK K
                  refine wpAnyIn_done (by kernel_rfl) ?_ _
                  gi_wp2
                  exact tokens_round_end Hall.out Ht.out hkx (by omega) hb3 hv3 hrow3 hB3 hr1' hr2' hv2 hr2 hkx2 hb2 hgr
                exact AllReadyIn.nil
              exact AllReadyIn.nil
            exact AllReadyIn.nil
          exact AllReadyIn.nil
        exact AllReadyIn.nil
      exact AllReadyIn.nil
  case done =>
    rintro xs W hszW rfl ⟨⟨⟨v, hv, hrow, _⟩, hall⟩, hr1, hr2, hB⟩ hD hDr
    have hmx : Tryd.prog.follows .mixedOrders = true := by kernel_rfl
    have Hall := Go.Proofs.YthilbpgkhjchcaaDoorW.PrintWords.Aside0.mk hall
    clear hall
    obtain ⟨A, c, rfl⟩ := Go.Proofs.YthilbpgkhjchcaaDoorW.PrintWords.own_slice hrow
    have c1 := hv.cell
    have c2 := hr1.cell
    have c3 := hr1.frozen
    have c4 := hr2.cell
    have c5 := hr2.frozen
    have hq1 := (hr1.set (.slice A (gives l0).length c)).kept (grownBy_setCell' _ (w.heap.size + 1) (.bool (decide (0 < (gives l0).length)))) (by simp)
    have hq2 := (hr2.kept (grownBy_setCell' W w.heap.size (.slice A (gives l0).length c)) (by simp)).set (.bool (decide (0 < (gives l0).length)))
    have hD4 : Go.Proofs.YthilbpgkhjchcaaDoorW.PrintWords.Aside0 (((W.setCell ⟨w.heap.size, 0, none⟩ (.slice A (gives l0).length c)).setCell ⟨w.heap.size + 1, 0, none⟩ (.bool (decide (0 < (gives l0).length)))).heap[w1.heap.size]? = some (.deferred (some []))) :=
      ⟨(Below.heap_setCell _ ⟨w.heap.size + 1, 0, none⟩ _ w1.heap.size (by simp; omega)).trans ((Below.heap_setCell W ⟨w.heap.size, 0, none⟩ _ w1.heap.size (by simp; omega)).trans hD)⟩
    have c6 := ((show Boxed (World.drew ((W.setCell ⟨w.heap.size, 0, none⟩ (.slice A (gives l0).length c)).setCell ⟨w.heap.size + 1, 0, none⟩ (.bool (decide (0 < (gives l0).length))))) w.heap.size 22 (.slice A (gives l0).length c) from hq1).kept (grownBy_putObj' _ w1.heap.size (.deferred none)) (by simp; omega)).cell
    have c7 := ((show Boxed (World.drew ((W.setCell ⟨w.heap.size, 0, none⟩ (.slice A (gives l0).length c)).setCell ⟨w.heap.size + 1, 0, none⟩ (.bool (decide (0 < (gives l0).length))))) (w.heap.size + 1) 4 (.bool (decide (0 < (gives l0).length))) from hq2).kept (grownBy_putObj' _ w1.heap.size (.deferred none)) (by simp; omega)).cell
    have hrow4 := (hrow.kept (grownBy_setCell' W w.heap.size (.slice A (gives l0).length c)) (.inr (hr1.not_row (by decide) hrow).symm))
    have hrow4b := (hrow4.kept (grownBy_setCell' _ (w.heap.size + 1) (.bool (decide (0 < (gives l0).length)))) (.inr ((hr2.kept (grownBy_setCell' W w.heap.size (.slice A (gives l0).length c)) (by simp)).not_row (by decide) hrow4).symm))
    have hrow5 := Go.Proofs.YthilbpgkhjchcaaDoorW.PrintWords.Aside0.mk (ownsRow_putObj (show (World.drew ((W.setCell ⟨w.heap.size, 0, none⟩ (.slice A (gives l0).length c)).setCell ⟨w.heap.size + 1, 0, none⟩ (.bool (decide (0 < (gives l0).length))))).ownsRow w.heap.size 9 1 (.slice A (gives l0).length c) (gives l0).length ((toks (gives l0)).map Value.string) from hrow4b) (.deferred none) hD4.out rfl)
    have hB5 := Go.Proofs.YthilbpgkhjchcaaDoorW.PrintWords.Aside0.mk ((Go.Proofs.YthilbpgkhjchcaaDoorW.PrintWords.below_drew ((hB.setCell (p := ⟨w.heap.size, 0, none⟩) (Nat.le_refl _) (.slice A (gives l0).length c)).setCell (p := ⟨w.heap.size + 1, 0, none⟩) (by simp) (.bool (decide (0 < (gives l0).length))))).trans (belowK_b (w := w) (Nat.le_refl _) (World.drew ((W.setCell ⟨w.heap.size, 0, none⟩ (.slice A (gives l0).length c)).setCell ⟨w.heap.size + 1, 0, none⟩ (.bool (decide (0 < (gives l0).length))))) w1.heap.size _ (.deferred none) (by omega) hD4.out rfl rfl))
    clear hrow4 hq1 hq2
    gi_wp2
    refine wpIn_region_any hmx ?_
    try (change wpAnyIn _ _ _ _ _ _ _ _ _ (World.drew _))
    refine wpAnyIn_ready (rs := [0, 1]) (by kernel_rfl) (by simp) ?_
    refine AllReadyIn.cons rfl (fun K hK => ?_) ?_
    · go_simp
      refine hK _ _ ?_
      clear hK K
      refine wpAnyIn_ready (rs := [1, 4]) (by kernel_rfl) (by simp) ?_
      refine AllReadyIn.cons rfl (fun K hK => ?_) ?_
      · go_simp
        refine hK _ _ ?_
        clear hK K
        refine wpAnyIn_ready (rs := [2, 4]) (by kernel_rfl) (by simp) ?_
        refine AllReadyIn.cons rfl (fun K hK => ?_) ?_
        · go_simp
          refine hK _ _ ?_
          clear hK K
          refine wpAnyIn_ready (rs := [3, 4]) (by kernel_rfl) (by simp) ?_
          refine AllReadyIn.cons rfl (fun K hK => ?_) ?_
          · go_simp
            refine hK _ _ ?_
            clear hK K
            refine wpAnyIn_ready (rs := [4]) (by kernel_rfl) (by simp) ?_
            refine AllReadyIn.cons rfl (fun K hK => ?_) ?_
            · go_simp
              refine hK _ _ ?_
              clear hK K
              refine wpAnyIn_ready (rs := [5]) (by kernel_rfl) (by simp) ?_
              refine AllReadyIn.cons rfl (fun K hK => ?_) ?_
              · go_simp
                refine hK _ _ ?_
                clear hK K
                refine wpAnyIn_done (by kernel_rfl) ?_ _
                gi_wp2
                refine ⟨by simp, .inl ⟨_, _, rfl, run_takeDeferred (w := World.drew _) hD4.out, ?_⟩⟩
                exact ⟨_, by simp [results, Tryd.f10, go_sem, c6, c7], tokPost_yes Hall.out rfl hrow5.out hB5.out⟩
              exact AllReadyIn.nil
            exact AllReadyIn.nil
          refine AllReadyIn.cons rfl (fun K hK => ?_) ?_
          · go_simp
            refine hK _ _ ?_
            clear hK K
            refine wpAnyIn_ready (rs := [3]) (by kernel_rfl) (by simp) ?_
            refine AllReadyIn.cons rfl (fun K hK => ?_) ?_
            · go_simp
              refine hK _ _ ?_
              clear hK K
              refine wpAnyIn_ready (rs := [5]) (by kernel_rfl) (by simp) ?_
              refine AllReadyIn.cons rfl (fun K hK => ?_) ?_
              · go_simp
                refine hK _ _ ?_
                clear hK K
                refine wpAnyIn_done (by kernel_rfl) ?_ _
                gi_wp2
                refine ⟨by simp, .inl ⟨_, _, rfl, run_takeDeferred (w := World.drew _) hD4.out, ?_⟩⟩
                exact ⟨_, by simp [results, Tryd.f10, go_sem, c6, c7], tokPost_yes Hall.out rfl hrow5.out hB5.out⟩
              exact AllReadyIn.nil
            exact AllReadyIn.nil
          exact AllReadyIn.nil
        refine AllReadyIn.cons rfl (fun K hK => ?_) ?_
        · go_simp
          refine hK _ _ ?_
          clear hK K
          refine wpAnyIn_ready (rs := [2]) (by kernel_rfl) (by simp) ?_
          refine AllReadyIn.cons rfl (fun K hK => ?_) ?_
          · go_simp
            refine hK _ _ ?_
            clear hK K
            refine wpAnyIn_ready (rs := [3]) (by kernel_rfl) (by simp) ?_
            refine AllReadyIn.cons rfl (fun K hK => ?_) ?_
            · go_simp
              refine hK _ _ ?_
              clear hK K
              refine wpAnyIn_ready (rs := [5]) (by kernel_rfl) (by simp) ?_
              refine AllReadyIn.cons rfl (fun K hK => ?_) ?_
              · go_simp
                refine hK _ _ ?_
                clear hK K
                refine wpAnyIn_done (by kernel_rfl) ?_ _
                gi_wp2
                refine ⟨by simp, .inl ⟨_, _, rfl, run_takeDeferred (w := World.drew _) hD4.out, ?_⟩⟩
                exact ⟨_, by simp [results, Tryd.f10, go_sem, c6, c7], tokPost_yes Hall.out rfl hrow5.out hB5.out⟩
              exact AllReadyIn.nil
            exact AllReadyIn.nil
          exact AllReadyIn.nil
        exact AllReadyIn.nil
      refine AllReadyIn.cons rfl (fun K hK => ?_) ?_
      · go_simp
        refine hK _ _ ?_
        clear hK K
        refine wpAnyIn_ready (rs := [1]) (by kernel_rfl) (by simp) ?_
        refine AllReadyIn.cons rfl (fun K hK => ?_) ?_
        · go_simp
          refine hK _ _ ?_
          clear hK K
          refine wpAnyIn_ready (rs := [2]) (by kernel_rfl) (by simp) ?_
          refine AllReadyIn.cons rfl (fun K hK => ?_) ?_
          · go_simp
            refine hK _ _ ?_
            clear hK K
            refine wpAnyIn_ready (rs := [3]) (by kernel_rfl) (by simp) ?_
            refine AllReadyIn.cons rfl (fun K hK => ?_) ?_
            · go_simp
              refine hK _ _ ?_
              clear hK K
              refine wpAnyIn_ready (rs := [5]) (by kernel_rfl) (by simp) ?_
              refine AllReadyIn.cons rfl (fun K hK => ?_) ?_
              · go_simp
                refine hK _ _ ?_
                clear hK K
                refine wpAnyIn_done (by kernel_rfl) ?_ _
                gi_wp2
                refine ⟨by simp, .inl ⟨_, _, rfl, run_takeDeferred (w := World.drew _) hD4.out, ?_⟩⟩
                exact ⟨_, by simp [results, Tryd.f10, go_sem, c6, c7], tokPost_yes Hall.out rfl hrow5.out hB5.out⟩
              exact AllReadyIn.nil
            exact AllReadyIn.nil
          exact AllReadyIn.nil
        exact AllReadyIn.nil
      exact AllReadyIn.nil
    refine AllReadyIn.cons rfl (fun K hK => ?_) ?_
    · go_simp
      refine hK _ _ ?_
      clear hK K
      refine wpAnyIn_ready (rs := [0, 2]) (by kernel_rfl) (by simp) ?_
      refine AllReadyIn.cons rfl (fun K hK => ?_) ?_
      · go_simp
        refine hK _ _ ?_
        clear hK K
        refine wpAnyIn_ready (rs := [2, 4]) (by kernel_rfl) (by simp) ?_
        refine AllReadyIn.cons rfl (fun K hK => ?_) ?_
        · go_simp
          refine hK _ _ ?_
          clear hK K
          refine wpAnyIn_ready (rs := [3, 4]) (by kernel_rfl) (by simp) ?_
          refine AllReadyIn.cons rfl (fun K hK => ?_) ?_
          · go_simp
            refine hK _ _ ?_
            clear hK K
            refine wpAnyIn_ready (rs := [4]) (by kernel_rfl) (by simp) ?_
            refine AllReadyIn.cons rfl (fun K hK => ?_) ?_
            · go_simp
              refine hK _ _ ?_
              clear hK K
              refine wpAnyIn_ready (rs := [5]) (by kernel_rfl) (by simp) ?_
              refine AllReadyIn.cons rfl (fun K hK => ?_) ?_
              · go_simp
                refine hK _ _ ?_
                clear hK K
                refine wpAnyIn_done (by kernel_rfl) ?_ _
                gi_wp2
                refine ⟨by simp, .inl ⟨_, _, rfl, run_takeDeferred (w := World.drew _) hD4.out, ?_⟩⟩
                exact ⟨_, by simp [results, Tryd.f10, go_sem, c6, c7], tokPost_yes Hall.out rfl hrow5.out hB5.out⟩
              exact AllReadyIn.nil
            exact AllReadyIn.nil
          refine AllReadyIn.cons rfl (fun K hK => ?_) ?_
          · go_simp
            refine hK _ _ ?_
            clear hK K
            refine wpAnyIn_ready (rs := [3]) (by kernel_rfl) (by simp) ?_
            refine AllReadyIn.cons rfl (fun K hK => ?_) ?_
            · go_simp
              refine hK _ _ ?_
              clear hK K
              refine wpAnyIn_ready (rs := [5]) (by kernel_rfl) (by simp) ?_
              refine AllReadyIn.cons rfl (fun K hK => ?_) ?_
              · go_simp
                refine hK _ _ ?_
                clear hK K
                refine wpAnyIn_done (by kernel_rfl) ?_ _
                gi_wp2
                refine ⟨by simp, .inl ⟨_, _, rfl, run_takeDeferred (w := World.drew _) hD4.out, ?_⟩⟩
                exact ⟨_, by simp [results, Tryd.f10, go_sem, c6, c7], tokPost_yes Hall.out rfl hrow5.out hB5.out⟩
              exact AllReadyIn.nil
            exact AllReadyIn.nil
          exact AllReadyIn.nil
        refine AllReadyIn.cons rfl (fun K hK => ?_) ?_
        · go_simp
          refine hK _ _ ?_
          clear hK K
          refine wpAnyIn_ready (rs := [2]) (by kernel_rfl) (by simp) ?_
          refine AllReadyIn.cons rfl (fun K hK => ?_) ?_
          · go_simp
            refine hK _ _ ?_
            clear hK K
            refine wpAnyIn_ready (rs := [3]) (by kernel_rfl) (by simp) ?_
            refine AllReadyIn.cons rfl (fun K hK => ?_) ?_
            · go_simp
              refine hK _ _ ?_
              clear hK K
              refine wpAnyIn_ready (rs := [5]) (by kernel_rfl) (by simp) ?_
              refine AllReadyIn.cons rfl (fun K hK => ?_) ?_
              · go_simp
                refine hK _ _ ?_
                clear hK K
                refine wpAnyIn_done (by kernel_rfl) ?_ _
                gi_wp2
                refine ⟨by simp, .inl ⟨_, _, rfl, run_takeDeferred (w := World.drew _) hD4.out, ?_⟩⟩
                exact ⟨_, by simp [results, Tryd.f10, go_sem, c6, c7], tokPost_yes Hall.out rfl hrow5.out hB5.out⟩
              exact AllReadyIn.nil
            exact AllReadyIn.nil
          exact AllReadyIn.nil
        exact AllReadyIn.nil
      refine AllReadyIn.cons rfl (fun K hK => ?_) ?_
      · go_simp
        refine hK _ _ ?_
        clear hK K
        refine wpAnyIn_ready (rs := [0, 3]) (by kernel_rfl) (by simp) ?_
        refine AllReadyIn.cons rfl (fun K hK => ?_) ?_
        · go_simp
          refine hK _ _ ?_
          clear hK K
          refine wpAnyIn_ready (rs := [3, 4]) (by kernel_rfl) (by simp) ?_
          refine AllReadyIn.cons rfl (fun K hK => ?_) ?_
          · go_simp
            refine hK _ _ ?_
            clear hK K
            refine wpAnyIn_ready (rs := [4]) (by kernel_rfl) (by simp) ?_
            refine AllReadyIn.cons rfl (fun K hK => ?_) ?_
            · go_simp
              refine hK _ _ ?_
              clear hK K
              refine wpAnyIn_ready (rs := [5]) (by kernel_rfl) (by simp) ?_
              refine AllReadyIn.cons rfl (fun K hK => ?_) ?_
              · go_simp
                refine hK _ _ ?_
                clear hK K
                refine wpAnyIn_done (by kernel_rfl) ?_ _
                gi_wp2
                refine ⟨by simp, .inl ⟨_, _, rfl, run_takeDeferred (w := World.drew _) hD4.out, ?_⟩⟩
                exact ⟨_, by simp [results, Tryd.f10, go_sem, c6, c7], tokPost_yes Hall.out rfl hrow5.out hB5.out⟩
              exact AllReadyIn.nil
            exact AllReadyIn.nil
          refine AllReadyIn.cons rfl (fun K hK => ?_) ?_
          · go_simp
            refine hK _ _ ?_
            clear hK K
            refine wpAnyIn_ready (rs := [3]) (by kernel_rfl) (by simp) ?_
            refine AllReadyIn.cons rfl (fun K hK => ?_) ?_
            · go_simp
              refine hK _ _ ?_
              clear hK K
              refine wpAnyIn_ready (rs := [5]) (by kernel_rfl) (by simp) ?_
              refine AllReadyIn.cons rfl (fun K hK => ?_) ?_
              · go_simp
                refine hK _ _ ?_
                clear hK K
                refine wpAnyIn_done (by kernel_rfl) ?_ _
                gi_wp2
                refine ⟨by simp, .inl ⟨_, _, rfl, run_takeDeferred (w := World.drew _) hD4.out, ?_⟩⟩
                exact ⟨_, by simp [results, Tryd.f10, go_sem, c6, c7], tokPost_yes Hall.out rfl hrow5.out hB5.out⟩
              exact AllReadyIn.nil
            exact AllReadyIn.nil
          exact AllReadyIn.nil
        refine AllReadyIn.cons rfl (fun K hK => ?_) ?_
        · go_simp
          refine hK _ _ ?_
          clear hK K
          refine wpAnyIn_ready (rs := [0]) (by kernel_rfl) (by simp) ?_
          refine AllReadyIn.cons rfl (fun K hK => ?_) ?_
          · go_simp
            refine hK _ _ ?_
            clear hK K
            refine wpAnyIn_ready (rs := [4]) (by kernel_rfl) (by simp) ?_
            refine AllReadyIn.cons rfl (fun K hK => ?_) ?_
            · go_simp
              refine hK _ _ ?_
              clear hK K
              refine wpAnyIn_ready (rs := [5]) (by kernel_rfl) (by simp) ?_
              refine AllReadyIn.cons rfl (fun K hK => ?_) ?_
              · go_simp
                refine hK _ _ ?_
                clear hK K
                refine wpAnyIn_done (by kernel_rfl) ?_ _
                gi_wp2
                refine ⟨by simp, .inl ⟨_, _, rfl, run_takeDeferred (w := World.drew _) hD4.out, ?_⟩⟩
                exact ⟨_, by simp [results, Tryd.f10, go_sem, c6, c7], tokPost_yes Hall.out rfl hrow5.out hB5.out⟩
              exact AllReadyIn.nil
            exact AllReadyIn.nil
          exact AllReadyIn.nil
        exact AllReadyIn.nil
      exact AllReadyIn.nil
    exact AllReadyIn.nil
  case stop =>
    rintro c pre W hszW ⟨more, hmore⟩ ⟨⟨rfl, hno⟩, hr1, hr2, hB⟩ hD hDr
    gi_wp2
    refine ⟨by simp, .inl ⟨_, _, rfl, run_takeDeferred hD, ?_⟩⟩
    have c5 : (W.putObj w1.heap.size (.deferred none)).cell? ⟨w.heap.size, 0, none⟩ = some (.slice none 0 0) := (hr1.kept (grownBy_putObj' _ _ _) (by simp; omega)).cell
    have c6 : (W.putObj w1.heap.size (.deferred none)).cell? ⟨w.heap.size + 1, 0, none⟩ = some (.bool false) := (hr2.kept (grownBy_putObj' _ _ _) (by simp; omega)).cell
    have hno2 : (gives l0).all isTok = false := by rw [← hmore, List.all_append, hno]; rfl
    exact ⟨.tuple #[.slice none 0 0, .bool false], by simp [results, Tryd.f10, go_sem, c5, c6], tokPost_no hno2 (hB.trans (belowK_b (w := w) (Nat.le_refl _) W w1.heap.size _ _ (by omega) hD rfl rfl))⟩

end Go.Proofs.YthilbpgkhjchcaaDoor.LTok
end

section
namespace Go.Proofs.YthilbpgkhjchcaaDoor.P
open Go Go.RowKit Go.Proofs.YthilbpgkhjchcaaDoorW.PrintWords Go.Proofs.YthilbpgkhjchcaaDoor.PB Go.Proofs.YthilbpgkhjchcaaDoor.LElems Go.Proofs.YthilbpgkhjchcaaDoor.LColl Go.Proofs.YthilbpgkhjchcaaDoor.LTok

theorem reads_of_kd {w : World} {A : Option Addr} {l : List ByteArray} (h : Kd.C Kd.string w A l.length l) : Reads w A l := fun k hk => by
  obtain ⟨ad, e, hc⟩ := Kd.at_string h (k : Int) (by omega) (by omega)
  refine ⟨ad, e, ?_⟩
  rw [Int.toNat_natCast] at hc
  rw [hc, rdOf, Int.toNat_natCast, List.getD_eq_getElem?_getD]
theorem kd_of_own {w w' : World} {v : Value} {l : List ByteArray} (h : w'.ownsRow w.heap.size 9 1 v l.length (l.map Value.string)) : Kd.R Kd.string 9 w' w.heap.size (fun _ => True) v l :=
  Kd.R_of_own (enc := Value.string) (h1 := fun _ => rfl) h (fun _ _ => trivial)

def lists_Elements.f (l0 : List ByteArray) : Option (List ByteArray) := if LSpec.total l0 ≤ 1099511627776 then some (gives l0) else none
theorem lists_Elements.calls (A0 : Option Addr) (c0 : Nat) (l0 : List ByteArray) (r : List ByteArray) (w : World) (hr0 : Kd.C Kd.string w A0 l0.length l0) (hc0 : l0.length ≤ c0) (h : lists_Elements.f l0 = some r) :
    Calls Tryd.prog 13 #[.slice A0 l0.length c0] w fun e w' => ∃ v0_ : Value, e = .returned (v0_) ∧ Kd.R Kd.string 9 w' w.heap.size (fun _ => True) v0_ r ∧ Below w.heap.size w w' := by
  unfold lists_Elements.f at h
  split at h
  · rename_i ht
    cases h
    exact (Elements_calls A0 c0 l0 ht w (reads_of_kd hr0)).mono fun e w' ⟨v, he, ho, hb⟩ => ⟨v, he, kd_of_own ho, hb⟩
  · cases h

def lists_Tokens.f (l0 : List ByteArray) : Option (List ByteArray × Bool) := if LSpec.total l0 ≤ 1099511627776 then some (tokList l0, tokOk l0) else none
theorem lists_Tokens.calls (A0 : Option Addr) (c0 : Nat) (l0 : List ByteArray) (r1 : List ByteArray) (r2 : Bool) (w : World) (hr0 : Kd.C Kd.string w A0 l0.length l0) (hc0 : l0.length ≤ c0) (h : lists_Tokens.f l0 = some (r1, r2)) :
    Calls Tryd.prog 10 #[.slice A0 l0.length c0] w fun e w' => ∃ v0_ : Value, e = .returned (.tuple #[v0_, .bool r2]) ∧ Kd.R Kd.string 9 w' w.heap.size (fun _ => True) v0_ r1 ∧ Below w.heap.size w w' := by
  unfold lists_Tokens.f at h
  split at h
  · rename_i ht
    cases h
    exact (Tokens_calls A0 c0 l0 ht w (reads_of_kd hr0)).mono fun e w' ⟨v, he, ho, hb⟩ => ⟨v, he, kd_of_own ho, hb⟩
  · cases h

def lists_Has.f (a0 : ByteArray) (l1 : List ByteArray) : Option Bool := if a0.size ≤ 140737488351232 ∧ LSpec.total l1 ≤ 1099511627776 then some (hasW a0 (gives l1)) else none
theorem lists_Has.calls (a0 : ByteArray) (A1 : Option Addr) (c1 : Nat) (l1 : List ByteArray) (r : Bool) (w : World) (hr1 : Kd.C Kd.string w A1 l1.length l1) (hc1 : l1.length ≤ c1) (h : lists_Has.f a0 l1 = some r) :
    Calls Tryd.prog 15 #[.string a0, .slice A1 l1.length c1] w fun e w' => e = .returned (.bool r) ∧ Below w.heap.size w w' := by
  unfold lists_Has.f at h
  split at h
  · rename_i ht
    cases h
    exact Has_calls a0 ht.1 A1 c1 l1 ht.2 w (reads_of_kd hr1)
  · cases h

def joinS (l : List ByteArray) : ByteArray := ofL (Lib.join (l.map toL) [44, 32])
theorem joinTail_length (l : List ByteArray) : (Lib.joinTail [44, 32] (l.map toL)).length ≤ 2 * LSpec.total l := by
  induction l with
  | nil => simp [Lib.joinTail]
  | cons a r ih =>
    simp only [Lib.joinTail, LSpec.total, List.map_cons, List.flatten_cons, List.length_append, List.sum_cons, List.length_cons, List.length_nil, toL_length] at ih ⊢
    omega
theorem join_length (l : List ByteArray) : (Lib.join (l.map toL) [44, 32]).length ≤ 2 * LSpec.total l := by
  cases l with
  | nil => simp [Lib.join_nil]
  | cons a r =>
    have h := joinTail_length r
    rw [List.map_cons, Lib.join_cons, List.length_append, toL_length]
    simp only [LSpec.total, List.map_cons, List.sum_cons] at h ⊢
    omega
theorem spot_none {w : World} {a : Addr} {v : Value} (h : w.cell? a = some v) : a.spot = none := by
  unfold World.cell? at h
  split at h
  · cases hs : a.spot with
    | none => rfl
    | some q => simp [hs] at h
  · simp at h

def lists_Join.f (l0 : List ByteArray) : Option ByteArray := if LSpec.total l0 ≤ 1099511627776 then some (joinS l0) else none
set_option maxHeartbeats 1000000 in
theorem lists_Join.calls (A0 : Option Addr) (c0 : Nat) (l0 : List ByteArray) (r : ByteArray) (w : World) (hr0 : Kd.C Kd.string w A0 l0.length l0) (hc0 : l0.length ≤ c0) (h : lists_Join.f l0 = some r) :
    Calls Tryd.prog 17 #[.slice A0 l0.length c0] w fun e w' => e = .returned (.string r) ∧ Below w.heap.size w w' := by
  unfold lists_Join.f at h
  split at h
  · rename_i ht
    cases h
    have hr := reads_of_kd hr0
    have hj : Calls Tryd.prog 27 #[.slice A0 l0.length c0, .string ⟨#[44, 32]⟩] w fun e w' => e = .returned (.string (joinS l0)) ∧ Below w.heap.size w w' := by
      cases hl : l0 with
      | nil =>
        refine (Tryd.strings_Join_none A0 c0 ⟨#[44, 32]⟩ w).mono ?_
        rintro e w' ⟨rfl, rfl⟩
        exact ⟨rfl, Below.refl _ _⟩
      | cons a r =>
        rw [← hl]
        obtain ⟨ad, rfl, hc⟩ := hr 0 (by rw [hl]; simp)
        have hlt := World.block_lt_of_cell? w _ hc
        rw [blk_add] at hlt
        have hs := spot_none hc
        have hs' : ad.spot = none := by simpa [Addr.add] using hs
        obtain ⟨bk, o, sp⟩ := ad
        obtain rfl : sp = none := hs'
        have hlen := join_length l0
        have hll := LSpec.total_length l0
        refine Tryd.strings_Join bk o c0 l0 ⟨#[44, 32]⟩ w (fun j x hx => ?_) hlt (by omega) hc0 (by
          have : (⟨#[44, 32]⟩ : ByteArray).data.toList = [44, 32] := rfl
          rw [this]
          exact Nat.le_trans hlen (by omega))
        obtain ⟨ad, e, hcj⟩ := hr j (List.getElem?_eq_some_iff.1 hx).1
        cases e
        rw [Addr.add_lit, hx] at hcj
        exact hcj
    go_enter Tryd.func17, Tryd.ntmps17
    go_wp2_with ((with_reducible refine hj.mono ?_); rintro e w' ⟨rfl, hb⟩)
    go_ret
    exact ⟨rfl, hb⟩
  · cases h

end Go.Proofs.YthilbpgkhjchcaaDoor.P
end

section
namespace Go.Proofs.YthilbpgkhjchcaaDoor.P
open Go.RowKit Go.Proofs.YthilbpgkhjchcaaDoorW.PrintWords Go.Proofs.YthilbpgkhjchcaaDoorW.PrintLast Go.Proofs.YthilbpgkhjchcaaDoorW.PrintMore
attribute [local go_sem] max2_int min2_int max_two min_two max_three min_three max_four min_four   -- for this text's walks alone
set_option linter.unusedVariables false
set_option linter.unusedSimpArgs false

/-! ### doorkeeperref12_Few: function 9 -/
def doorkeeperref12_Few.l0 : Nat → List ByteArray → Int → Option (Bool)
  | 0, _, _ => none
  | k + 1, x0, x3 => if x3 < (x0.length : Int) then (if 0 ≤ x3 then (if ((rdOf ByteArray.empty x0 x3).size : Int) > 300 then (some false) else (doorkeeperref12_Few.l0 k x0 (wrap64 (x3 + 1)))) else (none)) else (some (decide ((x0.length : Int) ≤ 20)))
def doorkeeperref12_Few.f (k : Nat) (l0 : List ByteArray) : Option (Bool) := doorkeeperref12_Few.l0 k l0 0
theorem doorkeeperref12_Few.mono_l : ∀ k, (∀ y0 y1, LeO (doorkeeperref12_Few.l0 k y0 y1) (doorkeeperref12_Few.l0 (k + 1) y0 y1))
  | 0 => fun _ _ r h => by simp [doorkeeperref12_Few.l0] at h
  | k + 1 => by
    have ih0 := doorkeeperref12_Few.mono_l k
    · intro y0 y1
      unfold doorkeeperref12_Few.l0
      repeat' first
      | (with_reducible exact ih0 _ _)
      | (with_reducible exact LeO.refl _)
      | (with_reducible exact LeO.none _)
      | (with_reducible refine LeO.ite ?_ ?_)
      | (with_reducible refine LeO.bind ?_ (fun _ => ?_))
      | exact ih0 _ _
      | exact LeO.none _
      | refine LeO.ite ?_ ?_
      | refine LeO.bind ?_ (fun _ => ?_)
theorem doorkeeperref12_Few.mono : ∀ a0 k, LeO (doorkeeperref12_Few.f k a0) (doorkeeperref12_Few.f (k + 1) a0) := by
  intro a0 k
  have ih0 := doorkeeperref12_Few.mono_l k
  unfold doorkeeperref12_Few.f
  repeat' first
      | (with_reducible exact ih0 _ _)
      | (with_reducible exact LeO.refl _)
      | (with_reducible exact LeO.none _)
      | (with_reducible refine LeO.ite ?_ ?_)
      | (with_reducible refine LeO.bind ?_ (fun _ => ?_))
      | exact ih0 _ _
      | exact LeO.none _
      | refine LeO.ite ?_ ?_
      | refine LeO.bind ?_ (fun _ => ?_)
set_option maxHeartbeats 8000000 in
set_option maxRecDepth 100000 in
theorem doorkeeperref12_Few.calls (k : Nat) (A0 : Option Addr) (c0 : Nat) (l0 : List ByteArray) (r : Bool) (w : World) (hr0 : Kd.C Kd.string w A0 l0.length l0) (hc0 : l0.length ≤ c0) (h : doorkeeperref12_Few.f k l0 = some r) :
    Calls Tryd.prog 9 #[.slice A0 l0.length c0] w fun e w' => e = .returned (.bool r) ∧ Drawn0 w w' := by
  have HR0 := Aside0.mk hr0
  have HC0 := Aside0.mk hc0
  clear hr0 hc0
  have H : (doorkeeperref12_Few.l0 k l0 0) = some r := h
  clear h
  have H' := Aside0.mk H
  clear H
  go_enter Tryd.func9, Tryd.ntmps9
  go_wp2
  go_loopg [3] k (fun kq v3 w' => ∃ (x3_1 : Int), v3 = .int .i64 x3_1 ∧ Aside0 (doorkeeperref12_Few.l0 kq l0 x3_1 = some r) ∧ Aside0 (kq ≤ k) ∧ Drawn0 w w')
  case atStart => exact ⟨(0), (by first | rfl | (simp; done) | (simp [*]; done)), H', ⟨Nat.le_refl _⟩, by repeat (first | exact Drawn0.refl _ | apply Drawn0.step)⟩
  case round =>
    clear H'
    obtain ⟨x3_1, rfl, HA, HK1, ⟨m1, rfl⟩⟩ := hrel
    cases gk with
    | zero => exact absurd HA.out (by simp [doorkeeperref12_Few.l0])
    | succ k1 =>
      have H := HA.out
      clear HA
      simp only [doorkeeperref12_Few.l0] at H
      by_cases c2 : x3_1 < (l0.length : Int)
      · rw [if_pos c2] at H
        have c2b0 : decide (x3_1 < (l0.length : Int)) = true := decide_eq_true c2
        clear c2
        by_cases c3 : 0 ≤ x3_1
        · rw [if_pos c3] at H
          have c3b0 : decide (0 ≤ x3_1) = true := decide_eq_true c3
          clear c3
          by_cases c4 : ((rdOf ByteArray.empty l0 x3_1).size : Int) > 300
          · rw [if_pos c4] at H
            have c4b0 : decide (300 < ((rdOf ByteArray.empty l0 x3_1).size : Int)) = true := decide_eq_true c4
            have c4b1 : decide (300 < (rdOf ByteArray.empty l0 x3_1).size) = true := decide_eq_true (by omega)
            clear c4
            obtain rfl := Option.some.inj H
            have p143 : 0 ≤ (x3_1 : Int) := of_decide_eq_true (by first | (with_reducible assumption) | assumption)
            have q143 : x3_1 < (l0.length : Int) := of_decide_eq_true (by first | (with_reducible assumption) | assumption)
            obtain ⟨ad143, e143, hx143_0⟩ := Kd.at_string HR0.out x3_1 p143 q143
            cases e143
            replace p143 := eq_true p143
            replace q143 := eq_true q143
            go_wp2
            go_ret
            exact ⟨by first | rfl | (simp; done) | (simp [*]; done), by repeat (first | exact Drawn0.refl _ | apply Drawn0.step)⟩
          · rw [if_neg c4] at H
            have c4b0 : decide (300 < ((rdOf ByteArray.empty l0 x3_1).size : Int)) = false := decide_eq_false c4
            have c4b1 : decide (300 < (rdOf ByteArray.empty l0 x3_1).size) = false := decide_eq_false (by omega)
            clear c4
            have H' := Aside0.mk H
            clear H
            have p143 : 0 ≤ (x3_1 : Int) := of_decide_eq_true (by first | (with_reducible assumption) | assumption)
            have q143 : x3_1 < (l0.length : Int) := of_decide_eq_true (by first | (with_reducible assumption) | assumption)
            obtain ⟨ad143, e143, hx143_0⟩ := Kd.at_string HR0.out x3_1 p143 q143
            cases e143
            replace p143 := eq_true p143
            replace q143 := eq_true q143
            go_wp2
            go_roundg k1
            case measure => have := HK1.out; omega
            case rel => exact ⟨(wrap64 (x3_1 + 1)), (by first | rfl | (simp; done) | (simp [*]; done)), H', ⟨by have := HK1.out; omega⟩, by repeat (first | exact Drawn0.refl _ | apply Drawn0.step)⟩
        · rw [if_neg c3] at H
          exact absurd H (by simp)
      · rw [if_neg c2] at H
        have c2b0 : decide (x3_1 < (l0.length : Int)) = false := decide_eq_false c2
        clear c2
        obtain rfl := Option.some.inj H
        go_wp2
        go_ret
        exact ⟨by first | rfl | (simp; done) | (simp [*]; done), by repeat (first | exact Drawn0.refl _ | apply Drawn0.step)⟩

end Go.Proofs.YthilbpgkhjchcaaDoor.P
end
