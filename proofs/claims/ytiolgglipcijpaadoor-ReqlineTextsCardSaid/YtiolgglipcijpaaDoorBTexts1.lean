/- DERIVED: THE SHELF's CONTRACTS AT THIS DUMP, IN PLAIN WORDS (tools/lay-plain.mjs out of 'TrydShelf.lean', which tools/lay-shelf.mjs wrote): THE SAME DECLARATIONS UNDER THE SAME NAMES: 'import', 'namespace', 'open', 'def', 'theorem' AND NOTHING ELSE: no command of the shelf's: FOR A HAND-IN. Each laying: the table of numbers ('.._ren') and one theorem, a field a fact of the dump's own or the kernel's comparison; each contract: ONE APPLICATION. reqline.Parse: a line in three parts that pass four rules, or an error. The walks of reqline.Parse at a line in three parts. The walks of reqline.Parse at a line in three parts. The walks of reqline.Parse at a line in three parts. reqline.Kind: the kind of a method. reqline.Methods: the methods with a kind. reqline.Parse in the form in which the print's functions are met: what it gives, and that the machine's call comes to it. Conditions: none beyond those that each theorem states. -/
import Derived.Shelf.Strings.Builder1
import Derived.Shelf.Strings.Builder2
import Derived.Shelf.Strings.OnBuilder
import Derived.Shelf.Strings.Trim
import Derived.Shelf.Small.Utf8
import Derived.Shelf.Small.Strs
import Derived.Shelf.Small.Wraps
import Derived.Shelf.Strings.BuilderF
import Derived.Shelf.Strings.BuilderK
import Derived.Shelf.Strings.Builder2Cap
import Derived.Shelf.Strings.Search1
import Derived.Shelf.Strings.Search2
import Derived.Shelf.Strings.Search3
import Derived.Shelf.Strings.Cut
import Derived.Shelf.Strings.Count
import Derived.Shelf.LaysM
import Derived.Shelf.Strings.Shaped
import Derived.Shelf.Strings.Prefix
import Derived.Shelf.Strings.Split
import Derived.Shelf.Strings.SplitShaped
import Derived.Shelf.Strings.Runes
import Derived.Shelf.Strings.AsciiSet
import Derived.Shelf.Unicode.DecodeSlow
import Derived.Shelf.Strings.BuilderCap
import Derived.Test.YtiolgglipcijpaaDoorProg
import Derived.Test.YtiolgglipcijpaaDoorBTexts0
import Derived.Deep.QuietTactic
import Derived.BigQuiet
import Derived.StillTailTactics
import Derived.Maps.Own
import Derived.Maps.OwnOps
import Derived.Maps.Views
import Derived.StringKeys

section
namespace Go.Proofs
open Go.Shelf
def Tryd.lays169_ren : Go.Shelf.Ren := ⟨fun | 169 => 56 | n => n, fun | 70 => 105 | 9 => 9 | 0 => 0 | 72 => 107 | 37 => 78 | 127 => 143 | 3 => 3 | 5 => 5 | n => n, fun | n => n⟩
theorem Tryd.lays169 : Go.Proofs.Lays.n169 Tryd.prog Tryd.lays169_ren := {
  mixed := by kernel_rfl
  f169 := Tryd.func56.trans (congrArg some (by kernel_rfl))
  t0 := Tryd.underlying0
  a0 := Tryd.isAgg0
  z0 := Tryd.sizeOf0
  v0 := Tryd.zeroValue0
  t3 := Tryd.underlying3
  a3 := Tryd.isAgg3
  z3 := Tryd.sizeOf3
  v3 := Tryd.zeroValue3
  t9 := Tryd.underlying9
  a9 := Tryd.isAgg9
  z9 := Tryd.sizeOf9
  v9 := Tryd.zeroValue9
  t37 := Tryd.underlying78
  a37 := Tryd.isAgg78
  z37 := Tryd.sizeOf78
  v37 := Tryd.zeroValue78
  t70 := Tryd.underlying105
  a70 := Tryd.isAgg105
  z70 := Tryd.sizeOf105
  v70 := Tryd.zeroValue105
  t72 := Tryd.underlying107
  a72 := Tryd.isAgg107
  z72 := Tryd.sizeOf107
  v72 := Tryd.zeroValue107
  t127 := Tryd.underlying143
  a127 := Tryd.isAgg143
  z127 := Tryd.sizeOf143
  v127 := Tryd.zeroValue143 }
theorem Tryd.Builder_Extra_169 : Builder.Extra Tryd.prog Tryd.lays169_ren := {
  sizeBuilder := by kernel_rfl
  liesBuilder := by kernel_rfl
  t5 := Tryd.underlying5
  a5 := Tryd.isAgg5
  z5 := Tryd.sizeOf5
  v5 := Tryd.zeroValue5
  infoByte := by kernel_rfl
  cellsByte := by kernel_rfl
  sizeByte := by kernel_rfl
  neB5 := by decide }
open Go.RowKit in
/-- (*strings.Builder).String: "String returns the accumulated string.": OF A BUILDER THAT HOLDS AT LEAST ONE BYTE. ✋ THE MODEL FREEZES THOSE BYTES IN THE BUFFER (unsafe.String): a later write INTO them ends the model's run without an answer; a later append BEHIND them goes on. The statement's order of evaluation is drawn: one draw. (LAID: no walk: one application.) -/
theorem Tryd.Builder_String (B b : Nat) (l : List UInt8) (w : World) (h : Lib.IsBuilder 107 5 B b (Lib.byteCells l) w) (h0 : l ≠ []) :
    Calls Tryd.prog 56 #[.pointer (some ⟨b, 0, none⟩)] w fun e w' => e = .returned (.string ⟨l.toArray⟩) ∧ Below B w w' := Any.Builder_String Tryd.lays169 Tryd.Builder_Extra_169 B b l w h h0
open Go.RowKit in
/-- (*strings.Builder).String OF A BUILDER THAT HOLDS NO BYTE: the empty string. (Its buffer is nil, or a row of which it has taken nothing yet; where that row has NO capacity the model lays one new block for unsafe.SliceData's 'some address'.) One draw. (LAID: no walk: one application.) -/
theorem Tryd.Builder_String_empty (B b : Nat) (w : World) (h : Lib.IsBuilder 107 5 B b [] w) (hBw : B ≤ w.heap.size) :
    Calls Tryd.prog 56 #[.pointer (some ⟨b, 0, none⟩)] w fun e w' => e = .returned (.string ⟨#[]⟩) ∧ Below B w w' := Any.Builder_String_empty Tryd.lays169 Tryd.Builder_Extra_169 B b w h hBw
open Go.RowKit in
/-- (*strings.Builder).String: "String returns the accumulated string.": WHATEVER THE BUILDER HOLDS. (LAID: no walk: one application.) -/
theorem Tryd.Builder_String_any (B b : Nat) (l : List UInt8) (w : World) (h : Lib.IsBuilder 107 5 B b (Lib.byteCells l) w) (hBw : B ≤ w.heap.size) :
    Calls Tryd.prog 56 #[.pointer (some ⟨b, 0, none⟩)] w fun e w' => e = .returned (.string ⟨l.toArray⟩) ∧ Below B w w' := Any.Builder_String_any Tryd.lays169 Tryd.Builder_Extra_169 B b l w h hBw
def Tryd.lays241_ren : Go.Shelf.Ren := ⟨fun | 241 => 86 | 277 => 108 | n => n, fun | 70 => 105 | 3 => 3 | 0 => 0 | 72 => 107 | 37 => 78 | 5 => 5 | n => n, fun | n => n⟩
theorem Tryd.lays241 : Go.Proofs.Lays.n241 Tryd.prog Tryd.lays241_ren := {
  mixed := by kernel_rfl
  f241 := Tryd.func86.trans (congrArg some (by kernel_rfl))
  f277 := Tryd.func108.trans (congrArg some (by kernel_rfl))
  t0 := Tryd.underlying0
  a0 := Tryd.isAgg0
  z0 := Tryd.sizeOf0
  v0 := Tryd.zeroValue0
  t3 := Tryd.underlying3
  a3 := Tryd.isAgg3
  z3 := Tryd.sizeOf3
  v3 := Tryd.zeroValue3
  t37 := Tryd.underlying78
  a37 := Tryd.isAgg78
  z37 := Tryd.sizeOf78
  v37 := Tryd.zeroValue78
  t70 := Tryd.underlying105
  a70 := Tryd.isAgg105
  z70 := Tryd.sizeOf105
  v70 := Tryd.zeroValue105
  t72 := Tryd.underlying107
  a72 := Tryd.isAgg107
  z72 := Tryd.sizeOf107
  v72 := Tryd.zeroValue107 }
theorem Tryd.Builder_Extra_241 : Builder.Extra Tryd.prog Tryd.lays241_ren := {
  sizeBuilder := by kernel_rfl
  liesBuilder := by kernel_rfl
  t5 := Tryd.underlying5
  a5 := Tryd.isAgg5
  z5 := Tryd.sizeOf5
  v5 := Tryd.zeroValue5
  infoByte := by kernel_rfl
  cellsByte := by kernel_rfl
  sizeByte := by kernel_rfl
  neB5 := by decide }
open Go.RowKit in
/-- (*strings.Builder).grow (no doc but "grow copies the buffer to a new, larger buffer so that there are at least n bytes of capacity beyond len(b.buf)."): AT A BUILDER WITHOUT A BUFFER: a new row of whatever bytes for its buffer, none of them its own yet. Three draws. (LAID: no walk: one application.) -/
theorem Tryd.Builder_grow_fresh (B b n : Nat) (w : World) (hB : B ≤ b) (hbk : w.heap[b]? = some (.cells #[.pointer (some ⟨b, 0, none⟩), .slice none 0 0] 107 (0, 0))) (hBw : B ≤ w.heap.size) (hn : n ≤ 281474976710656) :
    Calls Tryd.prog 86 #[.pointer (some ⟨b, 0, none⟩), .int .i64 n] w fun e w' => e = .returned (.tuple #[]) ∧ (Lib.BuilderAt 107 5 B b (.pointer (some ⟨b, 0, none⟩)) [] w' ∧ Below B w w') := Any.Builder_grow_fresh Tryd.lays241 Tryd.Builder_Extra_241 B b n w hB hbk hBw hn
def Tryd.lays165_ren : Go.Shelf.Ren := ⟨fun | 165 => 54 | 240 => 85 | 241 => 86 | 276 => 107 | 277 => 108 | n => n, fun | 70 => 105 | 3 => 3 | 0 => 0 | 4 => 4 | 9 => 9 | 20 => 20 | 72 => 107 | 37 => 78 | 164 => 144 | 5 => 5 | n => n, fun | n => n⟩
theorem Tryd.lays165 : Go.Proofs.Lays.n165 Tryd.prog Tryd.lays165_ren := {
  mixed := by kernel_rfl
  f165 := Tryd.func54.trans (congrArg some (by kernel_rfl))
  f240 := Tryd.func85.trans (congrArg some (by kernel_rfl))
  f241 := Tryd.func86.trans (congrArg some (by kernel_rfl))
  f276 := Tryd.func107.trans (congrArg some (by kernel_rfl))
  f277 := Tryd.func108.trans (congrArg some (by kernel_rfl))
  t0 := Tryd.underlying0
  a0 := Tryd.isAgg0
  z0 := Tryd.sizeOf0
  v0 := Tryd.zeroValue0
  t3 := Tryd.underlying3
  a3 := Tryd.isAgg3
  z3 := Tryd.sizeOf3
  v3 := Tryd.zeroValue3
  t4 := Tryd.underlying4
  a4 := Tryd.isAgg4
  z4 := Tryd.sizeOf4
  v4 := Tryd.zeroValue4
  t9 := Tryd.underlying9
  a9 := Tryd.isAgg9
  z9 := Tryd.sizeOf9
  v9 := Tryd.zeroValue9
  t20 := Tryd.underlying20
  a20 := Tryd.isAgg20
  z20 := Tryd.sizeOf20
  v20 := Tryd.zeroValue20
  t37 := Tryd.underlying78
  a37 := Tryd.isAgg78
  z37 := Tryd.sizeOf78
  v37 := Tryd.zeroValue78
  t70 := Tryd.underlying105
  a70 := Tryd.isAgg105
  z70 := Tryd.sizeOf105
  v70 := Tryd.zeroValue105
  t72 := Tryd.underlying107
  a72 := Tryd.isAgg107
  z72 := Tryd.sizeOf107
  v72 := Tryd.zeroValue107
  t164 := Tryd.underlying144
  a164 := Tryd.isAgg144
  z164 := Tryd.sizeOf144
  v164 := Tryd.zeroValue144 }
theorem Tryd.Builder_Extra_165 : Builder.Extra Tryd.prog Tryd.lays165_ren := {
  sizeBuilder := by kernel_rfl
  liesBuilder := by kernel_rfl
  t5 := Tryd.underlying5
  a5 := Tryd.isAgg5
  z5 := Tryd.sizeOf5
  v5 := Tryd.zeroValue5
  infoByte := by kernel_rfl
  cellsByte := by kernel_rfl
  sizeByte := by kernel_rfl
  neB5 := by decide }
open Go.RowKit in
/-- (*strings.Builder).Grow AT A BUILDER THAT HAS NOT BEEN WRITTEN ('var b strings.Builder; b.Grow(n)'): "Grow grows b's capacity, if necessary, to guarantee space for another n bytes.": it holds no byte behind it as before it. (LAID: no walk: one application.) -/
theorem Tryd.Builder_Grow_fresh (B b n : Nat) (w : World) (hB : B ≤ b) (hbk : w.heap[b]? = some (.cells #[.pointer none, .slice none 0 0] 107 (0, 0))) (hBw : B ≤ w.heap.size) (hn : n ≤ 281474976710656) :
    Calls Tryd.prog 54 #[.pointer (some ⟨b, 0, none⟩), .int .i64 n] w fun e w' => e = .returned (.tuple #[]) ∧ (Lib.BuilderAt 107 5 B b (.pointer (some ⟨b, 0, none⟩)) [] w' ∧ Below B w w') := Any.Builder_Grow_fresh Tryd.lays165 Tryd.Builder_Extra_165 B b n w hB hbk hBw hn
def Tryd.lays156_ren : Go.Shelf.Ren := ⟨fun | 156 => 31 | 165 => 54 | 166 => 55 | 169 => 56 | 240 => 85 | 241 => 86 | 276 => 107 | 277 => 108 | n => n, fun | 31 => 38 | 9 => 9 | 3 => 3 | 4 => 4 | 0 => 0 | 20 => 20 | 72 => 107 | 76 => 109 | 70 => 105 | 37 => 78 | 75 => 26 | 127 => 143 | 164 => 144 | 5 => 5 | 80 => 111 | n => n, fun | n => n⟩
theorem Tryd.lays156 : Go.Proofs.Lays.n156 Tryd.prog Tryd.lays156_ren := {
  mixed := by kernel_rfl
  f156 := Tryd.func31.trans (congrArg some (by kernel_rfl))
  f165 := Tryd.func54.trans (congrArg some (by kernel_rfl))
  f166 := Tryd.func55.trans (congrArg some (by kernel_rfl))
  f169 := Tryd.func56.trans (congrArg some (by kernel_rfl))
  f240 := Tryd.func85.trans (congrArg some (by kernel_rfl))
  f241 := Tryd.func86.trans (congrArg some (by kernel_rfl))
  f276 := Tryd.func107.trans (congrArg some (by kernel_rfl))
  f277 := Tryd.func108.trans (congrArg some (by kernel_rfl))
  t0 := Tryd.underlying0
  a0 := Tryd.isAgg0
  z0 := Tryd.sizeOf0
  v0 := Tryd.zeroValue0
  t3 := Tryd.underlying3
  a3 := Tryd.isAgg3
  z3 := Tryd.sizeOf3
  v3 := Tryd.zeroValue3
  t4 := Tryd.underlying4
  a4 := Tryd.isAgg4
  z4 := Tryd.sizeOf4
  v4 := Tryd.zeroValue4
  t9 := Tryd.underlying9
  a9 := Tryd.isAgg9
  z9 := Tryd.sizeOf9
  v9 := Tryd.zeroValue9
  t20 := Tryd.underlying20
  a20 := Tryd.isAgg20
  z20 := Tryd.sizeOf20
  v20 := Tryd.zeroValue20
  t31 := Tryd.underlying38
  a31 := Tryd.isAgg38
  z31 := Tryd.sizeOf38
  v31 := Tryd.zeroValue38
  t37 := Tryd.underlying78
  a37 := Tryd.isAgg78
  z37 := Tryd.sizeOf78
  v37 := Tryd.zeroValue78
  t70 := Tryd.underlying105
  a70 := Tryd.isAgg105
  z70 := Tryd.sizeOf105
  v70 := Tryd.zeroValue105
  t72 := Tryd.underlying107
  a72 := Tryd.isAgg107
  z72 := Tryd.sizeOf107
  v72 := Tryd.zeroValue107
  t75 := Tryd.underlying26
  a75 := Tryd.isAgg26
  z75 := Tryd.sizeOf26
  v75 := Tryd.zeroValue26
  t76 := Tryd.underlying109
  a76 := Tryd.isAgg109
  z76 := Tryd.sizeOf109
  v76 := Tryd.zeroValue109
  t127 := Tryd.underlying143
  a127 := Tryd.isAgg143
  z127 := Tryd.sizeOf143
  v127 := Tryd.zeroValue143
  t164 := Tryd.underlying144
  a164 := Tryd.isAgg144
  z164 := Tryd.sizeOf144
  v164 := Tryd.zeroValue144 }
theorem Tryd.Builder_Extra_156 : Builder.Extra Tryd.prog Tryd.lays156_ren := {
  sizeBuilder := by kernel_rfl
  liesBuilder := by kernel_rfl
  t5 := Tryd.underlying5
  a5 := Tryd.isAgg5
  z5 := Tryd.sizeOf5
  v5 := Tryd.zeroValue5
  infoByte := by kernel_rfl
  cellsByte := by kernel_rfl
  sizeByte := by kernel_rfl
  neB5 := by decide }
open Go.RowKit in
/-- No element: the empty string; the world is as it was. (Whatever the slice's address and capacity: a nil slice too.) (LAID: no walk: one application.) -/
theorem Tryd.strings_Join_none (a : Option Addr) (c : Nat) (sep : ByteArray) (w : World) :
    Calls Tryd.prog 31 #[.slice a 0 c, .string sep] w fun e w' => e = .returned (.string ⟨#[]⟩) ∧ w' = w := Any.strings_Join_none Tryd.lays156 Tryd.Builder_Extra_156 a c sep w
open Go.RowKit in
/-- strings.Join: "Join concatenates the elements of its first argument to create a single string. The separator string sep is placed between elements in the resulting string.": HOWEVER MANY ELEMENTS. Below the heap's end the world is as it was. (LAID: no walk: one application.) -/
theorem Tryd.strings_Join (bk o c : Nat) (xs : List ByteArray) (sep : ByteArray) (w : World) (hcells : ∀ (j : Nat) x, xs[j]? = some x → w.cell? ⟨bk, o + j, none⟩ = some (.string x)) (hbk : bk < w.heap.size) (hN : xs.length ≤ 140737488355328) (hcap : xs.length ≤ c) (hlen : (Lib.join (xs.map (·.data.toList)) sep.data.toList).length ≤ 140737488355328) :
    Calls Tryd.prog 31 #[.slice (some ⟨bk, o, none⟩) xs.length c, .string sep] w fun e w' => e = .returned (.string ⟨(Lib.join (xs.map (·.data.toList)) sep.data.toList).toArray⟩) ∧ Below w.heap.size w w' := Any.strings_Join Tryd.lays156 Tryd.Builder_Extra_156 bk o c xs sep w hcells hbk hN hcap hlen
def Tryd.lays231_ren : Go.Shelf.Ren := ⟨fun | 231 => 65 | n => n, fun | 9 => 9 | 5 => 5 | 3 => 3 | 4 => 4 | n => n, fun | n => n⟩
theorem Tryd.lays231 : Go.Proofs.Lays.n231 Tryd.prog Tryd.lays231_ren := {
  mixed := by kernel_rfl
  f231 := Tryd.func65.trans (congrArg some (by kernel_rfl))
  t3 := Tryd.underlying3
  a3 := Tryd.isAgg3
  z3 := Tryd.sizeOf3
  v3 := Tryd.zeroValue3
  t4 := Tryd.underlying4
  a4 := Tryd.isAgg4
  z4 := Tryd.sizeOf4
  v4 := Tryd.zeroValue4
  t5 := Tryd.underlying5
  a5 := Tryd.isAgg5
  z5 := Tryd.sizeOf5
  v5 := Tryd.zeroValue5
  t9 := Tryd.underlying9
  a9 := Tryd.isAgg9
  z9 := Tryd.sizeOf9
  v9 := Tryd.zeroValue9 }
open Go.RowKit in
/-- strings.trimLeftByte (no doc; what TrimLeft and Trim call at a cutset of one ASCII byte): the leading bytes that are c are cut off. The world is as it was. (LAID: no walk: one application.) -/
theorem Tryd.strings_trimLeftByte (s : ByteArray) (c : UInt8) (w : World) :
    Calls Tryd.prog 65 #[.string s, .int .u8 c.toNat] w fun e w' => e = .returned (.string ⟨(Lib.trimLeftB s.data.toList c).toArray⟩) ∧ w' = w := Any.strings_trimLeftByte Tryd.lays231 s c w
def Tryd.lays161_ren : Go.Shelf.Ren := ⟨fun | 161 => 41 | 231 => 65 | 227 => 66 | 233 => 67 | 235 => 68 | 228 => 95 | 197 => 96 | 151 => 97 | 260 => 119 | 152 => 120 | 137 => 64 | 119 => 128 | 224 => 115 | 225 => 114 | 217 => 94 | 266 => 118 | n => n, fun | 9 => 9 | 4 => 4 | 3 => 3 | 5 => 5 | 117 => 124 | 116 => 123 | 0 => 0 | 124 => 127 | 105 => 158 | 21 => 21 | 119 => 202 | 46 => 120 | 139 => 205 | 138 => 204 | n => n, fun | 3 => 5 | 4 => 6 | n => n⟩
theorem Tryd.lays161 : Go.Proofs.Lays.n161 Tryd.prog Tryd.lays161_ren := {
  mixed := by kernel_rfl
  f119 := Tryd.func128.trans (congrArg some (by kernel_rfl))
  f137 := Tryd.func64.trans (congrArg some (by kernel_rfl))
  f151 := Tryd.func97.trans (congrArg some (by kernel_rfl))
  f152 := Tryd.func120.trans (congrArg some (by kernel_rfl))
  f161 := Tryd.func41.trans (congrArg some (by kernel_rfl))
  f197 := Tryd.func96.trans (congrArg some (by kernel_rfl))
  f217 := Tryd.func94.trans (congrArg some (by kernel_rfl))
  f224 := Tryd.func115.trans (congrArg some (by kernel_rfl))
  f225 := Tryd.func114.trans (congrArg some (by kernel_rfl))
  f227 := Tryd.func66.trans (congrArg some (by kernel_rfl))
  f228 := Tryd.func95.trans (congrArg some (by kernel_rfl))
  f231 := Tryd.func65.trans (congrArg some (by kernel_rfl))
  f233 := Tryd.func67.trans (congrArg some (by kernel_rfl))
  f235 := Tryd.func68.trans (congrArg some (by kernel_rfl))
  f260 := Tryd.func119.trans (congrArg some (by kernel_rfl))
  f266 := Tryd.func118.trans (congrArg some (by kernel_rfl))
  t0 := Tryd.underlying0
  a0 := Tryd.isAgg0
  z0 := Tryd.sizeOf0
  v0 := Tryd.zeroValue0
  t3 := Tryd.underlying3
  a3 := Tryd.isAgg3
  z3 := Tryd.sizeOf3
  v3 := Tryd.zeroValue3
  t4 := Tryd.underlying4
  a4 := Tryd.isAgg4
  z4 := Tryd.sizeOf4
  v4 := Tryd.zeroValue4
  t5 := Tryd.underlying5
  a5 := Tryd.isAgg5
  z5 := Tryd.sizeOf5
  v5 := Tryd.zeroValue5
  t9 := Tryd.underlying9
  a9 := Tryd.isAgg9
  z9 := Tryd.sizeOf9
  v9 := Tryd.zeroValue9
  t21 := Tryd.underlying21
  a21 := Tryd.isAgg21
  z21 := Tryd.sizeOf21
  v21 := Tryd.zeroValue21
  t46 := Tryd.underlying120
  a46 := Tryd.isAgg120
  z46 := Tryd.sizeOf120
  v46 := Tryd.zeroValue120
  t105 := Tryd.underlying158
  a105 := Tryd.isAgg158
  z105 := Tryd.sizeOf158
  v105 := Tryd.zeroValue158
  t116 := Tryd.underlying123
  a116 := Tryd.isAgg123
  z116 := Tryd.sizeOf123
  t117 := Tryd.underlying124
  a117 := Tryd.isAgg124
  z117 := Tryd.sizeOf124
  v117 := Tryd.zeroValue124
  t119 := Tryd.underlying202
  a119 := Tryd.isAgg202
  z119 := Tryd.sizeOf202
  t124 := Tryd.underlying127
  a124 := Tryd.isAgg127
  z124 := Tryd.sizeOf127
  v124 := Tryd.zeroValue127
  t138 := Tryd.underlying204
  a138 := Tryd.isAgg204
  z138 := Tryd.sizeOf204
  v138 := Tryd.zeroValue204
  t139 := Tryd.underlying205
  a139 := Tryd.isAgg205
  z139 := Tryd.sizeOf205
  v139 := Tryd.zeroValue205
  g3 := by kernel_rfl
  g4 := by kernel_rfl }
open Go.RowKit in
/-- strings.TrimLeft: "TrimLeft returns a slice of the string s with all leading Unicode code points contained in cutset removed.": AT A cutset OF ONE ASCII BYTE. The world is as it was. (LAID: no walk: one application.) -/
theorem Tryd.strings_TrimLeft_one (s : ByteArray) (c : UInt8) (hc : c.toNat < 128) (w : World) :
    Calls Tryd.prog 41 #[.string s, .string ⟨#[c]⟩] w fun e w' => e = .returned (.string ⟨(Lib.trimLeftB s.data.toList c).toArray⟩) ∧ w' = w := Any.strings_TrimLeft_one Tryd.lays161 s c hc w
def Tryd.lays119_ren : Go.Shelf.Ren := ⟨fun | 119 => 128 | n => n, fun | 21 => 21 | 4 => 4 | n => n, fun | n => n⟩
theorem Tryd.lays119 : Go.Proofs.Lays.n119 Tryd.prog Tryd.lays119_ren := {
  mixed := by kernel_rfl
  f119 := Tryd.func128.trans (congrArg some (by kernel_rfl))
  t4 := Tryd.underlying4
  a4 := Tryd.isAgg4
  z4 := Tryd.sizeOf4
  v4 := Tryd.zeroValue4
  t21 := Tryd.underlying21
  a21 := Tryd.isAgg21
  z21 := Tryd.sizeOf21
  v21 := Tryd.zeroValue21 }
/-- utf8.ValidRune: "ValidRune reports whether r can be legally encoded as UTF-8. Code points that are out of range or a surrogate half are illegal.": IT RETURNS 'Lib.validRune r'; the world is as it was. (LAID: no walk: one application.) -/
theorem Tryd.utf8_ValidRune (r : Int) (w : World) :
    Calls Tryd.prog 128 #[.int .i32 r] w fun e w' => e = .returned (.bool (Lib.validRune r)) ∧ w' = w := Any.utf8_ValidRune Tryd.lays119 r w
def Tryd.lays137_ren : Go.Shelf.Ren := ⟨fun | 137 => 64 | 217 => 94 | 266 => 118 | n => n, fun | 9 => 9 | 5 => 5 | 3 => 3 | n => n, fun | n => n⟩
theorem Tryd.lays137 : Go.Proofs.Lays.n137 Tryd.prog Tryd.lays137_ren := {
  mixed := by kernel_rfl
  f137 := Tryd.func64.trans (congrArg some (by kernel_rfl))
  f217 := Tryd.func94.trans (congrArg some (by kernel_rfl))
  f266 := Tryd.func118.trans (congrArg some (by kernel_rfl))
  t3 := Tryd.underlying3
  a3 := Tryd.isAgg3
  z3 := Tryd.sizeOf3
  v3 := Tryd.zeroValue3
  t5 := Tryd.underlying5
  a5 := Tryd.isAgg5
  z5 := Tryd.sizeOf5
  v5 := Tryd.zeroValue5
  t9 := Tryd.underlying9
  a9 := Tryd.isAgg9
  z9 := Tryd.sizeOf9
  v9 := Tryd.zeroValue9 }
open Go.RowKit in
/-- strings.IndexByte: "IndexByte returns the index of the first instance of c in s, or -1 if c is not present in s.": IT RETURNS 'Lib.indexByte s c'; the world is as it was. (LAID: no walk: one application.) -/
theorem Tryd.strings_IndexByte (s : ByteArray) (c : Int) (w : World) :
    Calls Tryd.prog 64 #[.string s, .int .u8 c] w fun e w' => e = .returned (.int .i64 (Lib.indexByte s.data.toList c.toNat.toUInt8)) ∧ w' = w := Any.strings_IndexByte Tryd.lays137 s c w
def Tryd.lays210_ren : Go.Shelf.Ren := ⟨fun | 210 => 177 | 206 => 179 | n => n, fun | 9 => 9 | 4 => 4 | 3 => 3 | n => n, fun | n => n⟩
theorem Tryd.lays210 : Go.Proofs.Lays.n210 Tryd.prog Tryd.lays210_ren := {
  mixed := by kernel_rfl
  f206 := Tryd.func179.trans (congrArg some (by kernel_rfl))
  f210 := Tryd.func177.trans (congrArg some (by kernel_rfl))
  t3 := Tryd.underlying3
  a3 := Tryd.isAgg3
  z3 := Tryd.sizeOf3
  v3 := Tryd.zeroValue3
  t4 := Tryd.underlying4
  a4 := Tryd.isAgg4
  z4 := Tryd.sizeOf4
  v4 := Tryd.zeroValue4
  t9 := Tryd.underlying9
  a9 := Tryd.isAgg9
  z9 := Tryd.sizeOf9
  v9 := Tryd.zeroValue9 }
open Go.RowKit in
/-- internal/stringslite.CutPrefix (what strings.CutPrefix calls). (LAID: no walk: one application.) -/
theorem Tryd.stringslite_CutPrefix (s p : ByteArray) (w : World) :
    Calls Tryd.prog 177 #[.string s, .string p] w fun e w' => e = .returned (.tuple #[.string ⟨(Lib.trimPrefix s.data.toList p.data.toList).toArray⟩, .bool (Lib.hasPrefix s.data.toList p.data.toList)]) ∧ w' = w := Any.stringslite_CutPrefix Tryd.lays210 s p w
def Tryd.lays103_ren : Go.Shelf.Ren := ⟨fun | 103 => 174 | 210 => 177 | 206 => 179 | n => n, fun | 9 => 9 | 4 => 4 | 24 => 199 | 3 => 3 | n => n, fun | n => n⟩
theorem Tryd.lays103 : Go.Proofs.Lays.n103 Tryd.prog Tryd.lays103_ren := {
  mixed := by kernel_rfl
  f103 := Tryd.func174.trans (congrArg some (by kernel_rfl))
  f206 := Tryd.func179.trans (congrArg some (by kernel_rfl))
  f210 := Tryd.func177.trans (congrArg some (by kernel_rfl))
  t3 := Tryd.underlying3
  a3 := Tryd.isAgg3
  z3 := Tryd.sizeOf3
  v3 := Tryd.zeroValue3
  t4 := Tryd.underlying4
  a4 := Tryd.isAgg4
  z4 := Tryd.sizeOf4
  v4 := Tryd.zeroValue4
  t9 := Tryd.underlying9
  a9 := Tryd.isAgg9
  z9 := Tryd.sizeOf9
  v9 := Tryd.zeroValue9
  t24 := Tryd.underlying199
  a24 := Tryd.isAgg199
  z24 := Tryd.sizeOf199
  v24 := Tryd.zeroValue199 }
open Go.RowKit in
/-- strings.CutPrefix: "CutPrefix returns s without the provided leading prefix string and reports whether it found the prefix. If s doesn't start with prefix, CutPrefix returns s, false. If prefix is the empty string, CutPrefix returns s, true.": IT RETURNS '(Lib.trimPrefix s p, Lib.hasPrefix s p)'; the world is as it was. (LAID: no walk: one application.) -/
theorem Tryd.strings_CutPrefix (s p : ByteArray) (w : World) :
    Calls Tryd.prog 174 #[.string s, .string p] w fun e w' => e = .returned (.tuple #[.string ⟨(Lib.trimPrefix s.data.toList p.data.toList).toArray⟩, .bool (Lib.hasPrefix s.data.toList p.data.toList)]) ∧ w' = w := Any.strings_CutPrefix Tryd.lays103 s p w
open Go.RowKit in
/-- (*strings.Builder).String: "String returns the accumulated string.": OF A BUILDER THAT HOLDS AT LEAST ONE BYTE. ✋ THE MODEL FREEZES THOSE BYTES IN THE BUFFER (unsafe.String): a later write INTO them ends the model's run without an answer; a later append BEHIND them goes on. The statement's order of evaluation is drawn: one draw. THE FORM '_f': IT SAYS BESIDES THAT THE BUILDER IS A BUILDER STILL ('Lib.IsBuilderF', the same bytes): SO IT CAN BE WRITTEN ON: 'b.WriteString(b.String()[:k])'. (LAID: no walk: one application.) -/
theorem Tryd.Builder_String_f (B b : Nat) (l : List UInt8) (w : World) (h : Lib.IsBuilderF 107 5 B b (Lib.byteCells l) w) (h0 : l ≠ []) :
    Calls Tryd.prog 56 #[.pointer (some ⟨b, 0, none⟩)] w fun e w' => e = .returned (.string ⟨l.toArray⟩) ∧ (Lib.IsBuilderF 107 5 B b (Lib.byteCells l) w' ∧ Below B w w') := Any.Builder_String_f Tryd.lays169 Tryd.Builder_Extra_169 B b l w h h0
open Go.RowKit in
/-- (*strings.Builder).String OF A BUILDER THAT HOLDS NO BYTE: the empty string; THE FORM '_f': a builder still. (LAID: no walk: one application.) -/
theorem Tryd.Builder_String_empty_f (B b : Nat) (w : World) (h : Lib.IsBuilderF 107 5 B b [] w) (hBw : B ≤ w.heap.size) :
    Calls Tryd.prog 56 #[.pointer (some ⟨b, 0, none⟩)] w fun e w' => e = .returned (.string ⟨#[]⟩) ∧ (Lib.IsBuilderF 107 5 B b [] w' ∧ Below B w w') := Any.Builder_String_empty_f Tryd.lays169 Tryd.Builder_Extra_169 B b w h hBw
open Go.RowKit in
/-- (*strings.Builder).String: "String returns the accumulated string.": WHATEVER THE BUILDER HOLDS; THE FORM '_f': OF A BUILDER THAT MAY HAVE BEEN READ BEFORE; AND IT IS A BUILDER STILL, holding the same bytes: it can be written on. (LAID: no walk: one application.) -/
theorem Tryd.Builder_String_any_f (B b : Nat) (l : List UInt8) (w : World) (h : Lib.IsBuilderF 107 5 B b (Lib.byteCells l) w) (hBw : B ≤ w.heap.size) :
    Calls Tryd.prog 56 #[.pointer (some ⟨b, 0, none⟩)] w fun e w' => e = .returned (.string ⟨l.toArray⟩) ∧ (Lib.IsBuilderF 107 5 B b (Lib.byteCells l) w' ∧ Below B w w') := Any.Builder_String_any_f Tryd.lays169 Tryd.Builder_Extra_169 B b l w h hBw
open Go.RowKit in
/-- (*strings.Builder).String: "String returns the accumulated string.": OF A BUILDER THAT HOLDS AT LEAST ONE BYTE. ✋ THE MODEL FREEZES THOSE BYTES IN THE BUFFER (unsafe.String): a later write INTO them ends the model's run without an answer; a later append BEHIND them goes on. The statement's order of evaluation is drawn: one draw. THE FORM '_k': OVER 'Lib.IsBuilderF' (a builder that 'String()' may have read), AND WITH THE FRAME THAT REACHES ABOVE THE BUILDER: 'Lib.OthersKept': every block that is not b and is no row of uint8's stands as it stood: the iterator of a range among them. (LAID: no walk: one application.) -/
theorem Tryd.Builder_String_k (B b : Nat) (l : List UInt8) (w : World) (h : Lib.IsBuilderF 107 5 B b (Lib.byteCells l) w) (h0 : l ≠ []) :
    Calls Tryd.prog 56 #[.pointer (some ⟨b, 0, none⟩)] w fun e w' => e = .returned (.string ⟨l.toArray⟩) ∧ (Lib.IsBuilderF 107 5 B b (Lib.byteCells l) w' ∧ Below B w w' ∧ Lib.OthersKept 5 (some b) w w') := Any.Builder_String_k Tryd.lays169 Tryd.Builder_Extra_169 B b l w h h0
open Go.RowKit in
/-- (*strings.Builder).String OF A BUILDER THAT HOLDS NO BYTE: the empty string; THE FORM '_k': OVER 'Lib.IsBuilderF' (a builder that 'String()' may have read), AND WITH THE FRAME THAT REACHES ABOVE THE BUILDER: 'Lib.OthersKept': every block that is not b and is no row of uint8's stands as it stood: the iterator of a range among them. (LAID: no walk: one application.) -/
theorem Tryd.Builder_String_empty_k (B b : Nat) (w : World) (h : Lib.IsBuilderF 107 5 B b [] w) (hBw : B ≤ w.heap.size) :
    Calls Tryd.prog 56 #[.pointer (some ⟨b, 0, none⟩)] w fun e w' => e = .returned (.string ⟨#[]⟩) ∧ (Lib.IsBuilderF 107 5 B b [] w' ∧ Below B w w' ∧ Lib.OthersKept 5 (some b) w w') := Any.Builder_String_empty_k Tryd.lays169 Tryd.Builder_Extra_169 B b w h hBw
open Go.RowKit in
/-- (*strings.Builder).String: "String returns the accumulated string.": WHATEVER THE BUILDER HOLDS; THE FORM '_k': OVER 'Lib.IsBuilderF' (a builder that 'String()' may have read), AND WITH THE FRAME THAT REACHES ABOVE THE BUILDER: 'Lib.OthersKept': every block that is not b and is no row of uint8's stands as it stood: the iterator of a range among them. (LAID: no walk: one application.) -/
theorem Tryd.Builder_String_any_k (B b : Nat) (l : List UInt8) (w : World) (h : Lib.IsBuilderF 107 5 B b (Lib.byteCells l) w) (hBw : B ≤ w.heap.size) :
    Calls Tryd.prog 56 #[.pointer (some ⟨b, 0, none⟩)] w fun e w' => e = .returned (.string ⟨l.toArray⟩) ∧ (Lib.IsBuilderF 107 5 B b (Lib.byteCells l) w' ∧ Below B w w' ∧ Lib.OthersKept 5 (some b) w w') := Any.Builder_String_any_k Tryd.lays169 Tryd.Builder_Extra_169 B b l w h hBw
open Go.RowKit in
/-- (*strings.Builder).grow (no doc but "grow copies the buffer to a new, larger buffer so that there are at least n bytes of capacity beyond len(b.buf)."): AT A BUILDER WITHOUT A BUFFER: a new row of whatever bytes for its buffer, none of them its own yet. Three draws. (LAID: no walk: one application.) -/
theorem Tryd.Builder_grow_fresh_cap (B b n : Nat) (w : World) (hB : B ≤ b) (hbk : w.heap[b]? = some (.cells #[.pointer (some ⟨b, 0, none⟩), .slice none 0 0] 107 (0, 0))) (hBw : B ≤ w.heap.size) (hn : n ≤ 281474976710656) :
    Calls Tryd.prog 86 #[.pointer (some ⟨b, 0, none⟩), .int .i64 n] w fun e w' => e = .returned (.tuple #[]) ∧ (Lib.BuilderAt 107 5 B b (.pointer (some ⟨b, 0, none⟩)) [] w' ∧ Below B w w') ∧ ∃ p cap, w'.cell? ⟨b, 1, none⟩ = some (.slice p 0 cap) ∧ n ≤ cap := Any.Builder_grow_fresh_cap Tryd.lays241 Tryd.Builder_Extra_241 B b n w hB hbk hBw hn
open Go.RowKit in
/-- (*strings.Builder).Grow AT A BUILDER THAT HAS NOT BEEN WRITTEN ('var b strings.Builder; b.Grow(n)'): "Grow grows b's capacity, if necessary, to guarantee space for another n bytes.": it holds no byte behind it as before it. (LAID: no walk: one application.) -/
theorem Tryd.Builder_Grow_fresh_cap (B b n : Nat) (w : World) (hB : B ≤ b) (hbk : w.heap[b]? = some (.cells #[.pointer none, .slice none 0 0] 107 (0, 0))) (hBw : B ≤ w.heap.size) (hn : n ≤ 281474976710656) :
    Calls Tryd.prog 54 #[.pointer (some ⟨b, 0, none⟩), .int .i64 n] w fun e w' => e = .returned (.tuple #[]) ∧ (Lib.BuilderAt 107 5 B b (.pointer (some ⟨b, 0, none⟩)) [] w' ∧ Below B w w') ∧ ∃ p cap, w'.cell? ⟨b, 1, none⟩ = some (.slice p 0 cap) ∧ n ≤ cap := Any.Builder_Grow_fresh_cap Tryd.lays165 Tryd.Builder_Extra_165 B b n w hB hbk hBw hn
def Tryd.lays217_ren : Go.Shelf.Ren := ⟨fun | 217 => 94 | 266 => 118 | n => n, fun | 9 => 9 | 5 => 5 | 3 => 3 | n => n, fun | n => n⟩
theorem Tryd.lays217 : Go.Proofs.Lays.n217 Tryd.prog Tryd.lays217_ren := {
  mixed := by kernel_rfl
  f217 := Tryd.func94.trans (congrArg some (by kernel_rfl))
  f266 := Tryd.func118.trans (congrArg some (by kernel_rfl))
  t3 := Tryd.underlying3
  a3 := Tryd.isAgg3
  z3 := Tryd.sizeOf3
  v3 := Tryd.zeroValue3
  t5 := Tryd.underlying5
  a5 := Tryd.isAgg5
  z5 := Tryd.sizeOf5
  v5 := Tryd.zeroValue5
  t9 := Tryd.underlying9
  a9 := Tryd.isAgg9
  z9 := Tryd.sizeOf9
  v9 := Tryd.zeroValue9 }
open Go.RowKit Go.Lib in
/-- internal/stringslite.IndexByte (what strings.IndexByte calls): IT RETURNS 'Lib.indexByte s c'; the world is as it was. (LAID: no walk: one application.) -/
theorem Tryd.stringslite_IndexByte (s : ByteArray) (c : Int) (w : World) :
    Calls Tryd.prog 94 #[.string s, .int .u8 c] w fun e w' => e = .returned (.int .i64 (Lib.indexByte s.data.toList c.toNat.toUInt8)) ∧ w' = w := Any.stringslite_IndexByte Tryd.lays217 s c w
def Tryd.lays224_ren : Go.Shelf.Ren := ⟨fun | 224 => 115 | n => n, fun | 3 => 3 | n => n, fun | n => n⟩
theorem Tryd.lays224 : Go.Proofs.Lays.n224 Tryd.prog Tryd.lays224_ren := {
  mixed := by kernel_rfl
  f224 := Tryd.func115.trans (congrArg some (by kernel_rfl))
  t3 := Tryd.underlying3
  a3 := Tryd.isAgg3
  z3 := Tryd.sizeOf3
  v3 := Tryd.zeroValue3 }
open Go.RowKit Go.Lib in
/-- internal/bytealg.Cutover: "Cutover reports the number of failures of IndexByte we should tolerate before switching over to Index. n is the number of bytes processed so far.": on amd64: (n + 16) / 8. (LAID: no walk: one application.) -/
theorem Tryd.bytealg_Cutover (n : Int) (h0 : 0 ≤ n) (h1 : n < 4611686018427387904) (w : World) :
    Calls Tryd.prog 115 #[.int .i64 n] w fun e w' => e = .returned (.int .i64 ((n + 16) / 8)) ∧ w' = w := Any.bytealg_Cutover Tryd.lays224 n h0 h1 w
def Tryd.lays314_ren : Go.Shelf.Ren := ⟨fun | 314 => 127 | n => n, fun | 9 => 9 | 51 => 118 | 3 => 3 | 4 => 4 | 5 => 5 | 46 => 120 | n => n, fun | n => n⟩
theorem Tryd.lays314 : Go.Proofs.Lays.n314 Tryd.prog Tryd.lays314_ren := {
  mixed := by kernel_rfl
  f314 := Tryd.func127.trans (congrArg some (by kernel_rfl))
  t3 := Tryd.underlying3
  a3 := Tryd.isAgg3
  z3 := Tryd.sizeOf3
  v3 := Tryd.zeroValue3
  t4 := Tryd.underlying4
  a4 := Tryd.isAgg4
  z4 := Tryd.sizeOf4
  v4 := Tryd.zeroValue4
  t5 := Tryd.underlying5
  a5 := Tryd.isAgg5
  z5 := Tryd.sizeOf5
  v5 := Tryd.zeroValue5
  t9 := Tryd.underlying9
  a9 := Tryd.isAgg9
  z9 := Tryd.sizeOf9
  v9 := Tryd.zeroValue9
  t46 := Tryd.underlying120
  a46 := Tryd.isAgg120
  z46 := Tryd.sizeOf120
  v46 := Tryd.zeroValue120
  t51 := Tryd.underlying118
  a51 := Tryd.isAgg118
  z51 := Tryd.sizeOf118
  v51 := Tryd.zeroValue118 }
open Go.RowKit Go.Lib in
/-- hashStr: "returns the hash and the appropriate multiplicative factor for use in Rabin-Karp algorithm": THE HASH OF ALL OF sep, AND 16777619 ^ len(sep), both in uint32. (LAID: no walk: one application.) -/
theorem Tryd.bytealg_hashStr (sep : ByteArray) (hs : sep.size < 4294967281) (w : World) :
    Calls Tryd.prog 127 #[.string sep] w fun e w' => e = .returned (.tuple #[.int .u32 (RK.H sep.data.toList % 4294967296), .int .u32 (16777619 ^ sep.size % 4294967296)]) ∧ w' = w := Any.bytealg_hashStr Tryd.lays314 sep hs w
def Tryd.lays267_ren : Go.Shelf.Ren := ⟨fun | 267 => 116 | 314 => 127 | n => n, fun | 9 => 9 | 3 => 3 | 146 => 200 | 51 => 118 | 4 => 4 | 5 => 5 | 46 => 120 | n => n, fun | n => n⟩
theorem Tryd.lays267 : Go.Proofs.Lays.n267 Tryd.prog Tryd.lays267_ren := {
  mixed := by kernel_rfl
  f267 := Tryd.func116.trans (congrArg some (by kernel_rfl))
  f314 := Tryd.func127.trans (congrArg some (by kernel_rfl))
  t3 := Tryd.underlying3
  a3 := Tryd.isAgg3
  z3 := Tryd.sizeOf3
  v3 := Tryd.zeroValue3
  t4 := Tryd.underlying4
  a4 := Tryd.isAgg4
  z4 := Tryd.sizeOf4
  v4 := Tryd.zeroValue4
  t5 := Tryd.underlying5
  a5 := Tryd.isAgg5
  z5 := Tryd.sizeOf5
  v5 := Tryd.zeroValue5
  t9 := Tryd.underlying9
  a9 := Tryd.isAgg9
  z9 := Tryd.sizeOf9
  v9 := Tryd.zeroValue9
  t46 := Tryd.underlying120
  a46 := Tryd.isAgg120
  z46 := Tryd.sizeOf120
  v46 := Tryd.zeroValue120
  t51 := Tryd.underlying118
  a51 := Tryd.isAgg118
  z51 := Tryd.sizeOf118
  v51 := Tryd.zeroValue118
  t146 := Tryd.underlying200
  a146 := Tryd.isAgg200
  z146 := Tryd.sizeOf200
  v146 := Tryd.zeroValue200 }
open Go.RowKit Go.Lib in
theorem Tryd.bytealg_IndexRabinKarp (s sep : ByteArray) (h1 : 1 ≤ sep.size) (h2 : sep.size ≤ s.size) (hs : s.size < 4294967281) (w : World) :
    Calls Tryd.prog 116 #[.string s, .string sep] w fun e w' => e = .returned (.int .i64 (Lib.index s.data.toList sep.data.toList)) ∧ w' = w := Any.bytealg_IndexRabinKarp Tryd.lays267 s sep h1 h2 hs w
def Tryd.lays219_ren : Go.Shelf.Ren := ⟨fun | 219 => 92 | 217 => 94 | 225 => 114 | 224 => 115 | 267 => 116 | 266 => 118 | 314 => 127 | n => n, fun | 9 => 9 | 3 => 3 | 4 => 4 | 5 => 5 | 46 => 120 | 146 => 200 | 51 => 118 | n => n, fun | 1 => 3 | n => n⟩
theorem Tryd.lays219 : Go.Proofs.Lays.n219 Tryd.prog Tryd.lays219_ren := {
  mixed := by kernel_rfl
  f217 := Tryd.func94.trans (congrArg some (by kernel_rfl))
  f219 := Tryd.func92.trans (congrArg some (by kernel_rfl))
  f224 := Tryd.func115.trans (congrArg some (by kernel_rfl))
  f225 := Tryd.func114.trans (congrArg some (by kernel_rfl))
  f266 := Tryd.func118.trans (congrArg some (by kernel_rfl))
  f267 := Tryd.func116.trans (congrArg some (by kernel_rfl))
  f314 := Tryd.func127.trans (congrArg some (by kernel_rfl))
  t3 := Tryd.underlying3
  a3 := Tryd.isAgg3
  z3 := Tryd.sizeOf3
  v3 := Tryd.zeroValue3
  t4 := Tryd.underlying4
  a4 := Tryd.isAgg4
  z4 := Tryd.sizeOf4
  v4 := Tryd.zeroValue4
  t5 := Tryd.underlying5
  a5 := Tryd.isAgg5
  z5 := Tryd.sizeOf5
  v5 := Tryd.zeroValue5
  t9 := Tryd.underlying9
  a9 := Tryd.isAgg9
  z9 := Tryd.sizeOf9
  v9 := Tryd.zeroValue9
  t46 := Tryd.underlying120
  a46 := Tryd.isAgg120
  z46 := Tryd.sizeOf120
  v46 := Tryd.zeroValue120
  t51 := Tryd.underlying118
  a51 := Tryd.isAgg118
  z51 := Tryd.sizeOf118
  v51 := Tryd.zeroValue118
  t146 := Tryd.underlying200
  a146 := Tryd.isAgg200
  z146 := Tryd.sizeOf200
  v146 := Tryd.zeroValue200
  g1 := by kernel_rfl }
open Go.RowKit Go.Lib in
/-- internal/stringslite.Index (what strings.Index calls) AT A substr OF ONE BYTE c: IT RETURNS 'Lib.indexByte s c'; the world is as it was. (LAID: no walk: one application.) -/
theorem Tryd.stringslite_Index_one (s : ByteArray) (c : UInt8) (w : World) :
    Calls Tryd.prog 92 #[.string s, .string ⟨#[c]⟩] w fun e w' => e = .returned (.int .i64 (Lib.indexByte s.data.toList c)) ∧ w' = w := Any.stringslite_Index_one Tryd.lays219 s c w
open Go.RowKit Go.Lib in
/-- internal/stringslite.Index (what strings.Index calls) AT A substr OF WHATEVER LENGTH: IT RETURNS 'Lib.index s substr'; the world is as it was. 'm': what internal/bytealg.MaxLen holds: whatever. (LAID: no walk: one application.) -/
theorem Tryd.stringslite_Index (s sub : ByteArray) (m : Int) (w : World) (hs : s.size < 4294967281) (hm : w.cell? ⟨3, 0, none⟩ = some (.int .i64 m)) :
    Calls Tryd.prog 92 #[.string s, .string sub] w fun e w' => e = .returned (.int .i64 (Lib.index s.data.toList sub.data.toList)) ∧ w' = w := Any.stringslite_Index Tryd.lays219 s sub m w hs hm
def Tryd.lays143_ren : Go.Shelf.Ren := ⟨fun | 143 => 84 | 219 => 92 | 217 => 94 | 225 => 114 | 224 => 115 | 267 => 116 | 266 => 118 | 314 => 127 | n => n, fun | 9 => 9 | 3 => 3 | 4 => 4 | 5 => 5 | 46 => 120 | 146 => 200 | 51 => 118 | n => n, fun | 1 => 3 | n => n⟩
theorem Tryd.lays143 : Go.Proofs.Lays.n143 Tryd.prog Tryd.lays143_ren := {
  mixed := by kernel_rfl
  f143 := Tryd.func84.trans (congrArg some (by kernel_rfl))
  f217 := Tryd.func94.trans (congrArg some (by kernel_rfl))
  f219 := Tryd.func92.trans (congrArg some (by kernel_rfl))
  f224 := Tryd.func115.trans (congrArg some (by kernel_rfl))
  f225 := Tryd.func114.trans (congrArg some (by kernel_rfl))
  f266 := Tryd.func118.trans (congrArg some (by kernel_rfl))
  f267 := Tryd.func116.trans (congrArg some (by kernel_rfl))
  f314 := Tryd.func127.trans (congrArg some (by kernel_rfl))
  t3 := Tryd.underlying3
  a3 := Tryd.isAgg3
  z3 := Tryd.sizeOf3
  v3 := Tryd.zeroValue3
  t4 := Tryd.underlying4
  a4 := Tryd.isAgg4
  z4 := Tryd.sizeOf4
  v4 := Tryd.zeroValue4
  t5 := Tryd.underlying5
  a5 := Tryd.isAgg5
  z5 := Tryd.sizeOf5
  v5 := Tryd.zeroValue5
  t9 := Tryd.underlying9
  a9 := Tryd.isAgg9
  z9 := Tryd.sizeOf9
  v9 := Tryd.zeroValue9
  t46 := Tryd.underlying120
  a46 := Tryd.isAgg120
  z46 := Tryd.sizeOf120
  v46 := Tryd.zeroValue120
  t51 := Tryd.underlying118
  a51 := Tryd.isAgg118
  z51 := Tryd.sizeOf118
  v51 := Tryd.zeroValue118
  t146 := Tryd.underlying200
  a146 := Tryd.isAgg200
  z146 := Tryd.sizeOf200
  v146 := Tryd.zeroValue200
  g1 := by kernel_rfl }
open Go.RowKit Go.Lib in
/-- strings.Index: "Index returns the index of the first instance of substr in s, or -1 if substr is not present in s.": AT A substr OF ONE BYTE c: IT RETURNS 'Lib.indexByte s c'; the world is as it was. (LAID: no walk: one application.) -/
theorem Tryd.strings_Index_one (s : ByteArray) (c : UInt8) (w : World) :
    Calls Tryd.prog 84 #[.string s, .string ⟨#[c]⟩] w fun e w' => e = .returned (.int .i64 (Lib.indexByte s.data.toList c)) ∧ w' = w := Any.strings_Index_one Tryd.lays143 s c w
open Go.RowKit Go.Lib in
/-- strings.Index: "Index returns the index of the first instance of substr in s, or -1 if substr is not present in s.": IT RETURNS 'Lib.index s substr'; the world is as it was. (LAID: no walk: one application.) -/
theorem Tryd.strings_Index (s sub : ByteArray) (m : Int) (w : World) (hs : s.size < 4294967281) (hm : w.cell? ⟨3, 0, none⟩ = some (.int .i64 m)) :
    Calls Tryd.prog 84 #[.string s, .string sub] w fun e w' => e = .returned (.int .i64 (Lib.index s.data.toList sub.data.toList)) ∧ w' = w := Any.strings_Index Tryd.lays143 s sub m w hs hm
def Tryd.lays220_ren : Go.Shelf.Ren := ⟨fun | 220 => 61 | 219 => 92 | 217 => 94 | 225 => 114 | 224 => 115 | 267 => 116 | 266 => 118 | 314 => 127 | n => n, fun | 9 => 9 | 4 => 4 | 3 => 3 | 5 => 5 | 46 => 120 | 146 => 200 | 51 => 118 | n => n, fun | 1 => 3 | n => n⟩
theorem Tryd.lays220 : Go.Proofs.Lays.n220 Tryd.prog Tryd.lays220_ren := {
  mixed := by kernel_rfl
  f217 := Tryd.func94.trans (congrArg some (by kernel_rfl))
  f219 := Tryd.func92.trans (congrArg some (by kernel_rfl))
  f220 := Tryd.func61.trans (congrArg some (by kernel_rfl))
  f224 := Tryd.func115.trans (congrArg some (by kernel_rfl))
  f225 := Tryd.func114.trans (congrArg some (by kernel_rfl))
  f266 := Tryd.func118.trans (congrArg some (by kernel_rfl))
  f267 := Tryd.func116.trans (congrArg some (by kernel_rfl))
  f314 := Tryd.func127.trans (congrArg some (by kernel_rfl))
  t3 := Tryd.underlying3
  a3 := Tryd.isAgg3
  z3 := Tryd.sizeOf3
  v3 := Tryd.zeroValue3
  t4 := Tryd.underlying4
  a4 := Tryd.isAgg4
  z4 := Tryd.sizeOf4
  v4 := Tryd.zeroValue4
  t5 := Tryd.underlying5
  a5 := Tryd.isAgg5
  z5 := Tryd.sizeOf5
  v5 := Tryd.zeroValue5
  t9 := Tryd.underlying9
  a9 := Tryd.isAgg9
  z9 := Tryd.sizeOf9
  v9 := Tryd.zeroValue9
  t46 := Tryd.underlying120
  a46 := Tryd.isAgg120
  z46 := Tryd.sizeOf120
  v46 := Tryd.zeroValue120
  t51 := Tryd.underlying118
  a51 := Tryd.isAgg118
  z51 := Tryd.sizeOf118
  v51 := Tryd.zeroValue118
  t146 := Tryd.underlying200
  a146 := Tryd.isAgg200
  z146 := Tryd.sizeOf200
  v146 := Tryd.zeroValue200
  g1 := by kernel_rfl }
open Go.RowKit Go.Lib in
/-- internal/stringslite.Cut (what strings.Cut calls): IT RETURNS 'Lib.cut s sep'; the world is as it was but for the count of draws. (LAID: no walk: one application.) -/
theorem Tryd.stringslite_Cut (s sep : ByteArray) (m : Int) (w : World) (hs : s.size < 4294967281) (hm : w.cell? ⟨3, 0, none⟩ = some (.int .i64 m)) :
    Calls Tryd.prog 61 #[.string s, .string sep] w fun e w' => e = .returned (.tuple #[.string ⟨(Lib.cut s.data.toList sep.data.toList).1.toArray⟩, .string ⟨(Lib.cut s.data.toList sep.data.toList).2.1.toArray⟩, .bool (Lib.cut s.data.toList sep.data.toList).2.2]) ∧ ∃ n, w' = w.drewN n := Any.stringslite_Cut Tryd.lays220 s sep m w hs hm
def Tryd.lays145_ren : Go.Shelf.Ren := ⟨fun | 145 => 38 | 220 => 61 | 219 => 92 | 217 => 94 | 225 => 114 | 224 => 115 | 267 => 116 | 266 => 118 | 314 => 127 | n => n, fun | 9 => 9 | 4 => 4 | 59 => 44 | 3 => 3 | 5 => 5 | 46 => 120 | 146 => 200 | 51 => 118 | n => n, fun | 1 => 3 | n => n⟩
theorem Tryd.lays145 : Go.Proofs.Lays.n145 Tryd.prog Tryd.lays145_ren := {
  mixed := by kernel_rfl
  f145 := Tryd.func38.trans (congrArg some (by kernel_rfl))
  f217 := Tryd.func94.trans (congrArg some (by kernel_rfl))
  f219 := Tryd.func92.trans (congrArg some (by kernel_rfl))
  f220 := Tryd.func61.trans (congrArg some (by kernel_rfl))
  f224 := Tryd.func115.trans (congrArg some (by kernel_rfl))
  f225 := Tryd.func114.trans (congrArg some (by kernel_rfl))
  f266 := Tryd.func118.trans (congrArg some (by kernel_rfl))
  f267 := Tryd.func116.trans (congrArg some (by kernel_rfl))
  f314 := Tryd.func127.trans (congrArg some (by kernel_rfl))
  t3 := Tryd.underlying3
  a3 := Tryd.isAgg3
  z3 := Tryd.sizeOf3
  v3 := Tryd.zeroValue3
  t4 := Tryd.underlying4
  a4 := Tryd.isAgg4
  z4 := Tryd.sizeOf4
  v4 := Tryd.zeroValue4
  t5 := Tryd.underlying5
  a5 := Tryd.isAgg5
  z5 := Tryd.sizeOf5
  v5 := Tryd.zeroValue5
  t9 := Tryd.underlying9
  a9 := Tryd.isAgg9
  z9 := Tryd.sizeOf9
  v9 := Tryd.zeroValue9
  t46 := Tryd.underlying120
  a46 := Tryd.isAgg120
  z46 := Tryd.sizeOf120
  v46 := Tryd.zeroValue120
  t51 := Tryd.underlying118
  a51 := Tryd.isAgg118
  z51 := Tryd.sizeOf118
  v51 := Tryd.zeroValue118
  t59 := Tryd.underlying44
  a59 := Tryd.isAgg44
  z59 := Tryd.sizeOf44
  v59 := Tryd.zeroValue44
  t146 := Tryd.underlying200
  a146 := Tryd.isAgg200
  z146 := Tryd.sizeOf200
  v146 := Tryd.zeroValue200
  g1 := by kernel_rfl }
open Go.RowKit Go.Lib in
/-- strings.Cut: "Cut slices s around the first instance of sep, returning the text before and after sep. The found result reports whether sep appears in s. If sep does not appear in s, cut returns s, "", false.": IT RETURNS 'Lib.cut s sep'; the world is as it was but for the count of draws. (LAID: no walk: one application.) -/
theorem Tryd.strings_Cut (s sep : ByteArray) (m : Int) (w : World) (hs : s.size < 4294967281) (hm : w.cell? ⟨3, 0, none⟩ = some (.int .i64 m)) :
    Calls Tryd.prog 38 #[.string s, .string sep] w fun e w' => e = .returned (.tuple #[.string ⟨(Lib.cut s.data.toList sep.data.toList).1.toArray⟩, .string ⟨(Lib.cut s.data.toList sep.data.toList).2.1.toArray⟩, .bool (Lib.cut s.data.toList sep.data.toList).2.2]) ∧ ∃ n, w' = w.drewN n := Any.strings_Cut Tryd.lays145 s sep m w hs hm
def Tryd.lays138_ren : Go.Shelf.Ren := ⟨fun | 138 => 83 | 195 => 105 | 218 => 106 | 143 => 84 | 219 => 92 | 217 => 94 | 225 => 114 | 224 => 115 | 267 => 116 | 266 => 118 | 314 => 127 | n => n, fun | 9 => 9 | 3 => 3 | 4 => 4 | 5 => 5 | 0 => 0 | 46 => 120 | 146 => 200 | 51 => 118 | n => n, fun | 1 => 3 | n => n⟩
theorem Tryd.lays138 : Go.Proofs.Lays.n138 Tryd.prog Tryd.lays138_ren := {
  mixed := by kernel_rfl
  f138 := Tryd.func83.trans (congrArg some (by kernel_rfl))
  f143 := Tryd.func84.trans (congrArg some (by kernel_rfl))
  f195 := Tryd.func105.trans (congrArg some (by kernel_rfl))
  f217 := Tryd.func94.trans (congrArg some (by kernel_rfl))
  f218 := Tryd.func106.trans (congrArg some (by kernel_rfl))
  f219 := Tryd.func92.trans (congrArg some (by kernel_rfl))
  f224 := Tryd.func115.trans (congrArg some (by kernel_rfl))
  f225 := Tryd.func114.trans (congrArg some (by kernel_rfl))
  f266 := Tryd.func118.trans (congrArg some (by kernel_rfl))
  f267 := Tryd.func116.trans (congrArg some (by kernel_rfl))
  f314 := Tryd.func127.trans (congrArg some (by kernel_rfl))
  t0 := Tryd.underlying0
  a0 := Tryd.isAgg0
  z0 := Tryd.sizeOf0
  v0 := Tryd.zeroValue0
  t3 := Tryd.underlying3
  a3 := Tryd.isAgg3
  z3 := Tryd.sizeOf3
  v3 := Tryd.zeroValue3
  t4 := Tryd.underlying4
  a4 := Tryd.isAgg4
  z4 := Tryd.sizeOf4
  v4 := Tryd.zeroValue4
  t5 := Tryd.underlying5
  a5 := Tryd.isAgg5
  z5 := Tryd.sizeOf5
  v5 := Tryd.zeroValue5
  t9 := Tryd.underlying9
  a9 := Tryd.isAgg9
  z9 := Tryd.sizeOf9
  v9 := Tryd.zeroValue9
  t46 := Tryd.underlying120
  a46 := Tryd.isAgg120
  z46 := Tryd.sizeOf120
  v46 := Tryd.zeroValue120
  t51 := Tryd.underlying118
  a51 := Tryd.isAgg118
  z51 := Tryd.sizeOf118
  v51 := Tryd.zeroValue118
  t146 := Tryd.underlying200
  a146 := Tryd.isAgg200
  z146 := Tryd.sizeOf200
  v146 := Tryd.zeroValue200
  g1 := by kernel_rfl }
open Go.RowKit Go.Lib in
/-- strings.Count AT A substr OF ONE BYTE ('hp'): "Count counts the number of non-overlapping instances of substr in s.": IT RETURNS 'Lib.countByte s (that byte)'; the world is as it was. ✋ NO CONTRACT HERE YET at an empty substr (utf8.RuneCountInString) or at a longer one (a loop over strings.Index). (LAID: no walk: one application.) -/
theorem Tryd.strings_Count_one (s : ByteArray) (c : UInt8) (w : World) :
    Calls Tryd.prog 83 #[.string s, .string ⟨#[c]⟩] w fun e w' => e = .returned (.int .i64 (Lib.countByte s.data.toList c)) ∧ w' = w := Any.strings_Count_one Tryd.lays138 s c w
open Go.RowKit Go.Lib in
/-- strings.Count AT A substr OF TWO BYTES OR MORE: "Count counts the number of non-overlapping instances of substr in s.": IT RETURNS 'Lib.count s substr'; the world is as it was. (LAID: no walk: one application.) -/
theorem Tryd.strings_Count (s sub : ByteArray) (m : Int) (w : World) (hs : s.size < 4294967281) (hm : w.cell? ⟨3, 0, none⟩ = some (.int .i64 m)) (h2 : 2 ≤ sub.size) :
    Calls Tryd.prog 83 #[.string s, .string sub] w fun e w' => e = .returned (.int .i64 (Lib.countB s sub)) ∧ w' = w := Any.strings_Count Tryd.lays138 s sub m w hs hm h2
def Tryd.laysM219_ren : Go.Shelf.Ren := ⟨fun | 219 => 92 | 217 => 94 | 225 => 114 | 224 => 115 | 267 => 116 | 266 => 118 | 314 => 127 | n => n, fun | 9 => 9 | 3 => 3 | 4 => 4 | 5 => 5 | 46 => 120 | 146 => 200 | 51 => 118 | n => n, fun | 1 => 3 | n => n⟩
theorem Tryd.laysM219 : Go.Proofs.LaysM.n219 Tryd.prog Tryd.laysM219_ren := {
  mixed := by kernel_rfl
  f217 := Tryd.func94.trans (congrArg some (by kernel_rfl))
  f219 := Tryd.func92.trans (congrArg some (by kernel_rfl))
  f224 := Tryd.func115.trans (congrArg some (by kernel_rfl))
  f225 := Tryd.func114.trans (congrArg some (by kernel_rfl))
  f266 := Tryd.func118.trans (congrArg some (by kernel_rfl))
  f267 := Tryd.func116.trans (congrArg some (by kernel_rfl))
  f314 := Tryd.func127.trans (congrArg some (by kernel_rfl))
  t3 := Tryd.underlying3
  a3 := Tryd.isAgg3
  z3 := Tryd.sizeOf3
  v3 := Tryd.zeroValue3
  t4 := Tryd.underlying4
  a4 := Tryd.isAgg4
  z4 := Tryd.sizeOf4
  v4 := Tryd.zeroValue4
  t5 := Tryd.underlying5
  a5 := Tryd.isAgg5
  z5 := Tryd.sizeOf5
  v5 := Tryd.zeroValue5
  t9 := Tryd.underlying9
  a9 := Tryd.isAgg9
  z9 := Tryd.sizeOf9
  v9 := Tryd.zeroValue9
  t46 := Tryd.underlying120
  a46 := Tryd.isAgg120
  z46 := Tryd.sizeOf120
  v46 := Tryd.zeroValue120
  t51 := Tryd.underlying118
  a51 := Tryd.isAgg118
  z51 := Tryd.sizeOf118
  v51 := Tryd.zeroValue118
  t146 := Tryd.underlying200
  a146 := Tryd.isAgg200
  z146 := Tryd.sizeOf200
  v146 := Tryd.zeroValue200
  g1 := by kernel_rfl
  i3 := by kernel_rfl
  i4 := by kernel_rfl
  i5 := by kernel_rfl
  i9 := by kernel_rfl
  i46 := by kernel_rfl
  i51 := by kernel_rfl
  i146 := by kernel_rfl
  m1 := by kernel_rfl
  s1_3 := fun w h => Go.Proofs.cell_of_shapedOpen_int (zero := #[.int .i64 0]) (t := 3) h (of_decide_eq_true (by kernel_rfl)) (by kernel_rfl) rfl (by kernel_rfl) (by kernel_rfl) Tryd.underlying3 }
open Go.RowKit Go.Lib in
theorem Tryd.stringslite_Index_shaped (s sub : ByteArray) (w : World) (h : w.ShapedOpen Tryd.prog) (hs : s.size < 4294967281) :
    Calls Tryd.prog 92 #[.string s, .string sub] w fun e w' => e = .returned (.int .i64 (Lib.index s.data.toList sub.data.toList)) ∧ w' = w := Any.stringslite_Index_shaped Tryd.laysM219 s sub w h hs
def Tryd.laysM143_ren : Go.Shelf.Ren := ⟨fun | 143 => 84 | 219 => 92 | 217 => 94 | 225 => 114 | 224 => 115 | 267 => 116 | 266 => 118 | 314 => 127 | n => n, fun | 9 => 9 | 3 => 3 | 4 => 4 | 5 => 5 | 46 => 120 | 146 => 200 | 51 => 118 | n => n, fun | 1 => 3 | n => n⟩
theorem Tryd.laysM143 : Go.Proofs.LaysM.n143 Tryd.prog Tryd.laysM143_ren := {
  mixed := by kernel_rfl
  f143 := Tryd.func84.trans (congrArg some (by kernel_rfl))
  f217 := Tryd.func94.trans (congrArg some (by kernel_rfl))
  f219 := Tryd.func92.trans (congrArg some (by kernel_rfl))
  f224 := Tryd.func115.trans (congrArg some (by kernel_rfl))
  f225 := Tryd.func114.trans (congrArg some (by kernel_rfl))
  f266 := Tryd.func118.trans (congrArg some (by kernel_rfl))
  f267 := Tryd.func116.trans (congrArg some (by kernel_rfl))
  f314 := Tryd.func127.trans (congrArg some (by kernel_rfl))
  t3 := Tryd.underlying3
  a3 := Tryd.isAgg3
  z3 := Tryd.sizeOf3
  v3 := Tryd.zeroValue3
  t4 := Tryd.underlying4
  a4 := Tryd.isAgg4
  z4 := Tryd.sizeOf4
  v4 := Tryd.zeroValue4
  t5 := Tryd.underlying5
  a5 := Tryd.isAgg5
  z5 := Tryd.sizeOf5
  v5 := Tryd.zeroValue5
  t9 := Tryd.underlying9
  a9 := Tryd.isAgg9
  z9 := Tryd.sizeOf9
  v9 := Tryd.zeroValue9
  t46 := Tryd.underlying120
  a46 := Tryd.isAgg120
  z46 := Tryd.sizeOf120
  v46 := Tryd.zeroValue120
  t51 := Tryd.underlying118
  a51 := Tryd.isAgg118
  z51 := Tryd.sizeOf118
  v51 := Tryd.zeroValue118
  t146 := Tryd.underlying200
  a146 := Tryd.isAgg200
  z146 := Tryd.sizeOf200
  v146 := Tryd.zeroValue200
  g1 := by kernel_rfl
  i3 := by kernel_rfl
  i4 := by kernel_rfl
  i5 := by kernel_rfl
  i9 := by kernel_rfl
  i46 := by kernel_rfl
  i51 := by kernel_rfl
  i146 := by kernel_rfl
  m1 := by kernel_rfl
  s1_3 := fun w h => Go.Proofs.cell_of_shapedOpen_int (zero := #[.int .i64 0]) (t := 3) h (of_decide_eq_true (by kernel_rfl)) (by kernel_rfl) rfl (by kernel_rfl) (by kernel_rfl) Tryd.underlying3 }
open Go.RowKit Go.Lib in
theorem Tryd.strings_Index_shaped (s sub : ByteArray) (w : World) (h : w.ShapedOpen Tryd.prog) (hs : s.size < 4294967281) :
    Calls Tryd.prog 84 #[.string s, .string sub] w fun e w' => e = .returned (.int .i64 (Lib.index s.data.toList sub.data.toList)) ∧ w' = w := Any.strings_Index_shaped Tryd.laysM143 s sub w h hs
def Tryd.laysM220_ren : Go.Shelf.Ren := ⟨fun | 220 => 61 | 219 => 92 | 217 => 94 | 225 => 114 | 224 => 115 | 267 => 116 | 266 => 118 | 314 => 127 | n => n, fun | 9 => 9 | 4 => 4 | 3 => 3 | 5 => 5 | 46 => 120 | 146 => 200 | 51 => 118 | n => n, fun | 1 => 3 | n => n⟩
theorem Tryd.laysM220 : Go.Proofs.LaysM.n220 Tryd.prog Tryd.laysM220_ren := {
  mixed := by kernel_rfl
  f217 := Tryd.func94.trans (congrArg some (by kernel_rfl))
  f219 := Tryd.func92.trans (congrArg some (by kernel_rfl))
  f220 := Tryd.func61.trans (congrArg some (by kernel_rfl))
  f224 := Tryd.func115.trans (congrArg some (by kernel_rfl))
  f225 := Tryd.func114.trans (congrArg some (by kernel_rfl))
  f266 := Tryd.func118.trans (congrArg some (by kernel_rfl))
  f267 := Tryd.func116.trans (congrArg some (by kernel_rfl))
  f314 := Tryd.func127.trans (congrArg some (by kernel_rfl))
  t3 := Tryd.underlying3
  a3 := Tryd.isAgg3
  z3 := Tryd.sizeOf3
  v3 := Tryd.zeroValue3
  t4 := Tryd.underlying4
  a4 := Tryd.isAgg4
  z4 := Tryd.sizeOf4
  v4 := Tryd.zeroValue4
  t5 := Tryd.underlying5
  a5 := Tryd.isAgg5
  z5 := Tryd.sizeOf5
  v5 := Tryd.zeroValue5
  t9 := Tryd.underlying9
  a9 := Tryd.isAgg9
  z9 := Tryd.sizeOf9
  v9 := Tryd.zeroValue9
  t46 := Tryd.underlying120
  a46 := Tryd.isAgg120
  z46 := Tryd.sizeOf120
  v46 := Tryd.zeroValue120
  t51 := Tryd.underlying118
  a51 := Tryd.isAgg118
  z51 := Tryd.sizeOf118
  v51 := Tryd.zeroValue118
  t146 := Tryd.underlying200
  a146 := Tryd.isAgg200
  z146 := Tryd.sizeOf200
  v146 := Tryd.zeroValue200
  g1 := by kernel_rfl
  i3 := by kernel_rfl
  i4 := by kernel_rfl
  i5 := by kernel_rfl
  i9 := by kernel_rfl
  i46 := by kernel_rfl
  i51 := by kernel_rfl
  i146 := by kernel_rfl
  m1 := by kernel_rfl
  s1_3 := fun w h => Go.Proofs.cell_of_shapedOpen_int (zero := #[.int .i64 0]) (t := 3) h (of_decide_eq_true (by kernel_rfl)) (by kernel_rfl) rfl (by kernel_rfl) (by kernel_rfl) Tryd.underlying3 }
open Go.RowKit Go.Lib in
theorem Tryd.stringslite_Cut_shaped (s sep : ByteArray) (w : World) (h : w.ShapedOpen Tryd.prog) (hs : s.size < 4294967281) :
    Calls Tryd.prog 61 #[.string s, .string sep] w fun e w' => e = .returned (.tuple #[.string ⟨(Lib.cut s.data.toList sep.data.toList).1.toArray⟩, .string ⟨(Lib.cut s.data.toList sep.data.toList).2.1.toArray⟩, .bool (Lib.cut s.data.toList sep.data.toList).2.2]) ∧ ∃ n, w' = w.drewN n := Any.stringslite_Cut_shaped Tryd.laysM220 s sep w h hs
def Tryd.laysM145_ren : Go.Shelf.Ren := ⟨fun | 145 => 38 | 220 => 61 | 219 => 92 | 217 => 94 | 225 => 114 | 224 => 115 | 267 => 116 | 266 => 118 | 314 => 127 | n => n, fun | 9 => 9 | 4 => 4 | 59 => 44 | 3 => 3 | 5 => 5 | 46 => 120 | 146 => 200 | 51 => 118 | n => n, fun | 1 => 3 | n => n⟩
theorem Tryd.laysM145 : Go.Proofs.LaysM.n145 Tryd.prog Tryd.laysM145_ren := {
  mixed := by kernel_rfl
  f145 := Tryd.func38.trans (congrArg some (by kernel_rfl))
  f217 := Tryd.func94.trans (congrArg some (by kernel_rfl))
  f219 := Tryd.func92.trans (congrArg some (by kernel_rfl))
  f220 := Tryd.func61.trans (congrArg some (by kernel_rfl))
  f224 := Tryd.func115.trans (congrArg some (by kernel_rfl))
  f225 := Tryd.func114.trans (congrArg some (by kernel_rfl))
  f266 := Tryd.func118.trans (congrArg some (by kernel_rfl))
  f267 := Tryd.func116.trans (congrArg some (by kernel_rfl))
  f314 := Tryd.func127.trans (congrArg some (by kernel_rfl))
  t3 := Tryd.underlying3
  a3 := Tryd.isAgg3
  z3 := Tryd.sizeOf3
  v3 := Tryd.zeroValue3
  t4 := Tryd.underlying4
  a4 := Tryd.isAgg4
  z4 := Tryd.sizeOf4
  v4 := Tryd.zeroValue4
  t5 := Tryd.underlying5
  a5 := Tryd.isAgg5
  z5 := Tryd.sizeOf5
  v5 := Tryd.zeroValue5
  t9 := Tryd.underlying9
  a9 := Tryd.isAgg9
  z9 := Tryd.sizeOf9
  v9 := Tryd.zeroValue9
  t46 := Tryd.underlying120
  a46 := Tryd.isAgg120
  z46 := Tryd.sizeOf120
  v46 := Tryd.zeroValue120
  t51 := Tryd.underlying118
  a51 := Tryd.isAgg118
  z51 := Tryd.sizeOf118
  v51 := Tryd.zeroValue118
  t59 := Tryd.underlying44
  a59 := Tryd.isAgg44
  z59 := Tryd.sizeOf44
  v59 := Tryd.zeroValue44
  t146 := Tryd.underlying200
  a146 := Tryd.isAgg200
  z146 := Tryd.sizeOf200
  v146 := Tryd.zeroValue200
  g1 := by kernel_rfl
  i3 := by kernel_rfl
  i4 := by kernel_rfl
  i5 := by kernel_rfl
  i9 := by kernel_rfl
  i46 := by kernel_rfl
  i51 := by kernel_rfl
  i59 := by kernel_rfl
  i146 := by kernel_rfl
  m1 := by kernel_rfl
  s1_3 := fun w h => Go.Proofs.cell_of_shapedOpen_int (zero := #[.int .i64 0]) (t := 3) h (of_decide_eq_true (by kernel_rfl)) (by kernel_rfl) rfl (by kernel_rfl) (by kernel_rfl) Tryd.underlying3 }
open Go.RowKit Go.Lib in
theorem Tryd.strings_Cut_shaped (s sep : ByteArray) (w : World) (h : w.ShapedOpen Tryd.prog) (hs : s.size < 4294967281) :
    Calls Tryd.prog 38 #[.string s, .string sep] w fun e w' => e = .returned (.tuple #[.string ⟨(Lib.cut s.data.toList sep.data.toList).1.toArray⟩, .string ⟨(Lib.cut s.data.toList sep.data.toList).2.1.toArray⟩, .bool (Lib.cut s.data.toList sep.data.toList).2.2]) ∧ ∃ n, w' = w.drewN n := Any.strings_Cut_shaped Tryd.laysM145 s sep w h hs
def Tryd.laysM138_ren : Go.Shelf.Ren := ⟨fun | 138 => 83 | 195 => 105 | 218 => 106 | 143 => 84 | 219 => 92 | 217 => 94 | 225 => 114 | 224 => 115 | 267 => 116 | 266 => 118 | 314 => 127 | n => n, fun | 9 => 9 | 3 => 3 | 4 => 4 | 5 => 5 | 0 => 0 | 46 => 120 | 146 => 200 | 51 => 118 | n => n, fun | 1 => 3 | n => n⟩
theorem Tryd.laysM138 : Go.Proofs.LaysM.n138 Tryd.prog Tryd.laysM138_ren := {
  mixed := by kernel_rfl
  f138 := Tryd.func83.trans (congrArg some (by kernel_rfl))
  f143 := Tryd.func84.trans (congrArg some (by kernel_rfl))
  f195 := Tryd.func105.trans (congrArg some (by kernel_rfl))
  f217 := Tryd.func94.trans (congrArg some (by kernel_rfl))
  f218 := Tryd.func106.trans (congrArg some (by kernel_rfl))
  f219 := Tryd.func92.trans (congrArg some (by kernel_rfl))
  f224 := Tryd.func115.trans (congrArg some (by kernel_rfl))
  f225 := Tryd.func114.trans (congrArg some (by kernel_rfl))
  f266 := Tryd.func118.trans (congrArg some (by kernel_rfl))
  f267 := Tryd.func116.trans (congrArg some (by kernel_rfl))
  f314 := Tryd.func127.trans (congrArg some (by kernel_rfl))
  t0 := Tryd.underlying0
  a0 := Tryd.isAgg0
  z0 := Tryd.sizeOf0
  v0 := Tryd.zeroValue0
  t3 := Tryd.underlying3
  a3 := Tryd.isAgg3
  z3 := Tryd.sizeOf3
  v3 := Tryd.zeroValue3
  t4 := Tryd.underlying4
  a4 := Tryd.isAgg4
  z4 := Tryd.sizeOf4
  v4 := Tryd.zeroValue4
  t5 := Tryd.underlying5
  a5 := Tryd.isAgg5
  z5 := Tryd.sizeOf5
  v5 := Tryd.zeroValue5
  t9 := Tryd.underlying9
  a9 := Tryd.isAgg9
  z9 := Tryd.sizeOf9
  v9 := Tryd.zeroValue9
  t46 := Tryd.underlying120
  a46 := Tryd.isAgg120
  z46 := Tryd.sizeOf120
  v46 := Tryd.zeroValue120
  t51 := Tryd.underlying118
  a51 := Tryd.isAgg118
  z51 := Tryd.sizeOf118
  v51 := Tryd.zeroValue118
  t146 := Tryd.underlying200
  a146 := Tryd.isAgg200
  z146 := Tryd.sizeOf200
  v146 := Tryd.zeroValue200
  g1 := by kernel_rfl
  i0 := by kernel_rfl
  i3 := by kernel_rfl
  i4 := by kernel_rfl
  i5 := by kernel_rfl
  i9 := by kernel_rfl
  i46 := by kernel_rfl
  i51 := by kernel_rfl
  i146 := by kernel_rfl
  m1 := by kernel_rfl
  s1_3 := fun w h => Go.Proofs.cell_of_shapedOpen_int (zero := #[.int .i64 0]) (t := 3) h (of_decide_eq_true (by kernel_rfl)) (by kernel_rfl) rfl (by kernel_rfl) (by kernel_rfl) Tryd.underlying3 }
open Go.RowKit Go.Lib in
theorem Tryd.strings_Count_shaped (s sub : ByteArray) (w : World) (h : w.ShapedOpen Tryd.prog) (hs : s.size < 4294967281) (h2 : 2 ≤ sub.size) :
    Calls Tryd.prog 83 #[.string s, .string sub] w fun e w' => e = .returned (.int .i64 (Lib.countB s sub)) ∧ w' = w := Any.strings_Count_shaped Tryd.laysM138 s sub w h hs h2
def Tryd.lays206_ren : Go.Shelf.Ren := ⟨fun | 206 => 179 | n => n, fun | 9 => 9 | 4 => 4 | 3 => 3 | n => n, fun | n => n⟩
theorem Tryd.lays206 : Go.Proofs.Lays.n206 Tryd.prog Tryd.lays206_ren := {
  mixed := by kernel_rfl
  f206 := Tryd.func179.trans (congrArg some (by kernel_rfl))
  t3 := Tryd.underlying3
  a3 := Tryd.isAgg3
  z3 := Tryd.sizeOf3
  v3 := Tryd.zeroValue3
  t4 := Tryd.underlying4
  a4 := Tryd.isAgg4
  z4 := Tryd.sizeOf4
  v4 := Tryd.zeroValue4
  t9 := Tryd.underlying9
  a9 := Tryd.isAgg9
  z9 := Tryd.sizeOf9
  v9 := Tryd.zeroValue9 }
open Go.RowKit Go.Lib in
/-- internal/stringslite.HasPrefix (what strings.HasPrefix calls). (LAID: no walk: one application.) -/
theorem Tryd.stringslite_HasPrefix (s p : ByteArray) (w : World) :
    Calls Tryd.prog 179 #[.string s, .string p] w fun e w' => e = .returned (.bool (Lib.hasPrefix s.data.toList p.data.toList)) ∧ w' = w := Any.stringslite_HasPrefix Tryd.lays206 s p w
def Tryd.lays207_ren : Go.Shelf.Ren := ⟨fun | 207 => 117 | n => n, fun | 9 => 9 | 4 => 4 | 3 => 3 | n => n, fun | n => n⟩
theorem Tryd.lays207 : Go.Proofs.Lays.n207 Tryd.prog Tryd.lays207_ren := {
  mixed := by kernel_rfl
  f207 := Tryd.func117.trans (congrArg some (by kernel_rfl))
  t3 := Tryd.underlying3
  a3 := Tryd.isAgg3
  z3 := Tryd.sizeOf3
  v3 := Tryd.zeroValue3
  t4 := Tryd.underlying4
  a4 := Tryd.isAgg4
  z4 := Tryd.sizeOf4
  v4 := Tryd.zeroValue4
  t9 := Tryd.underlying9
  a9 := Tryd.isAgg9
  z9 := Tryd.sizeOf9
  v9 := Tryd.zeroValue9 }
open Go.RowKit Go.Lib in
/-- internal/stringslite.HasSuffix (what strings.HasSuffix calls). (LAID: no walk: one application.) -/
theorem Tryd.stringslite_HasSuffix (s p : ByteArray) (w : World) (hs : s.size ≤ 9223372036854775807) :
    Calls Tryd.prog 117 #[.string s, .string p] w fun e w' => e = .returned (.bool (Lib.hasSuffix s.data.toList p.data.toList)) ∧ w' = w := Any.stringslite_HasSuffix Tryd.lays207 s p w hs
def Tryd.lays100_ren : Go.Shelf.Ren := ⟨fun | 100 => 93 | 207 => 117 | n => n, fun | 9 => 9 | 4 => 4 | 3 => 3 | n => n, fun | n => n⟩
theorem Tryd.lays100 : Go.Proofs.Lays.n100 Tryd.prog Tryd.lays100_ren := {
  mixed := by kernel_rfl
  f100 := Tryd.func93.trans (congrArg some (by kernel_rfl))
  f207 := Tryd.func117.trans (congrArg some (by kernel_rfl))
  t3 := Tryd.underlying3
  a3 := Tryd.isAgg3
  z3 := Tryd.sizeOf3
  v3 := Tryd.zeroValue3
  t4 := Tryd.underlying4
  a4 := Tryd.isAgg4
  z4 := Tryd.sizeOf4
  v4 := Tryd.zeroValue4
  t9 := Tryd.underlying9
  a9 := Tryd.isAgg9
  z9 := Tryd.sizeOf9
  v9 := Tryd.zeroValue9 }
open Go.RowKit Go.Lib in
/-- strings.HasSuffix: "HasSuffix reports whether the string s ends with suffix.": IT RETURNS 'Lib.hasSuffix s suffix'; the world is as it was. ('hs': no Go string is longer: a caller has it of every string that it was handed.) (LAID: no walk: one application.) -/
theorem Tryd.strings_HasSuffix (s p : ByteArray) (w : World) (hs : s.size ≤ 9223372036854775807) :
    Calls Tryd.prog 93 #[.string s, .string p] w fun e w' => e = .returned (.bool (Lib.hasSuffix s.data.toList p.data.toList)) ∧ w' = w := Any.strings_HasSuffix Tryd.lays100 s p w hs
open Go.RowKit Go.Lib in
/-- strings.Count at whatever sep that is not empty: the two roads under one statement. (LAID: no walk: one application.) -/
theorem Tryd.strings_Count_any (s sep : ByteArray) (m : Int) (w : World) (hs : s.size < 4294967281) (hm : w.cell? ⟨3, 0, none⟩ = some (.int .i64 m)) (h1 : 1 ≤ sep.size) :
    Calls Tryd.prog 83 #[.string s, .string sep] w fun e w' => e = .returned (.int .i64 (Lib.countB s sep)) ∧ w' = w := Any.strings_Count_any Tryd.lays138 s sep m w hs hm h1
def Tryd.lays221_ren : Go.Shelf.Ren := ⟨fun | 221 => 53 | 268 => 82 | 138 => 83 | 143 => 84 | 195 => 105 | 197 => 96 | 218 => 106 | 219 => 92 | 260 => 119 | 217 => 94 | 225 => 114 | 224 => 115 | 267 => 116 | 266 => 118 | 314 => 127 | n => n, fun | 9 => 9 | 3 => 3 | 31 => 38 | 4 => 4 | 0 => 0 | 105 => 158 | 21 => 21 | 5 => 5 | 46 => 120 | 119 => 202 | 139 => 205 | 138 => 204 | 146 => 200 | 51 => 118 | n => n, fun | 1 => 3 | 3 => 5 | 4 => 6 | n => n⟩
theorem Tryd.lays221 : Go.Proofs.Lays.n221 Tryd.prog Tryd.lays221_ren := {
  mixed := by kernel_rfl
  f138 := Tryd.func83.trans (congrArg some (by kernel_rfl))
  f143 := Tryd.func84.trans (congrArg some (by kernel_rfl))
  f195 := Tryd.func105.trans (congrArg some (by kernel_rfl))
  f197 := Tryd.func96.trans (congrArg some (by kernel_rfl))
  f217 := Tryd.func94.trans (congrArg some (by kernel_rfl))
  f218 := Tryd.func106.trans (congrArg some (by kernel_rfl))
  f219 := Tryd.func92.trans (congrArg some (by kernel_rfl))
  f221 := Tryd.func53.trans (congrArg some (by kernel_rfl))
  f224 := Tryd.func115.trans (congrArg some (by kernel_rfl))
  f225 := Tryd.func114.trans (congrArg some (by kernel_rfl))
  f260 := Tryd.func119.trans (congrArg some (by kernel_rfl))
  f266 := Tryd.func118.trans (congrArg some (by kernel_rfl))
  f267 := Tryd.func116.trans (congrArg some (by kernel_rfl))
  f268 := Tryd.func82.trans (congrArg some (by kernel_rfl))
  f314 := Tryd.func127.trans (congrArg some (by kernel_rfl))
  t0 := Tryd.underlying0
  a0 := Tryd.isAgg0
  z0 := Tryd.sizeOf0
  v0 := Tryd.zeroValue0
  t3 := Tryd.underlying3
  a3 := Tryd.isAgg3
  z3 := Tryd.sizeOf3
  v3 := Tryd.zeroValue3
  t4 := Tryd.underlying4
  a4 := Tryd.isAgg4
  z4 := Tryd.sizeOf4
  v4 := Tryd.zeroValue4
  t5 := Tryd.underlying5
  a5 := Tryd.isAgg5
  z5 := Tryd.sizeOf5
  v5 := Tryd.zeroValue5
  t9 := Tryd.underlying9
  a9 := Tryd.isAgg9
  z9 := Tryd.sizeOf9
  v9 := Tryd.zeroValue9
  t21 := Tryd.underlying21
  a21 := Tryd.isAgg21
  z21 := Tryd.sizeOf21
  v21 := Tryd.zeroValue21
  t31 := Tryd.underlying38
  a31 := Tryd.isAgg38
  z31 := Tryd.sizeOf38
  v31 := Tryd.zeroValue38
  t46 := Tryd.underlying120
  a46 := Tryd.isAgg120
  z46 := Tryd.sizeOf120
  v46 := Tryd.zeroValue120
  t51 := Tryd.underlying118
  a51 := Tryd.isAgg118
  z51 := Tryd.sizeOf118
  v51 := Tryd.zeroValue118
  t105 := Tryd.underlying158
  a105 := Tryd.isAgg158
  z105 := Tryd.sizeOf158
  v105 := Tryd.zeroValue158
  t119 := Tryd.underlying202
  a119 := Tryd.isAgg202
  z119 := Tryd.sizeOf202
  t138 := Tryd.underlying204
  a138 := Tryd.isAgg204
  z138 := Tryd.sizeOf204
  v138 := Tryd.zeroValue204
  t139 := Tryd.underlying205
  a139 := Tryd.isAgg205
  z139 := Tryd.sizeOf205
  v139 := Tryd.zeroValue205
  t146 := Tryd.underlying200
  a146 := Tryd.isAgg200
  z146 := Tryd.sizeOf200
  v146 := Tryd.zeroValue200
  g1 := by kernel_rfl
  g3 := by kernel_rfl
  g4 := by kernel_rfl }
open Go.RowKit Go.Lib in
theorem Tryd.strings_genSplit (s sep : ByteArray) (sv : Nat) (n : Int) (N : Nat) (m : Int) (w : World) (hs : s.size < 4294967281) (hm : w.cell? ⟨3, 0, none⟩ = some (.int .i64 m)) (h1 : 1 ≤ sep.size) (hsv : sv ≤ sep.size) (hn0 : n ≠ 0) (hn63 : n ≤ 9223372036854775807) (hN : (N : Int) = min (if n < 0 then (Lib.countB s sep : Int) + 1 else n) ((s.size : Int) + 1)) :
    Calls Tryd.prog 53 #[.string s, .string sep, .int .i64 sv, .int .i64 n] w fun e w' =>
      e = .returned (.slice (some ⟨w.heap.size, 0, none⟩) (Lib.splitB sep sv (N - 1) s).length N) ∧ w' = w.alloc (.cells (Lib.cellsOf (Lib.splitB sep sv (N - 1) s) N) 9) := Any.strings_genSplit Tryd.lays221 (by kernel_rfl) s sep sv n N m w hs hm h1 hsv hn0 hn63 hN
def Tryd.lays146_ren : Go.Shelf.Ren := ⟨fun | 146 => 29 | 221 => 53 | 268 => 82 | 138 => 83 | 143 => 84 | 195 => 105 | 197 => 96 | 218 => 106 | 219 => 92 | 260 => 119 | 217 => 94 | 225 => 114 | 224 => 115 | 267 => 116 | 266 => 118 | 314 => 127 | n => n, fun | 9 => 9 | 31 => 38 | 3 => 3 | 4 => 4 | 0 => 0 | 105 => 158 | 21 => 21 | 5 => 5 | 46 => 120 | 119 => 202 | 139 => 205 | 138 => 204 | 146 => 200 | 51 => 118 | n => n, fun | 1 => 3 | 3 => 5 | 4 => 6 | n => n⟩
theorem Tryd.lays146 : Go.Proofs.Lays.n146 Tryd.prog Tryd.lays146_ren := {
  mixed := by kernel_rfl
  f138 := Tryd.func83.trans (congrArg some (by kernel_rfl))
  f143 := Tryd.func84.trans (congrArg some (by kernel_rfl))
  f146 := Tryd.func29.trans (congrArg some (by kernel_rfl))
  f195 := Tryd.func105.trans (congrArg some (by kernel_rfl))
  f197 := Tryd.func96.trans (congrArg some (by kernel_rfl))
  f217 := Tryd.func94.trans (congrArg some (by kernel_rfl))
  f218 := Tryd.func106.trans (congrArg some (by kernel_rfl))
  f219 := Tryd.func92.trans (congrArg some (by kernel_rfl))
  f221 := Tryd.func53.trans (congrArg some (by kernel_rfl))
  f224 := Tryd.func115.trans (congrArg some (by kernel_rfl))
  f225 := Tryd.func114.trans (congrArg some (by kernel_rfl))
  f260 := Tryd.func119.trans (congrArg some (by kernel_rfl))
  f266 := Tryd.func118.trans (congrArg some (by kernel_rfl))
  f267 := Tryd.func116.trans (congrArg some (by kernel_rfl))
  f268 := Tryd.func82.trans (congrArg some (by kernel_rfl))
  f314 := Tryd.func127.trans (congrArg some (by kernel_rfl))
  t0 := Tryd.underlying0
  a0 := Tryd.isAgg0
  z0 := Tryd.sizeOf0
  v0 := Tryd.zeroValue0
  t3 := Tryd.underlying3
  a3 := Tryd.isAgg3
  z3 := Tryd.sizeOf3
  v3 := Tryd.zeroValue3
  t4 := Tryd.underlying4
  a4 := Tryd.isAgg4
  z4 := Tryd.sizeOf4
  v4 := Tryd.zeroValue4
  t5 := Tryd.underlying5
  a5 := Tryd.isAgg5
  z5 := Tryd.sizeOf5
  v5 := Tryd.zeroValue5
  t9 := Tryd.underlying9
  a9 := Tryd.isAgg9
  z9 := Tryd.sizeOf9
  v9 := Tryd.zeroValue9
  t21 := Tryd.underlying21
  a21 := Tryd.isAgg21
  z21 := Tryd.sizeOf21
  v21 := Tryd.zeroValue21
  t31 := Tryd.underlying38
  a31 := Tryd.isAgg38
  z31 := Tryd.sizeOf38
  v31 := Tryd.zeroValue38
  t46 := Tryd.underlying120
  a46 := Tryd.isAgg120
  z46 := Tryd.sizeOf120
  v46 := Tryd.zeroValue120
  t51 := Tryd.underlying118
  a51 := Tryd.isAgg118
  z51 := Tryd.sizeOf118
  v51 := Tryd.zeroValue118
  t105 := Tryd.underlying158
  a105 := Tryd.isAgg158
  z105 := Tryd.sizeOf158
  v105 := Tryd.zeroValue158
  t119 := Tryd.underlying202
  a119 := Tryd.isAgg202
  z119 := Tryd.sizeOf202
  t138 := Tryd.underlying204
  a138 := Tryd.isAgg204
  z138 := Tryd.sizeOf204
  v138 := Tryd.zeroValue204
  t139 := Tryd.underlying205
  a139 := Tryd.isAgg205
  z139 := Tryd.sizeOf205
  v139 := Tryd.zeroValue205
  t146 := Tryd.underlying200
  a146 := Tryd.isAgg200
  z146 := Tryd.sizeOf200
  v146 := Tryd.zeroValue200
  g1 := by kernel_rfl
  g3 := by kernel_rfl
  g4 := by kernel_rfl }
open Go.RowKit Go.Lib in
/-- strings.Split. (LAID: no walk: one application.) -/
theorem Tryd.strings_Split (s sep : ByteArray) (m : Int) (w : World) (hs : s.size < 4294967281) (hm : w.cell? ⟨3, 0, none⟩ = some (.int .i64 m)) (h1 : 1 ≤ sep.size) :
    Calls Tryd.prog 29 #[.string s, .string sep] w fun e w' =>
      e = .returned (.slice (some ⟨w.heap.size, 0, none⟩) (Lib.countB s sep + 1) (Lib.countB s sep + 1)) ∧ w' = w.alloc (.cells ((Lib.splitB sep 0 (Lib.countB s sep) s).map Value.string).toArray 9) := Any.strings_Split Tryd.lays146 (by kernel_rfl) s sep m w hs hm h1
def Tryd.laysM146_ren : Go.Shelf.Ren := ⟨fun | 146 => 29 | 221 => 53 | 268 => 82 | 138 => 83 | 143 => 84 | 195 => 105 | 197 => 96 | 218 => 106 | 219 => 92 | 260 => 119 | 217 => 94 | 225 => 114 | 224 => 115 | 267 => 116 | 266 => 118 | 314 => 127 | n => n, fun | 9 => 9 | 31 => 38 | 3 => 3 | 4 => 4 | 0 => 0 | 105 => 158 | 21 => 21 | 5 => 5 | 46 => 120 | 119 => 202 | 139 => 205 | 138 => 204 | 146 => 200 | 51 => 118 | n => n, fun | 1 => 3 | 3 => 5 | 4 => 6 | n => n⟩
theorem Tryd.laysM146 : Go.Proofs.LaysM.n146 Tryd.prog Tryd.laysM146_ren := {
  mixed := by kernel_rfl
  f138 := Tryd.func83.trans (congrArg some (by kernel_rfl))
  f143 := Tryd.func84.trans (congrArg some (by kernel_rfl))
  f146 := Tryd.func29.trans (congrArg some (by kernel_rfl))
  f195 := Tryd.func105.trans (congrArg some (by kernel_rfl))
  f197 := Tryd.func96.trans (congrArg some (by kernel_rfl))
  f217 := Tryd.func94.trans (congrArg some (by kernel_rfl))
  f218 := Tryd.func106.trans (congrArg some (by kernel_rfl))
  f219 := Tryd.func92.trans (congrArg some (by kernel_rfl))
  f221 := Tryd.func53.trans (congrArg some (by kernel_rfl))
  f224 := Tryd.func115.trans (congrArg some (by kernel_rfl))
  f225 := Tryd.func114.trans (congrArg some (by kernel_rfl))
  f260 := Tryd.func119.trans (congrArg some (by kernel_rfl))
  f266 := Tryd.func118.trans (congrArg some (by kernel_rfl))
  f267 := Tryd.func116.trans (congrArg some (by kernel_rfl))
  f268 := Tryd.func82.trans (congrArg some (by kernel_rfl))
  f314 := Tryd.func127.trans (congrArg some (by kernel_rfl))
  t0 := Tryd.underlying0
  a0 := Tryd.isAgg0
  z0 := Tryd.sizeOf0
  v0 := Tryd.zeroValue0
  t3 := Tryd.underlying3
  a3 := Tryd.isAgg3
  z3 := Tryd.sizeOf3
  v3 := Tryd.zeroValue3
  t4 := Tryd.underlying4
  a4 := Tryd.isAgg4
  z4 := Tryd.sizeOf4
  v4 := Tryd.zeroValue4
  t5 := Tryd.underlying5
  a5 := Tryd.isAgg5
  z5 := Tryd.sizeOf5
  v5 := Tryd.zeroValue5
  t9 := Tryd.underlying9
  a9 := Tryd.isAgg9
  z9 := Tryd.sizeOf9
  v9 := Tryd.zeroValue9
  t21 := Tryd.underlying21
  a21 := Tryd.isAgg21
  z21 := Tryd.sizeOf21
  v21 := Tryd.zeroValue21
  t31 := Tryd.underlying38
  a31 := Tryd.isAgg38
  z31 := Tryd.sizeOf38
  v31 := Tryd.zeroValue38
  t46 := Tryd.underlying120
  a46 := Tryd.isAgg120
  z46 := Tryd.sizeOf120
  v46 := Tryd.zeroValue120
  t51 := Tryd.underlying118
  a51 := Tryd.isAgg118
  z51 := Tryd.sizeOf118
  v51 := Tryd.zeroValue118
  t105 := Tryd.underlying158
  a105 := Tryd.isAgg158
  z105 := Tryd.sizeOf158
  v105 := Tryd.zeroValue158
  t119 := Tryd.underlying202
  a119 := Tryd.isAgg202
  z119 := Tryd.sizeOf202
  t138 := Tryd.underlying204
  a138 := Tryd.isAgg204
  z138 := Tryd.sizeOf204
  v138 := Tryd.zeroValue204
  t139 := Tryd.underlying205
  a139 := Tryd.isAgg205
  z139 := Tryd.sizeOf205
  v139 := Tryd.zeroValue205
  t146 := Tryd.underlying200
  a146 := Tryd.isAgg200
  z146 := Tryd.sizeOf200
  v146 := Tryd.zeroValue200
  g1 := by kernel_rfl
  g3 := by kernel_rfl
  g4 := by kernel_rfl
  i0 := by kernel_rfl
  i3 := by kernel_rfl
  i4 := by kernel_rfl
  i5 := by kernel_rfl
  i9 := by kernel_rfl
  i21 := by kernel_rfl
  i31 := by kernel_rfl
  i46 := by kernel_rfl
  i51 := by kernel_rfl
  i105 := by kernel_rfl
  i138 := by kernel_rfl
  i139 := by kernel_rfl
  i146 := by kernel_rfl
  m1 := by kernel_rfl
  s1_3 := fun w h => Go.Proofs.cell_of_shapedOpen_int (zero := #[.int .i64 0]) (t := 3) h (of_decide_eq_true (by kernel_rfl)) (by kernel_rfl) rfl (by kernel_rfl) (by kernel_rfl) Tryd.underlying3
  m3 := by kernel_rfl
  m4 := by kernel_rfl }
open Go.RowKit Go.Lib in
/-- strings.Split, sep not empty. (LAID: no walk: one application.) -/
theorem Tryd.strings_Split_shaped (s sep : ByteArray) (w : World) (h : w.ShapedOpen Tryd.prog) (hs : s.size < 4294967281) (h1 : 1 ≤ sep.size) :
    Calls Tryd.prog 29 #[.string s, .string sep] w fun e w' =>
      e = .returned (.slice (some ⟨w.heap.size, 0, none⟩) (Lib.countB s sep + 1) (Lib.countB s sep + 1)) ∧ w' = w.alloc (.cells ((Lib.splitB sep 0 (Lib.countB s sep) s).map Value.string).toArray 9) := Any.strings_Split_shaped Tryd.laysM146 s sep w h hs h1
def Tryd.lays152_ren : Go.Shelf.Ren := ⟨fun | 152 => 120 | 137 => 64 | 119 => 128 | 224 => 115 | 225 => 114 | 217 => 94 | 266 => 118 | n => n, fun | 9 => 9 | 21 => 21 | 3 => 3 | 4 => 4 | 5 => 5 | 0 => 0 | 46 => 120 | n => n, fun | n => n⟩
theorem Tryd.lays152 : Go.Proofs.Lays.n152 Tryd.prog Tryd.lays152_ren := {
  mixed := by kernel_rfl
  f119 := Tryd.func128.trans (congrArg some (by kernel_rfl))
  f137 := Tryd.func64.trans (congrArg some (by kernel_rfl))
  f152 := Tryd.func120.trans (congrArg some (by kernel_rfl))
  f217 := Tryd.func94.trans (congrArg some (by kernel_rfl))
  f224 := Tryd.func115.trans (congrArg some (by kernel_rfl))
  f225 := Tryd.func114.trans (congrArg some (by kernel_rfl))
  f266 := Tryd.func118.trans (congrArg some (by kernel_rfl))
  t0 := Tryd.underlying0
  a0 := Tryd.isAgg0
  z0 := Tryd.sizeOf0
  v0 := Tryd.zeroValue0
  t3 := Tryd.underlying3
  a3 := Tryd.isAgg3
  z3 := Tryd.sizeOf3
  v3 := Tryd.zeroValue3
  t4 := Tryd.underlying4
  a4 := Tryd.isAgg4
  z4 := Tryd.sizeOf4
  v4 := Tryd.zeroValue4
  t5 := Tryd.underlying5
  a5 := Tryd.isAgg5
  z5 := Tryd.sizeOf5
  v5 := Tryd.zeroValue5
  t9 := Tryd.underlying9
  a9 := Tryd.isAgg9
  z9 := Tryd.sizeOf9
  v9 := Tryd.zeroValue9
  t21 := Tryd.underlying21
  a21 := Tryd.isAgg21
  z21 := Tryd.sizeOf21
  v21 := Tryd.zeroValue21
  t46 := Tryd.underlying120
  a46 := Tryd.isAgg120
  z46 := Tryd.sizeOf120
  v46 := Tryd.zeroValue120 }
open Go.RowKit Go.Lib in
theorem Tryd.strings_IndexRune_ascii (s : ByteArray) (r : Int) (w : World) (h0 : 0 ≤ r) (h1 : r < 128) :
    Calls Tryd.prog 120 #[.string s, .int .i32 r] w fun e w' => e = .returned (.int .i64 (Lib.indexByte s.data.toList r.toNat.toUInt8)) ∧ w' = w := Any.strings_IndexRune_ascii Tryd.lays152 s r w h0 h1
def Tryd.lays151_ren : Go.Shelf.Ren := ⟨fun | 151 => 97 | 152 => 120 | 137 => 64 | 119 => 128 | 224 => 115 | 225 => 114 | 217 => 94 | 266 => 118 | n => n, fun | 9 => 9 | 21 => 21 | 4 => 4 | 3 => 3 | 5 => 5 | 0 => 0 | 46 => 120 | n => n, fun | n => n⟩
theorem Tryd.lays151 : Go.Proofs.Lays.n151 Tryd.prog Tryd.lays151_ren := {
  mixed := by kernel_rfl
  f119 := Tryd.func128.trans (congrArg some (by kernel_rfl))
  f137 := Tryd.func64.trans (congrArg some (by kernel_rfl))
  f151 := Tryd.func97.trans (congrArg some (by kernel_rfl))
  f152 := Tryd.func120.trans (congrArg some (by kernel_rfl))
  f217 := Tryd.func94.trans (congrArg some (by kernel_rfl))
  f224 := Tryd.func115.trans (congrArg some (by kernel_rfl))
  f225 := Tryd.func114.trans (congrArg some (by kernel_rfl))
  f266 := Tryd.func118.trans (congrArg some (by kernel_rfl))
  t0 := Tryd.underlying0
  a0 := Tryd.isAgg0
  z0 := Tryd.sizeOf0
  v0 := Tryd.zeroValue0
  t3 := Tryd.underlying3
  a3 := Tryd.isAgg3
  z3 := Tryd.sizeOf3
  v3 := Tryd.zeroValue3
  t4 := Tryd.underlying4
  a4 := Tryd.isAgg4
  z4 := Tryd.sizeOf4
  v4 := Tryd.zeroValue4
  t5 := Tryd.underlying5
  a5 := Tryd.isAgg5
  z5 := Tryd.sizeOf5
  v5 := Tryd.zeroValue5
  t9 := Tryd.underlying9
  a9 := Tryd.isAgg9
  z9 := Tryd.sizeOf9
  v9 := Tryd.zeroValue9
  t21 := Tryd.underlying21
  a21 := Tryd.isAgg21
  z21 := Tryd.sizeOf21
  v21 := Tryd.zeroValue21
  t46 := Tryd.underlying120
  a46 := Tryd.isAgg120
  z46 := Tryd.sizeOf120
  v46 := Tryd.zeroValue120 }
open Go.RowKit Go.Lib in
theorem Tryd.strings_ContainsRune_ascii (s : ByteArray) (r : Int) (w : World) (h0 : 0 ≤ r) (h1 : r < 128) :
    Calls Tryd.prog 97 #[.string s, .int .i32 r] w fun e w' => e = .returned (.bool (decide (0 ≤ Lib.indexByte s.data.toList r.toNat.toUInt8))) ∧ w' = w := Any.strings_ContainsRune_ascii Tryd.lays151 s r w h0 h1
def Tryd.lays227_ren : Go.Shelf.Ren := ⟨fun | 227 => 66 | n => n, fun | 9 => 9 | 116 => 123 | 4 => 4 | 0 => 0 | 3 => 3 | 5 => 5 | n => n, fun | n => n⟩
theorem Tryd.lays227 : Go.Proofs.Lays.n227 Tryd.prog Tryd.lays227_ren := {
  mixed := by kernel_rfl
  f227 := Tryd.func66.trans (congrArg some (by kernel_rfl))
  t0 := Tryd.underlying0
  a0 := Tryd.isAgg0
  z0 := Tryd.sizeOf0
  v0 := Tryd.zeroValue0
  t3 := Tryd.underlying3
  a3 := Tryd.isAgg3
  z3 := Tryd.sizeOf3
  v3 := Tryd.zeroValue3
  t4 := Tryd.underlying4
  a4 := Tryd.isAgg4
  z4 := Tryd.sizeOf4
  v4 := Tryd.zeroValue4
  t5 := Tryd.underlying5
  a5 := Tryd.isAgg5
  z5 := Tryd.sizeOf5
  v5 := Tryd.zeroValue5
  t9 := Tryd.underlying9
  a9 := Tryd.isAgg9
  z9 := Tryd.sizeOf9
  v9 := Tryd.zeroValue9
  t116 := Tryd.underlying123
  a116 := Tryd.isAgg123
  z116 := Tryd.sizeOf123 }
open Go.RowKit Go.Lib in
theorem Tryd.strings_makeASCIISet (hv116 : ∀ w, (zeroValue 123).run Tryd.prog w = .ok (.agg (Array.replicate 256 (.bool false))) w) (chars : ByteArray) (w : World) (hs : chars.size < 4294967281) (hascii : ∀ (j : Nat) b, chars.data.toList[j]? = some b → b.toNat < 128) :
    Calls Tryd.prog 66 #[.string chars] w fun e w' => e = .returned (.tuple #[.agg (Lib.setCells chars.data.toList), .bool true]) ∧ w' = w.alloc (.cells (Lib.setCells chars.data.toList) 123) := Any.strings_makeASCIISet Tryd.lays227 hv116 (by kernel_rfl) chars w hs hascii
def Tryd.lays228_ren : Go.Shelf.Ren := ⟨fun | 228 => 95 | n => n, fun | 124 => 127 | 5 => 5 | 4 => 4 | 0 => 0 | 116 => 123 | n => n, fun | n => n⟩
theorem Tryd.lays228 : Go.Proofs.Lays.n228 Tryd.prog Tryd.lays228_ren := {
  mixed := by kernel_rfl
  f228 := Tryd.func95.trans (congrArg some (by kernel_rfl))
  t0 := Tryd.underlying0
  a0 := Tryd.isAgg0
  z0 := Tryd.sizeOf0
  v0 := Tryd.zeroValue0
  t4 := Tryd.underlying4
  a4 := Tryd.isAgg4
  z4 := Tryd.sizeOf4
  v4 := Tryd.zeroValue4
  t5 := Tryd.underlying5
  a5 := Tryd.isAgg5
  z5 := Tryd.sizeOf5
  v5 := Tryd.zeroValue5
  t116 := Tryd.underlying123
  a116 := Tryd.isAgg123
  z116 := Tryd.sizeOf123
  t124 := Tryd.underlying127
  a124 := Tryd.isAgg127
  z124 := Tryd.sizeOf127
  v124 := Tryd.zeroValue127 }
open Go.RowKit Go.Lib in
/-- '(as *asciiSet) contains(c)': 'as[c]': the set lies at block b, whole. (LAID: no walk: one application.) -/
theorem Tryd.asciiSet_contains (b : Nat) (x : UInt8) (v : Bool) (w : World) (hc : w.cell? ⟨b, x.toNat, none⟩ = some (.bool v)) :
    Calls Tryd.prog 95 #[.pointer (some ⟨b, 0, none⟩), .int .u8 x.toNat] w fun e w' => e = .returned (.bool v) ∧ w' = w := Any.asciiSet_contains Tryd.lays228 b x v w hc
def Tryd.lays260_ren : Go.Shelf.Ren := ⟨fun | 260 => 119 | n => n, fun | 9 => 9 | 21 => 21 | 3 => 3 | 4 => 4 | 5 => 5 | 119 => 202 | 0 => 0 | 46 => 120 | 139 => 205 | 138 => 204 | n => n, fun | 3 => 5 | 4 => 6 | n => n⟩
theorem Tryd.lays260 : Go.Proofs.Lays.n260 Tryd.prog Tryd.lays260_ren := {
  mixed := by kernel_rfl
  f260 := Tryd.func119.trans (congrArg some (by kernel_rfl))
  t0 := Tryd.underlying0
  a0 := Tryd.isAgg0
  z0 := Tryd.sizeOf0
  v0 := Tryd.zeroValue0
  t3 := Tryd.underlying3
  a3 := Tryd.isAgg3
  z3 := Tryd.sizeOf3
  v3 := Tryd.zeroValue3
  t4 := Tryd.underlying4
  a4 := Tryd.isAgg4
  z4 := Tryd.sizeOf4
  v4 := Tryd.zeroValue4
  t5 := Tryd.underlying5
  a5 := Tryd.isAgg5
  z5 := Tryd.sizeOf5
  v5 := Tryd.zeroValue5
  t9 := Tryd.underlying9
  a9 := Tryd.isAgg9
  z9 := Tryd.sizeOf9
  v9 := Tryd.zeroValue9
  t21 := Tryd.underlying21
  a21 := Tryd.isAgg21
  z21 := Tryd.sizeOf21
  v21 := Tryd.zeroValue21
  t46 := Tryd.underlying120
  a46 := Tryd.isAgg120
  z46 := Tryd.sizeOf120
  v46 := Tryd.zeroValue120
  t119 := Tryd.underlying202
  a119 := Tryd.isAgg202
  z119 := Tryd.sizeOf202
  t138 := Tryd.underlying204
  a138 := Tryd.isAgg204
  z138 := Tryd.sizeOf204
  v138 := Tryd.zeroValue204
  t139 := Tryd.underlying205
  a139 := Tryd.isAgg205
  z139 := Tryd.sizeOf205
  v139 := Tryd.zeroValue205
  g3 := by kernel_rfl
  g4 := by kernel_rfl }
open Go.RowKit Go.Lib in
theorem Tryd.utf8_decodeRuneInStringSlow (s : ByteArray) (w : World) (hT : Lib.Utf8Tabs 5 6 w) :
    Calls Tryd.prog 119 #[.string s] w fun e w' => e = .returned (.tuple #[.int .i32 (Lib.decodeGo s).1, .int .i64 (Lib.decodeGo s).2]) ∧ Below w.heap.size w w' := Any.utf8_decodeRuneInStringSlow Tryd.lays260 s w hT
end Go.Proofs
end

section
namespace Go.Proofs.YtiolgglipcijpaaDoor.RParse
open Go Go.RowKit Go.Proofs.YtiolgglipcijpaaDoorW.PrintWords Go.Proofs.YtiolgglipcijpaaDoor.PB Go.Proofs.YtiolgglipcijpaaDoor.P Go.Proofs.YtiolgglipcijpaaDoor.LSpec Go.Proofs.YtiolgglipcijpaaDoor.RSpec
open Go.Proofs.YtiolgglipcijpaaDoor.ROct (tokB visB isTok isVis)

theorem Split_calls (s : ByteArray) (hs : s.size ≤ 100000) (w : World) (hG : Glob w) :
    Calls Tryd.prog 29 #[.string s, .string ⟨#[32]⟩] w fun e w' =>
      e = .returned (.slice (some ⟨w.heap.size, 0, none⟩) (splitL 32 (toL s)).length (splitL 32 (toL s)).length) ∧ w' = w.alloc (.cells (((splitL 32 (toL s)).map ofL).map Value.string).toArray 9) := by
  obtain ⟨m, hm⟩ := hG.most
  rw [split32_length, ← split32 _ s rfl]
  exact Tryd.strings_Split s ⟨#[32]⟩ m w (by omega) hm (by decide)

theorem New_calls (s n : Int) (w : World) : Calls Tryd.prog 30 #[.int .i64 s, .int .i64 n] w fun e w' => e = .returned (.iface 104 (.agg #[.int .i64 s, .int .i64 n])) ∧ w' = w := by
  go_enter Tryd.func30, Tryd.ntmps30
  go_wp2
  go_ret
  exact ⟨rfl, rfl⟩

theorem Parse_other (s : ByteArray) (hs : s.size ≤ 100000) (hn : (splitL 32 (toL s)).length ≠ 3) (w : World) (hG : Glob w) :
    Calls Tryd.prog 12 #[.string s] w fun e w' => e = .returned (.tuple #[.agg #[.string ⟨#[]⟩, .string ⟨#[]⟩, .int .i64 0], .iface 104 (.agg #[.int .i64 400, .int .i64 0])]) ∧ Below w.heap.size w w' := by
  have hn1 : (((splitL 32 (toL s)).length : Int) == 3) = false := by simpa using (by omega : ¬ ((splitL 32 (toL s)).length : Int) = 3)
  have hn2 : (((splitL 32 (toL s)).length : Int) != 3) = true := by rw [bne, hn1]; rfl
  have hG1 : Glob (w.alloc (.cells #[.string ⟨#[]⟩, .string ⟨#[]⟩, .int .i64 0] 24)) := hG.below ((Below.refl _ _).alloc (Nat.le_refl _) _)
  go_enter Tryd.func12, Tryd.ntmps12
  go_wp2_with (first | (go_at_call 29; refine (Split_calls s hs _ hG1).mono ?_; rintro e w1 ⟨rfl, rfl⟩) | (go_at_call 30; refine (New_calls _ _ _).mono ?_; rintro e w2 ⟨rfl, rfl⟩))
  refine bodyPost_ret (results_ct rfl _ _ w.heap.size 24 #[.string (⟨#[]⟩ : ByteArray), .string (⟨#[]⟩ : ByteArray), .int .i64 0] (0, 0) _ rfl (blk_alloc (blk_new _ _) _) Tryd.underlying24 rfl (by kernel_rfl)) rfl ?_
  exact ⟨rfl, below_alloc ((Below.refl _ _).alloc (Nat.le_refl _) _) _⟩

def rulesA : Value := .agg #[.int .i64 0, .func (.func 167) #[] #[], .int .i64 400, .int .i64 1, .func (.func 168) #[] #[], .int .i64 400, .int .i64 2, .func (.func 171) #[] #[], .int .i64 400, .int .i64 2, .func (.func 172) #[] #[], .int .i64 505]
theorem rule0 (w : World) : (Instr.index 62 rulesA (.int .i64 0)).run Tryd.prog w = .ok (.agg #[.int .i64 0, .func (.func 167) #[] #[], .int .i64 400]) w := by kernel_rfl
theorem rule1 (w : World) : (Instr.index 62 rulesA (.int .i64 1)).run Tryd.prog w = .ok (.agg #[.int .i64 1, .func (.func 168) #[] #[], .int .i64 400]) w := by kernel_rfl
theorem rule2 (w : World) : (Instr.index 62 rulesA (.int .i64 2)).run Tryd.prog w = .ok (.agg #[.int .i64 2, .func (.func 171) #[] #[], .int .i64 400]) w := by kernel_rfl
theorem rule3 (w : World) : (Instr.index 62 rulesA (.int .i64 3)).run Tryd.prog w = .ok (.agg #[.int .i64 2, .func (.func 172) #[] #[], .int .i64 505]) w := by kernel_rfl
/-- the world when the line is in parts. -/
def W2 (w : World) (m t v : List UInt8) : World := (w.alloc (.cells #[.string ⟨#[]⟩, .string ⟨#[]⟩, .int .i64 0] 24)).alloc (.cells #[.string (ofL m), .string (ofL t), .string (ofL v)] 9)
theorem rule_cells {w : World} (hG : Glob w) (m t v : List UInt8) : (W2 w m t v).cell? ⟨0, 0, none⟩ = some (.int .i64 0) ∧ (W2 w m t v).cell? ⟨0, 1, none⟩ = some (.func (.func 167) #[] #[]) ∧ (W2 w m t v).cell? ⟨0, 2, none⟩ = some (.int .i64 400)
    ∧ (W2 w m t v).cell? ⟨0, 3, none⟩ = some (.int .i64 1) ∧ (W2 w m t v).cell? ⟨0, 4, none⟩ = some (.func (.func 168) #[] #[]) ∧ (W2 w m t v).cell? ⟨0, 5, none⟩ = some (.int .i64 400)
    ∧ (W2 w m t v).cell? ⟨0, 6, none⟩ = some (.int .i64 2) ∧ (W2 w m t v).cell? ⟨0, 7, none⟩ = some (.func (.func 171) #[] #[]) ∧ (W2 w m t v).cell? ⟨0, 8, none⟩ = some (.int .i64 400)
    ∧ (W2 w m t v).cell? ⟨0, 9, none⟩ = some (.int .i64 2) ∧ (W2 w m t v).cell? ⟨0, 10, none⟩ = some (.func (.func 172) #[] #[]) ∧ (W2 w m t v).cell? ⟨0, 11, none⟩ = some (.int .i64 505) := by
  have h := (hG.below (w' := W2 w m t v) (below_alloc ((Below.refl _ _).alloc (Nat.le_refl _) _) _)).rules
  exact ⟨h 0 (by omega), h 1 (by omega), h 2 (by omega), h 3 (by omega), h 4 (by omega), h 5 (by omega), h 6 (by omega), h 7 (by omega), h 8 (by omega), h 9 (by omega), h 10 (by omega), h 11 (by omega)⟩

theorem Split_three (s : ByteArray) (hs : s.size ≤ 100000) (m t v : List UInt8) (hsp : splitL 32 (toL s) = [m, t, v]) (w : World) (hG : Glob w) :
    Calls Tryd.prog 29 #[.string s, .string ⟨#[32]⟩] w fun e w' => e = .returned (.slice (some ⟨w.heap.size, 0, none⟩) 3 3) ∧ w' = w.alloc (.cells #[.string (ofL m), .string (ofL t), .string (ofL v)] 9) := by
  have := Split_calls s hs w hG
  rw [hsp] at this
  exact this

theorem store_func (W : World) (x y : Value) (f : FuncId) : (store ⟨W.heap.size, 1, none⟩ (.func (.func f) #[] #[])).run Tryd.prog (W.alloc (.cells #[x, .nilFunc, y] 61)) = .ok () (W.alloc (.cells #[x, .func (.func f) #[] #[], y] 61)) := by
  rw [run_store _ _ _ _ _ (by rfl), World.cell?_alloc_at _ _ _ _ rfl]
  simp [World.setCell_alloc_new]

/-- what a round of the rules finds. -/
structure Ready (w W : World) (m t v : List UInt8) : Prop where
  res : W.heap[w.heap.size]? = some (.cells #[.string ⟨#[]⟩, .string ⟨#[]⟩, .int .i64 0] 24 (0, 0))
  p0 : W.cell? ⟨w.heap.size + 1, 0, none⟩ = some (.string (ofL m))
  p1 : W.cell? ⟨w.heap.size + 1, 1, none⟩ = some (.string (ofL t))
  p2 : W.cell? ⟨w.heap.size + 1, 2, none⟩ = some (.string (ofL v))
  lt : w.heap.size + 1 < W.heap.size
  below : Below w.heap.size w W
theorem Ready.first (w : World) (m t v : List UInt8) : Ready w ((w.alloc (.cells #[.string ⟨#[]⟩, .string ⟨#[]⟩, .int .i64 0] 24)).alloc (.cells #[.string (ofL m), .string (ofL t), .string (ofL v)] 9)) m t v :=
  ⟨blk_alloc (blk_new _ _) _, by simp, by simp, by simp, by simp, below_alloc ((Below.refl _ _).alloc (Nat.le_refl _) _) _⟩
theorem Ready.alloc {w W : World} {m t v : List UInt8} (h : Ready w W m t v) (o : Obj) : Ready w (W.alloc o) m t v := by
  have l1 := h.lt
  exact ⟨blk_alloc h.res _, by rw [World.cell?_alloc_lt _ _ _ (by exact l1)]; exact h.p0, by rw [World.cell?_alloc_lt _ _ _ (by exact l1)]; exact h.p1, by rw [World.cell?_alloc_lt _ _ _ (by exact l1)]; exact h.p2, by simp; omega, below_alloc h.below _⟩
theorem Ready.drewN {w W : World} {m t v : List UInt8} (h : Ready w W m t v) (n : Nat) : Ready w (W.drewN n) m t v := ⟨h.res, h.p0, h.p1, h.p2, h.lt, pw_below_drewN h.below n⟩

theorem Ready.step {w W W1 : World} {m t v : List UInt8} (h : Ready w W m t v) (hb : Below W.heap.size W W1) : Ready w W1 m t v := by
  have l1 := h.lt
  have l2 := hb.size
  exact ⟨by rw [hb.block _ (by omega)]; exact h.res, by rw [hb.cell (by exact l1)]; exact h.p0, by rw [hb.cell (by exact l1)]; exact h.p1, by rw [hb.cell (by exact l1)]; exact h.p2, by omega, below_step h.below hb⟩
theorem row_cells (W : World) (x y z : Value) (n : Nat) : ((W.alloc (.cells #[x, y, z] 61)).drewN n).cell? ⟨W.heap.size, 0, none⟩ = some x ∧ ((W.alloc (.cells #[x, y, z] 61)).drewN n).cell? ⟨W.heap.size, 1, none⟩ = some y ∧ ((W.alloc (.cells #[x, y, z] 61)).drewN n).cell? ⟨W.heap.size, 2, none⟩ = some z ∧ W.heap.size < ((W.alloc (.cells #[x, y, z] 61)).drewN n).heap.size := by
  refine ⟨?_, ?_, ?_, ?_⟩
  · show (W.alloc _).cell? _ = _; simp
  · show (W.alloc _).cell? _ = _; simp
  · show (W.alloc _).cell? _ = _; simp
  · show W.heap.size < (W.alloc _).heap.size; simp
theorem Join_one (m : List UInt8) {W : World} {g : Nat} (p0 : W.cell? ⟨g, 0, none⟩ = some (.string (ofL m))) (hg : g < W.heap.size) (hm : m.length ≤ 100000) :
    Calls Tryd.prog 31 #[.slice (some ⟨g, 0, none⟩) 1 3, .string ⟨#[32]⟩] W fun e w' => e = .returned (.string (ofL m)) ∧ Below W.heap.size W w' := by
  have h := Tryd.strings_Join g 0 3 [ofL m] ⟨#[32]⟩ W (fun j x hx => by
    cases j with
    | zero => simp at hx; subst hx; exact p0
    | succ j => simp at hx) hg (by simp) (by simp) (by
      simp only [List.map_cons, List.map_nil, Lib.join_one]
      show (toL (ofL m)).length ≤ _
      rw [toL_ofL]; omega)
  refine h.mono ?_
  rintro e w' ⟨rfl, hb⟩
  refine ⟨?_, hb⟩
  simp only [List.map_cons, List.map_nil, Lib.join_one]
theorem Join_two (m t : List UInt8) {W : World} {g : Nat} (p0 : W.cell? ⟨g, 0, none⟩ = some (.string (ofL m))) (p1 : W.cell? ⟨g, 1, none⟩ = some (.string (ofL t))) (hg : g < W.heap.size) (hm : m.length ≤ 100000) (ht : t.length ≤ 100000) :
    Calls Tryd.prog 31 #[.slice (some ⟨g, 0, none⟩) 2 3, .string ⟨#[32]⟩] W fun e w' => e = .returned (.string (ofL (m ++ 32 :: t))) ∧ Below W.heap.size W w' := by
  have e : Lib.join ([ofL m, ofL t].map (·.data.toList)) (⟨#[32]⟩ : ByteArray).data.toList = m ++ 32 :: t := by
    show Lib.join [m, t] [32] = _
    rw [Lib.join_cons]; simp [Lib.joinTail]
  have h := Tryd.strings_Join g 0 3 [ofL m, ofL t] ⟨#[32]⟩ W (fun j x hx => by
    cases j with
    | zero => simp at hx; subst hx; exact p0
    | succ j => cases j with
      | zero => simp at hx; subst hx; exact p1
      | succ j => simp at hx) hg (by simp) (by simp) (by rw [e]; simp; omega)
  refine h.mono ?_
  rintro e' w' ⟨rfl, hb⟩
  rw [e]
  exact ⟨rfl, hb⟩
theorem at_end {z : Value} {s x y : Int} (h : x = y) : Ending.returned (.tuple #[z, .iface 104 (.agg #[.int .i64 s, .int .i64 x])]) = .returned (.tuple #[z, .iface 104 (.agg #[.int .i64 s, .int .i64 y])]) := by rw [h]
theorem res_cells {W : World} {g : Nat} (h : W.heap[g]? = some (.cells #[.string ⟨#[]⟩, .string ⟨#[]⟩, .int .i64 0] 24 (0, 0))) :
    W.cell? ⟨g, 0, none⟩ = some (.string ⟨#[]⟩) ∧ W.cell? ⟨g, 1, none⟩ = some (.string ⟨#[]⟩) ∧ W.cell? ⟨g, 2, none⟩ = some (.int .i64 0) ∧ W.frozen? ⟨g, 0, none⟩ = false ∧ W.frozen? ⟨g, 1, none⟩ = false ∧ W.frozen? ⟨g, 2, none⟩ = false := by
  refine ⟨?_, ?_, ?_, ?_, ?_, ?_⟩ <;> simp [World.cell?, World.frozen?, h]
theorem quiet_drawn {f : FuncId} {args : Array Value} {v : Value} (h : ∀ W, Calls Tryd.prog f args W fun e w' => e = .returned v ∧ Drawn0 W w') (W : World) (n : Nat) :
    Calls Tryd.prog f args (W.drewN n) fun e w'' => e = .returned v ∧ ∃ m, w'' = W.drewN m :=
  Calls.quiet_of ((h _).mono fun e w' ⟨h1, hd⟩ => ⟨h1, by obtain ⟨⟨k, rfl⟩⟩ := hd; exact ⟨k, rfl⟩⟩)

end Go.Proofs.YtiolgglipcijpaaDoor.RParse
end

section
namespace Go.Proofs.YtiolgglipcijpaaDoor.RParse
open Go Go.RowKit Go.Proofs.YtiolgglipcijpaaDoorW.PrintWords Go.Proofs.YtiolgglipcijpaaDoor.PB Go.Proofs.YtiolgglipcijpaaDoor.P Go.Proofs.YtiolgglipcijpaaDoor.LSpec Go.Proofs.YtiolgglipcijpaaDoor.RSpec
open Go.Proofs.YtiolgglipcijpaaDoor.ROct (tokB visB isTok isVis)

set_option maxHeartbeats 8000000 in
set_option maxRecDepth 100000 in
theorem Parse_r0 (s : ByteArray) (hs : s.size ≤ 100000) (m t v : List UInt8) (hm : m.length ≤ 100000) (ht : t.length ≤ 100000) (hsp : splitL 32 (toL s) = [m, t, v]) (h0 : isTok (ofL m) = false) (w : World) (hG : Glob w) :
    Calls Tryd.prog 12 #[.string s] w fun e w' => e = .returned (.tuple #[.agg #[.string ⟨#[]⟩, .string ⟨#[]⟩, .int .i64 0], .iface 104 (.agg #[.int .i64 400, .int .i64 0])]) ∧ Below w.heap.size w w' := by
  have hG1 : Glob (w.alloc (.cells #[.string ⟨#[]⟩, .string ⟨#[]⟩, .int .i64 0] 24)) := hG.below ((Below.refl _ _).alloc (Nat.le_refl _) _)
  obtain ⟨c0, c1, c2, c3, c4, c5, c6, c7, c8, c9, c10, c11⟩ := rule_cells hG m t v
  unfold W2 at c0 c1 c2 c3 c4 c5 c6 c7 c8 c9 c10 c11
  have i0 := rule0
  unfold rulesA at i0
  have sf := store_func
  have hR0 := Ready.first w m t v
  have k0 := ROct.IsToken_calls (ofL m) (by rw [size_ofL]; omega)
  rw [h0] at k0
  go_enter Tryd.func12, Tryd.ntmps12
  go_wp2_with (first | (go_at_call 29; refine (Split_three s hs m t v hsp _ hG1).mono ?_; rintro e w1 ⟨rfl, rfl⟩))
  clear c0 c1 c2 c3 c4 c5 c6 c7 c8 c9 c10 c11
  refine wp_loop_rounds 5 ?_
  generalize (w.alloc (.cells #[.string ⟨#[]⟩, .string ⟨#[]⟩, .int .i64 0] 24)).alloc (.cells #[.string (ofL m), .string (ofL t), .string (ofL v)] 9) = W0 at hR0 ⊢
  have hRR0 := hR0
  obtain ⟨q0, q1, q2, q3, q4, q5⟩ := hRR0
  obtain ⟨s0, s1, s2, z0, z1, z2⟩ := res_cells q0
  have q6 : w.heap.size < W0.heap.size := by omega
  rw [rounds_succ]
  go_wp2
  go_quiet (exact quiet_drawn k0 _ _)
  go_wp2_with (first | (go_at_call 31; refine (Tryd.strings_Join_none _ _ _ _).mono ?_; rintro e w1 ⟨rfl, rfl⟩) | (go_at_call 30; refine (New_calls _ _ _).mono ?_; rintro e w2 ⟨rfl, rfl⟩))
  refine bodyPost_ret (results_ct rfl _ _ w.heap.size 24 #[.string (⟨#[]⟩ : ByteArray), .string (⟨#[]⟩ : ByteArray), .int .i64 0] (0, 0) _ rfl (by refine blk_put (cs := #[.string (⟨#[]⟩ : ByteArray), .string (⟨#[]⟩ : ByteArray), .int .i64 0]) ?_ 2 _ rfl; refine blk_put (cs := #[.string (⟨#[]⟩ : ByteArray), .string (⟨#[]⟩ : ByteArray), .int .i64 0]) ?_ 1 _ rfl; refine blk_put (cs := #[.string (⟨#[]⟩ : ByteArray), .string (⟨#[]⟩ : ByteArray), .int .i64 0]) ?_ 0 _ rfl; exact (hR0.alloc _ |>.drewN _).res) Tryd.underlying24 rfl (by kernel_rfl)) rfl ?_
  exact ⟨rfl, below_set (below_set (below_set (hR0.alloc _ |>.drewN _).below (Nat.le_refl _)) (Nat.le_refl _)) (Nat.le_refl _)⟩


set_option maxHeartbeats 8000000 in
set_option maxRecDepth 100000 in
theorem Parse_r1 (s : ByteArray) (hs : s.size ≤ 100000) (m t v : List UInt8) (hm : m.length ≤ 100000) (ht : t.length ≤ 100000) (hsp : splitL 32 (toL s) = [m, t, v]) (h0 : isTok (ofL m) = true) (h1 : isVis (ofL t) = false) (w : World) (hG : Glob w) :
    Calls Tryd.prog 12 #[.string s] w fun e w' => e = .returned (.tuple #[.agg #[.string ⟨#[]⟩, .string ⟨#[]⟩, .int .i64 0], .iface 104 (.agg #[.int .i64 400, .int .i64 (m.length + 1 : Nat)])]) ∧ Below w.heap.size w w' := by
  have hG1 : Glob (w.alloc (.cells #[.string ⟨#[]⟩, .string ⟨#[]⟩, .int .i64 0] 24)) := hG.below ((Below.refl _ _).alloc (Nat.le_refl _) _)
  obtain ⟨c0, c1, c2, c3, c4, c5, c6, c7, c8, c9, c10, c11⟩ := rule_cells hG m t v
  unfold W2 at c0 c1 c2 c3 c4 c5 c6 c7 c8 c9 c10 c11
  have i0 := rule0
  have i1 := rule1
  unfold rulesA at i0 i1
  have sf := store_func
  have hR0 := Ready.first w m t v
  have k0 := ROct.IsToken_calls (ofL m) (by rw [size_ofL]; omega)
  rw [h0] at k0
  have k1 := ROct.rule1_calls (ofL t) (by rw [size_ofL]; omega)
  rw [h1] at k1
  go_enter Tryd.func12, Tryd.ntmps12
  go_wp2_with (first | (go_at_call 29; refine (Split_three s hs m t v hsp _ hG1).mono ?_; rintro e w1 ⟨rfl, rfl⟩))
  clear c0 c1 c2 c3 c4 c5 c6 c7 c8 c9 c10 c11
  refine wp_loop_rounds 5 ?_
  generalize (w.alloc (.cells #[.string ⟨#[]⟩, .string ⟨#[]⟩, .int .i64 0] 24)).alloc (.cells #[.string (ofL m), .string (ofL t), .string (ofL v)] 9) = W0 at hR0 ⊢
  have hRR0 := hR0
  obtain ⟨q0, q1, q2, q3, q4, q5⟩ := hRR0
  obtain ⟨s0, s1, s2, z0, z1, z2⟩ := res_cells q0
  have q6 : w.heap.size < W0.heap.size := by omega
  rw [rounds_succ]
  go_wp2
  go_quiet (exact quiet_drawn k0 _ _)
  go_wp2
  have hR1 := (hR0.alloc (.cells #[.int .i64 0, .func (.func 167) #[] #[], .int .i64 400] 61)).drewN nq
  clear q0 q1 q2 q3 q4 q5 s0 s1 s2 z0 z1 z2 q6
  generalize (W0.alloc (.cells #[.int .i64 0, .func (.func 167) #[] #[], .int .i64 400] 61)).drewN nq = W1 at hR1 ⊢
  have hRR1 := hR1
  obtain ⟨q0, q1, q2, q3, q4, q5⟩ := hRR1
  obtain ⟨s0, s1, s2, z0, z1, z2⟩ := res_cells q0
  have q6 : w.heap.size < W1.heap.size := by omega
  rw [rounds_succ]
  go_wp2
  go_quiet (exact quiet_drawn k1 _ _)
  have hRn := (hR1.alloc (.cells #[.int .i64 1, .func (.func 168) #[] #[], .int .i64 400] 61)).drewN nq
  have hC := row_cells W1 (.int .i64 1) (.func (.func 168) #[] #[]) (.int .i64 400) nq
  clear q0 q1 q2 q3 q4 q5 s0 s1 s2 z0 z1 z2 q6
  generalize hb : W1.heap.size = b at hC ⊢
  generalize (W1.alloc (.cells #[.int .i64 1, .func (.func 168) #[] #[], .int .i64 400] 61)).drewN nq = W2 at hRn hC ⊢
  obtain ⟨y0, y1, y2, yl⟩ := hC
  have hRR := hRn
  obtain ⟨q0, q1, q2, q3, q4, q5⟩ := hRR
  go_wp2_with (first | (go_at_call 31; refine (Join_one m (W := W2) q1 (by omega) hm).mono ?_; rintro e w1 ⟨rfl, hJ⟩; have x0 := (hJ.cell (p := ⟨b, 0, none⟩) yl).trans y0; have x2 := (hJ.cell (p := ⟨b, 2, none⟩) yl).trans y2; have hRJ := hRn.step hJ; have hRK := hRJ; obtain ⟨u0, u1, u2, u3, u4, u5⟩ := hRK; obtain ⟨s0, s1, s2, z0, z1, z2⟩ := res_cells u0) | (go_at_call 30; refine (New_calls _ _ _).mono ?_; rintro e w2 ⟨rfl, rfl⟩))
  refine bodyPost_ret (results_ct rfl _ _ w.heap.size 24 #[.string (⟨#[]⟩ : ByteArray), .string (⟨#[]⟩ : ByteArray), .int .i64 0] (0, 0) _ rfl (by refine blk_put (cs := #[.string (⟨#[]⟩ : ByteArray), .string (⟨#[]⟩ : ByteArray), .int .i64 0]) ?_ 2 _ rfl; refine blk_put (cs := #[.string (⟨#[]⟩ : ByteArray), .string (⟨#[]⟩ : ByteArray), .int .i64 0]) ?_ 1 _ rfl; refine blk_put (cs := #[.string (⟨#[]⟩ : ByteArray), .string (⟨#[]⟩ : ByteArray), .int .i64 0]) ?_ 0 _ rfl; exact u0) Tryd.underlying24 rfl (by kernel_rfl)) rfl ?_
  refine ⟨at_end ?_, below_set (below_set (below_set u5 (Nat.le_refl _)) (Nat.le_refl _)) (Nat.le_refl _)⟩
  rw [size_ofL, wrap64_ok (by omega) (by omega)]; omega



end Go.Proofs.YtiolgglipcijpaaDoor.RParse
end

section
namespace Go.Proofs.YtiolgglipcijpaaDoor.RParse
open Go Go.RowKit Go.Proofs.YtiolgglipcijpaaDoorW.PrintWords Go.Proofs.YtiolgglipcijpaaDoor.PB Go.Proofs.YtiolgglipcijpaaDoor.P Go.Proofs.YtiolgglipcijpaaDoor.LSpec Go.Proofs.YtiolgglipcijpaaDoor.RSpec
open Go.Proofs.YtiolgglipcijpaaDoor.ROct (tokB visB isTok isVis)

set_option maxHeartbeats 8000000 in
set_option maxRecDepth 100000 in
theorem Parse_r2 (s : ByteArray) (hs : s.size ≤ 100000) (m t v : List UInt8) (hm : m.length ≤ 100000) (ht : t.length ≤ 100000) (hsp : splitL 32 (toL s) = [m, t, v]) (h0 : isTok (ofL m) = true) (h1 : isVis (ofL t) = true) (h2 : verL v = false) (w : World) (hG : Glob w) :
    Calls Tryd.prog 12 #[.string s] w fun e w' => e = .returned (.tuple #[.agg #[.string ⟨#[]⟩, .string ⟨#[]⟩, .int .i64 0], .iface 104 (.agg #[.int .i64 400, .int .i64 (m.length + t.length + 2 : Nat)])]) ∧ Below w.heap.size w w' := by
  have hG1 : Glob (w.alloc (.cells #[.string ⟨#[]⟩, .string ⟨#[]⟩, .int .i64 0] 24)) := hG.below ((Below.refl _ _).alloc (Nat.le_refl _) _)
  obtain ⟨c0, c1, c2, c3, c4, c5, c6, c7, c8, c9, c10, c11⟩ := rule_cells hG m t v
  unfold W2 at c0 c1 c2 c3 c4 c5 c6 c7 c8 c9 c10 c11
  have i0 := rule0
  have i1 := rule1
  have i2 := rule2
  unfold rulesA at i0 i1 i2
  have sf := store_func
  have hR0 := Ready.first w m t v
  have k0 := ROct.IsToken_calls (ofL m) (by rw [size_ofL]; omega)
  rw [h0] at k0
  have k1 := ROct.rule1_calls (ofL t) (by rw [size_ofL]; omega)
  rw [h1] at k1
  have k2 := fun W => reqline_version.calls (ofL v) false W (by rw [version_f, toL_ofL, h2])
  go_enter Tryd.func12, Tryd.ntmps12
  go_wp2_with (first | (go_at_call 29; refine (Split_three s hs m t v hsp _ hG1).mono ?_; rintro e w1 ⟨rfl, rfl⟩))
  clear c0 c1 c2 c3 c4 c5 c6 c7 c8 c9 c10 c11
  refine wp_loop_rounds 5 ?_
  generalize (w.alloc (.cells #[.string ⟨#[]⟩, .string ⟨#[]⟩, .int .i64 0] 24)).alloc (.cells #[.string (ofL m), .string (ofL t), .string (ofL v)] 9) = W0 at hR0 ⊢
  have hRR0 := hR0
  obtain ⟨q0, q1, q2, q3, q4, q5⟩ := hRR0
  obtain ⟨s0, s1, s2, z0, z1, z2⟩ := res_cells q0
  have q6 : w.heap.size < W0.heap.size := by omega
  rw [rounds_succ]
  go_wp2
  go_quiet (exact quiet_drawn k0 _ _)
  go_wp2
  have hR1 := (hR0.alloc (.cells #[.int .i64 0, .func (.func 167) #[] #[], .int .i64 400] 61)).drewN nq
  clear q0 q1 q2 q3 q4 q5 s0 s1 s2 z0 z1 z2 q6
  generalize (W0.alloc (.cells #[.int .i64 0, .func (.func 167) #[] #[], .int .i64 400] 61)).drewN nq = W1 at hR1 ⊢
  have hRR1 := hR1
  obtain ⟨q0, q1, q2, q3, q4, q5⟩ := hRR1
  obtain ⟨s0, s1, s2, z0, z1, z2⟩ := res_cells q0
  have q6 : w.heap.size < W1.heap.size := by omega
  rw [rounds_succ]
  go_wp2
  go_quiet (exact quiet_drawn k1 _ _)
  go_wp2
  have hR2 := (hR1.alloc (.cells #[.int .i64 1, .func (.func 168) #[] #[], .int .i64 400] 61)).drewN nq
  clear q0 q1 q2 q3 q4 q5 s0 s1 s2 z0 z1 z2 q6
  generalize (W1.alloc (.cells #[.int .i64 1, .func (.func 168) #[] #[], .int .i64 400] 61)).drewN nq = W2 at hR2 ⊢
  have hRR2 := hR2
  obtain ⟨q0, q1, q2, q3, q4, q5⟩ := hRR2
  obtain ⟨s0, s1, s2, z0, z1, z2⟩ := res_cells q0
  have q6 : w.heap.size < W2.heap.size := by omega
  rw [rounds_succ]
  go_wp2
  go_quiet (exact quiet_drawn k2 _ _)
  have hRn := (hR2.alloc (.cells #[.int .i64 2, .func (.func 171) #[] #[], .int .i64 400] 61)).drewN nq
  have hC := row_cells W2 (.int .i64 2) (.func (.func 171) #[] #[]) (.int .i64 400) nq
  clear q0 q1 q2 q3 q4 q5 s0 s1 s2 z0 z1 z2 q6
  generalize hb : W2.heap.size = b at hC ⊢
  generalize (W2.alloc (.cells #[.int .i64 2, .func (.func 171) #[] #[], .int .i64 400] 61)).drewN nq = W3 at hRn hC ⊢
  obtain ⟨y0, y1, y2, yl⟩ := hC
  have hRR := hRn
  obtain ⟨q0, q1, q2, q3, q4, q5⟩ := hRR
  go_wp2_with (first | (go_at_call 31; refine (Join_two m t (W := W3) q1 q2 (by omega) hm ht).mono ?_; rintro e w1 ⟨rfl, hJ⟩; have x0 := (hJ.cell (p := ⟨b, 0, none⟩) yl).trans y0; have x2 := (hJ.cell (p := ⟨b, 2, none⟩) yl).trans y2; have hRJ := hRn.step hJ; have hRK := hRJ; obtain ⟨u0, u1, u2, u3, u4, u5⟩ := hRK; obtain ⟨s0, s1, s2, z0, z1, z2⟩ := res_cells u0) | (go_at_call 30; refine (New_calls _ _ _).mono ?_; rintro e w2 ⟨rfl, rfl⟩))
  refine bodyPost_ret (results_ct rfl _ _ w.heap.size 24 #[.string (⟨#[]⟩ : ByteArray), .string (⟨#[]⟩ : ByteArray), .int .i64 0] (0, 0) _ rfl (by refine blk_put (cs := #[.string (⟨#[]⟩ : ByteArray), .string (⟨#[]⟩ : ByteArray), .int .i64 0]) ?_ 2 _ rfl; refine blk_put (cs := #[.string (⟨#[]⟩ : ByteArray), .string (⟨#[]⟩ : ByteArray), .int .i64 0]) ?_ 1 _ rfl; refine blk_put (cs := #[.string (⟨#[]⟩ : ByteArray), .string (⟨#[]⟩ : ByteArray), .int .i64 0]) ?_ 0 _ rfl; exact u0) Tryd.underlying24 rfl (by kernel_rfl)) rfl ?_
  refine ⟨at_end ?_, below_set (below_set (below_set u5 (Nat.le_refl _)) (Nat.le_refl _)) (Nat.le_refl _)⟩
  have e : (m ++ 32 :: t).length = m.length + t.length + 1 := by simp; omega
  rw [size_ofL, e, wrap64_ok (by omega) (by omega)]; omega


set_option maxHeartbeats 8000000 in
set_option maxRecDepth 100000 in
theorem Parse_r3 (s : ByteArray) (hs : s.size ≤ 100000) (m t v : List UInt8) (hm : m.length ≤ 100000) (ht : t.length ≤ 100000) (hsp : splitL 32 (toL s) = [m, t, v]) (h0 : isTok (ofL m) = true) (h1 : isVis (ofL t) = true) (h2 : verL v = true) (h3 : supL v = false) (w : World) (hG : Glob w) :
    Calls Tryd.prog 12 #[.string s] w fun e w' => e = .returned (.tuple #[.agg #[.string ⟨#[]⟩, .string ⟨#[]⟩, .int .i64 0], .iface 104 (.agg #[.int .i64 505, .int .i64 (m.length + t.length + 2 : Nat)])]) ∧ Below w.heap.size w w' := by
  have hG1 : Glob (w.alloc (.cells #[.string ⟨#[]⟩, .string ⟨#[]⟩, .int .i64 0] 24)) := hG.below ((Below.refl _ _).alloc (Nat.le_refl _) _)
  obtain ⟨c0, c1, c2, c3, c4, c5, c6, c7, c8, c9, c10, c11⟩ := rule_cells hG m t v
  unfold W2 at c0 c1 c2 c3 c4 c5 c6 c7 c8 c9 c10 c11
  have i0 := rule0
  have i1 := rule1
  have i2 := rule2
  have i3 := rule3
  unfold rulesA at i0 i1 i2 i3
  have sf := store_func
  have hR0 := Ready.first w m t v
  have k0 := ROct.IsToken_calls (ofL m) (by rw [size_ofL]; omega)
  rw [h0] at k0
  have k1 := ROct.rule1_calls (ofL t) (by rw [size_ofL]; omega)
  rw [h1] at k1
  have k2 := fun W => reqline_version.calls (ofL v) true W (by rw [version_f, toL_ofL, h2])
  have k3 := fun W => reqline_supported.calls (ofL v) false W (by rw [supported_f, toL_ofL, h3])
  go_enter Tryd.func12, Tryd.ntmps12
  go_wp2_with (first | (go_at_call 29; refine (Split_three s hs m t v hsp _ hG1).mono ?_; rintro e w1 ⟨rfl, rfl⟩))
  clear c0 c1 c2 c3 c4 c5 c6 c7 c8 c9 c10 c11
  refine wp_loop_rounds 5 ?_
  generalize (w.alloc (.cells #[.string ⟨#[]⟩, .string ⟨#[]⟩, .int .i64 0] 24)).alloc (.cells #[.string (ofL m), .string (ofL t), .string (ofL v)] 9) = W0 at hR0 ⊢
  have hRR0 := hR0
  obtain ⟨q0, q1, q2, q3, q4, q5⟩ := hRR0
  obtain ⟨s0, s1, s2, z0, z1, z2⟩ := res_cells q0
  have q6 : w.heap.size < W0.heap.size := by omega
  rw [rounds_succ]
  go_wp2
  go_quiet (exact quiet_drawn k0 _ _)
  go_wp2
  have hR1 := (hR0.alloc (.cells #[.int .i64 0, .func (.func 167) #[] #[], .int .i64 400] 61)).drewN nq
  clear q0 q1 q2 q3 q4 q5 s0 s1 s2 z0 z1 z2 q6
  generalize (W0.alloc (.cells #[.int .i64 0, .func (.func 167) #[] #[], .int .i64 400] 61)).drewN nq = W1 at hR1 ⊢
  have hRR1 := hR1
  obtain ⟨q0, q1, q2, q3, q4, q5⟩ := hRR1
  obtain ⟨s0, s1, s2, z0, z1, z2⟩ := res_cells q0
  have q6 : w.heap.size < W1.heap.size := by omega
  rw [rounds_succ]
  go_wp2
  go_quiet (exact quiet_drawn k1 _ _)
  go_wp2
  have hR2 := (hR1.alloc (.cells #[.int .i64 1, .func (.func 168) #[] #[], .int .i64 400] 61)).drewN nq
  clear q0 q1 q2 q3 q4 q5 s0 s1 s2 z0 z1 z2 q6
  generalize (W1.alloc (.cells #[.int .i64 1, .func (.func 168) #[] #[], .int .i64 400] 61)).drewN nq = W2 at hR2 ⊢
  have hRR2 := hR2
  obtain ⟨q0, q1, q2, q3, q4, q5⟩ := hRR2
  obtain ⟨s0, s1, s2, z0, z1, z2⟩ := res_cells q0
  have q6 : w.heap.size < W2.heap.size := by omega
  rw [rounds_succ]
  go_wp2
  go_quiet (exact quiet_drawn k2 _ _)
  go_wp2
  have hR3 := (hR2.alloc (.cells #[.int .i64 2, .func (.func 171) #[] #[], .int .i64 400] 61)).drewN nq
  clear q0 q1 q2 q3 q4 q5 s0 s1 s2 z0 z1 z2 q6
  generalize (W2.alloc (.cells #[.int .i64 2, .func (.func 171) #[] #[], .int .i64 400] 61)).drewN nq = W3 at hR3 ⊢
  have hRR3 := hR3
  obtain ⟨q0, q1, q2, q3, q4, q5⟩ := hRR3
  obtain ⟨s0, s1, s2, z0, z1, z2⟩ := res_cells q0
  have q6 : w.heap.size < W3.heap.size := by omega
  rw [rounds_succ]
  go_wp2
  go_quiet (exact quiet_drawn k3 _ _)
  have hRn := (hR3.alloc (.cells #[.int .i64 2, .func (.func 172) #[] #[], .int .i64 505] 61)).drewN nq
  have hC := row_cells W3 (.int .i64 2) (.func (.func 172) #[] #[]) (.int .i64 505) nq
  clear q0 q1 q2 q3 q4 q5 s0 s1 s2 z0 z1 z2 q6
  generalize hb : W3.heap.size = b at hC ⊢
  generalize (W3.alloc (.cells #[.int .i64 2, .func (.func 172) #[] #[], .int .i64 505] 61)).drewN nq = W4 at hRn hC ⊢
  obtain ⟨y0, y1, y2, yl⟩ := hC
  have hRR := hRn
  obtain ⟨q0, q1, q2, q3, q4, q5⟩ := hRR
  go_wp2_with (first | (go_at_call 31; refine (Join_two m t (W := W4) q1 q2 (by omega) hm ht).mono ?_; rintro e w1 ⟨rfl, hJ⟩; have x0 := (hJ.cell (p := ⟨b, 0, none⟩) yl).trans y0; have x2 := (hJ.cell (p := ⟨b, 2, none⟩) yl).trans y2; have hRJ := hRn.step hJ; have hRK := hRJ; obtain ⟨u0, u1, u2, u3, u4, u5⟩ := hRK; obtain ⟨s0, s1, s2, z0, z1, z2⟩ := res_cells u0) | (go_at_call 30; refine (New_calls _ _ _).mono ?_; rintro e w2 ⟨rfl, rfl⟩))
  refine bodyPost_ret (results_ct rfl _ _ w.heap.size 24 #[.string (⟨#[]⟩ : ByteArray), .string (⟨#[]⟩ : ByteArray), .int .i64 0] (0, 0) _ rfl (by refine blk_put (cs := #[.string (⟨#[]⟩ : ByteArray), .string (⟨#[]⟩ : ByteArray), .int .i64 0]) ?_ 2 _ rfl; refine blk_put (cs := #[.string (⟨#[]⟩ : ByteArray), .string (⟨#[]⟩ : ByteArray), .int .i64 0]) ?_ 1 _ rfl; refine blk_put (cs := #[.string (⟨#[]⟩ : ByteArray), .string (⟨#[]⟩ : ByteArray), .int .i64 0]) ?_ 0 _ rfl; exact u0) Tryd.underlying24 rfl (by kernel_rfl)) rfl ?_
  refine ⟨at_end ?_, below_set (below_set (below_set u5 (Nat.le_refl _)) (Nat.le_refl _)) (Nat.le_refl _)⟩
  have e : (m ++ 32 :: t).length = m.length + t.length + 1 := by simp; omega
  rw [size_ofL, e, wrap64_ok (by omega) (by omega)]; omega



end Go.Proofs.YtiolgglipcijpaaDoor.RParse
end

section
namespace Go.Proofs.YtiolgglipcijpaaDoor.RParse
open Go Go.RowKit Go.Proofs.YtiolgglipcijpaaDoorW.PrintWords Go.Proofs.YtiolgglipcijpaaDoor.PB Go.Proofs.YtiolgglipcijpaaDoor.P Go.Proofs.YtiolgglipcijpaaDoor.LSpec Go.Proofs.YtiolgglipcijpaaDoor.RSpec
open Go.Proofs.YtiolgglipcijpaaDoor.ROct (tokB visB isTok isVis)

set_option maxHeartbeats 8000000 in
set_option maxRecDepth 100000 in
theorem Parse_ok0 (s : ByteArray) (hs : s.size ≤ 100000) (m t v : List UInt8) (hm : m.length ≤ 100000) (ht : t.length ≤ 100000) (hsp : splitL 32 (toL s) = [m, t, v]) (h0 : isTok (ofL m) = true) (h1 : isVis (ofL t) = true) (h2 : verL v = true) (h3 : supL v = true) (n : Nat) (hn : n < s.size) (hn1 : s.size = n + 1) (hd : s[n].toNat = 48) (w : World) (hG : Glob w) :
    Calls Tryd.prog 12 #[.string s] w fun e w' => e = .returned (.tuple #[.agg #[.string (ofL m), .string (ofL t), .int .i64 0], .nilIface]) ∧ Below w.heap.size w w' := by
  have hG1 : Glob (w.alloc (.cells #[.string ⟨#[]⟩, .string ⟨#[]⟩, .int .i64 0] 24)) := hG.below ((Below.refl _ _).alloc (Nat.le_refl _) _)
  obtain ⟨c0, c1, c2, c3, c4, c5, c6, c7, c8, c9, c10, c11⟩ := rule_cells hG m t v
  unfold W2 at c0 c1 c2 c3 c4 c5 c6 c7 c8 c9 c10 c11
  have i0 := rule0
  have i1 := rule1
  have i2 := rule2
  have i3 := rule3
  unfold rulesA at i0 i1 i2 i3
  have sf := store_func
  have hR0 := Ready.first w m t v
  have k0 := ROct.IsToken_calls (ofL m) (by rw [size_ofL]; omega)
  rw [h0] at k0
  have k1 := ROct.rule1_calls (ofL t) (by rw [size_ofL]; omega)
  rw [h1] at k1
  have k2 := fun W => reqline_version.calls (ofL v) true W (by rw [version_f, toL_ofL, h2])
  have k3 := fun W => reqline_supported.calls (ofL v) true W (by rw [supported_f, toL_ofL, h3])
  have hw : wrap64 ((s.size : Int) - 1) = (n : Int) := by rw [wrap64_ok (by omega) (by omega)]; omega
  have hw2 : IntKind.i64.wrap ((s.size : Int) - 1) = (n : Int) := (show IntKind.i64.wrap _ = wrap64 _ by unfold Go.RowKit.wrap64; exact IntKind.wrap_i64 _).trans hw
  clear hn1
  go_enter Tryd.func12, Tryd.ntmps12
  go_wp2_with (first | (go_at_call 29; refine (Split_three s hs m t v hsp _ hG1).mono ?_; rintro e w1 ⟨rfl, rfl⟩))
  clear c0 c1 c2 c3 c4 c5 c6 c7 c8 c9 c10 c11
  refine wp_loop_rounds 5 ?_
  generalize (w.alloc (.cells #[.string ⟨#[]⟩, .string ⟨#[]⟩, .int .i64 0] 24)).alloc (.cells #[.string (ofL m), .string (ofL t), .string (ofL v)] 9) = W0 at hR0 ⊢
  have hRR0 := hR0
  obtain ⟨q0, q1, q2, q3, q4, q5⟩ := hRR0
  obtain ⟨s0, s1, s2, z0, z1, z2⟩ := res_cells q0
  have q6 : w.heap.size < W0.heap.size := by omega
  rw [rounds_succ]
  go_wp2
  go_quiet (exact quiet_drawn k0 _ _)
  go_wp2
  have hR1 := (hR0.alloc (.cells #[.int .i64 0, .func (.func 167) #[] #[], .int .i64 400] 61)).drewN nq
  clear q0 q1 q2 q3 q4 q5 s0 s1 s2 z0 z1 z2 q6
  generalize (W0.alloc (.cells #[.int .i64 0, .func (.func 167) #[] #[], .int .i64 400] 61)).drewN nq = W1 at hR1 ⊢
  have hRR1 := hR1
  obtain ⟨q0, q1, q2, q3, q4, q5⟩ := hRR1
  obtain ⟨s0, s1, s2, z0, z1, z2⟩ := res_cells q0
  have q6 : w.heap.size < W1.heap.size := by omega
  rw [rounds_succ]
  go_wp2
  go_quiet (exact quiet_drawn k1 _ _)
  go_wp2
  have hR2 := (hR1.alloc (.cells #[.int .i64 1, .func (.func 168) #[] #[], .int .i64 400] 61)).drewN nq
  clear q0 q1 q2 q3 q4 q5 s0 s1 s2 z0 z1 z2 q6
  generalize (W1.alloc (.cells #[.int .i64 1, .func (.func 168) #[] #[], .int .i64 400] 61)).drewN nq = W2 at hR2 ⊢
  have hRR2 := hR2
  obtain ⟨q0, q1, q2, q3, q4, q5⟩ := hRR2
  obtain ⟨s0, s1, s2, z0, z1, z2⟩ := res_cells q0
  have q6 : w.heap.size < W2.heap.size := by omega
  rw [rounds_succ]
  go_wp2
  go_quiet (exact quiet_drawn k2 _ _)
  go_wp2
  have hR3 := (hR2.alloc (.cells #[.int .i64 2, .func (.func 171) #[] #[], .int .i64 400] 61)).drewN nq
  clear q0 q1 q2 q3 q4 q5 s0 s1 s2 z0 z1 z2 q6
  generalize (W2.alloc (.cells #[.int .i64 2, .func (.func 171) #[] #[], .int .i64 400] 61)).drewN nq = W3 at hR3 ⊢
  have hRR3 := hR3
  obtain ⟨q0, q1, q2, q3, q4, q5⟩ := hRR3
  obtain ⟨s0, s1, s2, z0, z1, z2⟩ := res_cells q0
  have q6 : w.heap.size < W3.heap.size := by omega
  rw [rounds_succ]
  go_wp2
  go_quiet (exact quiet_drawn k3 _ _)
  go_wp2
  have hR4 := (hR3.alloc (.cells #[.int .i64 2, .func (.func 172) #[] #[], .int .i64 505] 61)).drewN nq
  clear q0 q1 q2 q3 q4 q5 s0 s1 s2 z0 z1 z2 q6
  generalize (W3.alloc (.cells #[.int .i64 2, .func (.func 172) #[] #[], .int .i64 505] 61)).drewN nq = W4 at hR4 ⊢
  have hRR4 := hR4
  obtain ⟨q0, q1, q2, q3, q4, q5⟩ := hRR4
  obtain ⟨s0, s1, s2, z0, z1, z2⟩ := res_cells q0
  have q6 : w.heap.size < W4.heap.size := by omega
  rw [rounds_succ]
  go_wp2
  go_still_tail 14, (by kernel_rfl)
  change wpList _ _ _ _ _ W4.drew
  have hR5 := hR4.drewN 1
  change Ready w W4.drew m t v at hR5
  clear q0 q1 q2 q3 q4 q5 s0 s1 s2 z0 z1 z2 q6
  generalize W4.drew = W5 at hR5 ⊢
  have hRR5 := hR5
  obtain ⟨q0, q1, q2, q3, q4, q5⟩ := hRR5
  obtain ⟨s0, s1, s2, z0, z1, z2⟩ := res_cells q0
  have q6 : w.heap.size < W5.heap.size := by omega
  go_wp2
  refine bodyPost_ret (results_ct rfl _ _ w.heap.size 24 #[.string (ofL m), .string (ofL t), .int .i64 0] (0, 0) _ rfl (by refine blk_put (cs := #[.string (ofL m), .string (ofL t), .int .i64 0]) ?_ 2 _ rfl; refine blk_put (cs := #[.string (ofL m), .string (⟨#[]⟩ : ByteArray), .int .i64 0]) ?_ 1 _ rfl; refine blk_put (cs := #[.string (⟨#[]⟩ : ByteArray), .string (⟨#[]⟩ : ByteArray), .int .i64 0]) ?_ 0 _ rfl; exact q0) Tryd.underlying24 rfl (by kernel_rfl)) rfl ?_
  exact ⟨rfl, below_set (below_set (below_set q5 (Nat.le_refl _)) (Nat.le_refl _)) (Nat.le_refl _)⟩


set_option maxHeartbeats 8000000 in
set_option maxRecDepth 100000 in
theorem Parse_ok1 (s : ByteArray) (hs : s.size ≤ 100000) (m t v : List UInt8) (hm : m.length ≤ 100000) (ht : t.length ≤ 100000) (hsp : splitL 32 (toL s) = [m, t, v]) (h0 : isTok (ofL m) = true) (h1 : isVis (ofL t) = true) (h2 : verL v = true) (h3 : supL v = true) (n : Nat) (hn : n < s.size) (hn1 : s.size = n + 1) (hd : s[n].toNat = 49) (w : World) (hG : Glob w) :
    Calls Tryd.prog 12 #[.string s] w fun e w' => e = .returned (.tuple #[.agg #[.string (ofL m), .string (ofL t), .int .i64 1], .nilIface]) ∧ Below w.heap.size w w' := by
  have hG1 : Glob (w.alloc (.cells #[.string ⟨#[]⟩, .string ⟨#[]⟩, .int .i64 0] 24)) := hG.below ((Below.refl _ _).alloc (Nat.le_refl _) _)
  obtain ⟨c0, c1, c2, c3, c4, c5, c6, c7, c8, c9, c10, c11⟩ := rule_cells hG m t v
  unfold W2 at c0 c1 c2 c3 c4 c5 c6 c7 c8 c9 c10 c11
  have i0 := rule0
  have i1 := rule1
  have i2 := rule2
  have i3 := rule3
  unfold rulesA at i0 i1 i2 i3
  have sf := store_func
  have hR0 := Ready.first w m t v
  have k0 := ROct.IsToken_calls (ofL m) (by rw [size_ofL]; omega)
  rw [h0] at k0
  have k1 := ROct.rule1_calls (ofL t) (by rw [size_ofL]; omega)
  rw [h1] at k1
  have k2 := fun W => reqline_version.calls (ofL v) true W (by rw [version_f, toL_ofL, h2])
  have k3 := fun W => reqline_supported.calls (ofL v) true W (by rw [supported_f, toL_ofL, h3])
  have hw : wrap64 ((s.size : Int) - 1) = (n : Int) := by rw [wrap64_ok (by omega) (by omega)]; omega
  have hw2 : IntKind.i64.wrap ((s.size : Int) - 1) = (n : Int) := (show IntKind.i64.wrap _ = wrap64 _ by unfold Go.RowKit.wrap64; exact IntKind.wrap_i64 _).trans hw
  clear hn1
  go_enter Tryd.func12, Tryd.ntmps12
  go_wp2_with (first | (go_at_call 29; refine (Split_three s hs m t v hsp _ hG1).mono ?_; rintro e w1 ⟨rfl, rfl⟩))
  clear c0 c1 c2 c3 c4 c5 c6 c7 c8 c9 c10 c11
  refine wp_loop_rounds 5 ?_
  generalize (w.alloc (.cells #[.string ⟨#[]⟩, .string ⟨#[]⟩, .int .i64 0] 24)).alloc (.cells #[.string (ofL m), .string (ofL t), .string (ofL v)] 9) = W0 at hR0 ⊢
  have hRR0 := hR0
  obtain ⟨q0, q1, q2, q3, q4, q5⟩ := hRR0
  obtain ⟨s0, s1, s2, z0, z1, z2⟩ := res_cells q0
  have q6 : w.heap.size < W0.heap.size := by omega
  rw [rounds_succ]
  go_wp2
  go_quiet (exact quiet_drawn k0 _ _)
  go_wp2
  have hR1 := (hR0.alloc (.cells #[.int .i64 0, .func (.func 167) #[] #[], .int .i64 400] 61)).drewN nq
  clear q0 q1 q2 q3 q4 q5 s0 s1 s2 z0 z1 z2 q6
  generalize (W0.alloc (.cells #[.int .i64 0, .func (.func 167) #[] #[], .int .i64 400] 61)).drewN nq = W1 at hR1 ⊢
  have hRR1 := hR1
  obtain ⟨q0, q1, q2, q3, q4, q5⟩ := hRR1
  obtain ⟨s0, s1, s2, z0, z1, z2⟩ := res_cells q0
  have q6 : w.heap.size < W1.heap.size := by omega
  rw [rounds_succ]
  go_wp2
  go_quiet (exact quiet_drawn k1 _ _)
  go_wp2
  have hR2 := (hR1.alloc (.cells #[.int .i64 1, .func (.func 168) #[] #[], .int .i64 400] 61)).drewN nq
  clear q0 q1 q2 q3 q4 q5 s0 s1 s2 z0 z1 z2 q6
  generalize (W1.alloc (.cells #[.int .i64 1, .func (.func 168) #[] #[], .int .i64 400] 61)).drewN nq = W2 at hR2 ⊢
  have hRR2 := hR2
  obtain ⟨q0, q1, q2, q3, q4, q5⟩ := hRR2
  obtain ⟨s0, s1, s2, z0, z1, z2⟩ := res_cells q0
  have q6 : w.heap.size < W2.heap.size := by omega
  rw [rounds_succ]
  go_wp2
  go_quiet (exact quiet_drawn k2 _ _)
  go_wp2
  have hR3 := (hR2.alloc (.cells #[.int .i64 2, .func (.func 171) #[] #[], .int .i64 400] 61)).drewN nq
  clear q0 q1 q2 q3 q4 q5 s0 s1 s2 z0 z1 z2 q6
  generalize (W2.alloc (.cells #[.int .i64 2, .func (.func 171) #[] #[], .int .i64 400] 61)).drewN nq = W3 at hR3 ⊢
  have hRR3 := hR3
  obtain ⟨q0, q1, q2, q3, q4, q5⟩ := hRR3
  obtain ⟨s0, s1, s2, z0, z1, z2⟩ := res_cells q0
  have q6 : w.heap.size < W3.heap.size := by omega
  rw [rounds_succ]
  go_wp2
  go_quiet (exact quiet_drawn k3 _ _)
  go_wp2
  have hR4 := (hR3.alloc (.cells #[.int .i64 2, .func (.func 172) #[] #[], .int .i64 505] 61)).drewN nq
  clear q0 q1 q2 q3 q4 q5 s0 s1 s2 z0 z1 z2 q6
  generalize (W3.alloc (.cells #[.int .i64 2, .func (.func 172) #[] #[], .int .i64 505] 61)).drewN nq = W4 at hR4 ⊢
  have hRR4 := hR4
  obtain ⟨q0, q1, q2, q3, q4, q5⟩ := hRR4
  obtain ⟨s0, s1, s2, z0, z1, z2⟩ := res_cells q0
  have q6 : w.heap.size < W4.heap.size := by omega
  rw [rounds_succ]
  go_wp2
  go_still_tail 14, (by kernel_rfl)
  change wpList _ _ _ _ _ W4.drew
  have hR5 := hR4.drewN 1
  change Ready w W4.drew m t v at hR5
  clear q0 q1 q2 q3 q4 q5 s0 s1 s2 z0 z1 z2 q6
  generalize W4.drew = W5 at hR5 ⊢
  have hRR5 := hR5
  obtain ⟨q0, q1, q2, q3, q4, q5⟩ := hRR5
  obtain ⟨s0, s1, s2, z0, z1, z2⟩ := res_cells q0
  have q6 : w.heap.size < W5.heap.size := by omega
  go_wp2
  refine bodyPost_ret (results_ct rfl _ _ w.heap.size 24 #[.string (ofL m), .string (ofL t), .int .i64 1] (0, 0) _ rfl (by refine blk_put (cs := #[.string (ofL m), .string (ofL t), .int .i64 0]) ?_ 2 _ rfl; refine blk_put (cs := #[.string (ofL m), .string (⟨#[]⟩ : ByteArray), .int .i64 0]) ?_ 1 _ rfl; refine blk_put (cs := #[.string (⟨#[]⟩ : ByteArray), .string (⟨#[]⟩ : ByteArray), .int .i64 0]) ?_ 0 _ rfl; exact q0) Tryd.underlying24 rfl (by kernel_rfl)) rfl ?_
  exact ⟨rfl, below_set (below_set (below_set q5 (Nat.le_refl _)) (Nat.le_refl _)) (Nat.le_refl _)⟩



end Go.Proofs.YtiolgglipcijpaaDoor.RParse
end

section
namespace Go.Proofs.YtiolgglipcijpaaDoor.P
open Go Go.RowKit Go.Maps Go.WideMaps Go.Proofs.YtiolgglipcijpaaDoorW.PrintWords

theorem le_max {n : Nat} (h : n ≤ 100) : n ≤ maxLen := by unfold maxLen; omega
theorem lt_max {n : Nat} (h : n < 100) : n < maxLen := by unfold maxLen; omega
def kd (D : DataW Unit) (l : List UInt8) (v : Int) : DataW Unit := D.put (.string l) (.lit (.int .i64 v))
/-- what the map reads as. -/
def KD : DataW Unit := kd (kd (kd (kd (kd (kd (kd (kd (kd (.map []) [71, 69, 84] 1) [72, 69, 65, 68] 2) [79, 80, 84, 73, 79, 78, 83] 3) [80, 79, 83, 84] 4) [80, 85, 84] 4) [68, 69, 76, 69, 84, 69] 4) [80, 65, 84, 67, 72] 4) [84, 82, 65, 67, 69] 4) [67, 79, 78, 78, 69, 67, 84] 4

theorem ix0 (w : World) : (Instr.index 72 (.agg #[.string ⟨#[80, 79, 83, 84]⟩, .string ⟨#[80, 85, 84]⟩, .string ⟨#[68, 69, 76, 69, 84, 69]⟩, .string ⟨#[80, 65, 84, 67, 72]⟩, .string ⟨#[84, 82, 65, 67, 69]⟩, .string ⟨#[67, 79, 78, 78, 69, 67, 84]⟩]) (.int .i64 0)).run Tryd.prog w = .ok (.string ⟨#[80, 79, 83, 84]⟩) w := by kernel_rfl
theorem ix1 (w : World) : (Instr.index 72 (.agg #[.string ⟨#[80, 79, 83, 84]⟩, .string ⟨#[80, 85, 84]⟩, .string ⟨#[68, 69, 76, 69, 84, 69]⟩, .string ⟨#[80, 65, 84, 67, 72]⟩, .string ⟨#[84, 82, 65, 67, 69]⟩, .string ⟨#[67, 79, 78, 78, 69, 67, 84]⟩]) (.int .i64 1)).run Tryd.prog w = .ok (.string ⟨#[80, 85, 84]⟩) w := by kernel_rfl
theorem ix2 (w : World) : (Instr.index 72 (.agg #[.string ⟨#[80, 79, 83, 84]⟩, .string ⟨#[80, 85, 84]⟩, .string ⟨#[68, 69, 76, 69, 84, 69]⟩, .string ⟨#[80, 65, 84, 67, 72]⟩, .string ⟨#[84, 82, 65, 67, 69]⟩, .string ⟨#[67, 79, 78, 78, 69, 67, 84]⟩]) (.int .i64 2)).run Tryd.prog w = .ok (.string ⟨#[68, 69, 76, 69, 84, 69]⟩) w := by kernel_rfl
theorem ix3 (w : World) : (Instr.index 72 (.agg #[.string ⟨#[80, 79, 83, 84]⟩, .string ⟨#[80, 85, 84]⟩, .string ⟨#[68, 69, 76, 69, 84, 69]⟩, .string ⟨#[80, 65, 84, 67, 72]⟩, .string ⟨#[84, 82, 65, 67, 69]⟩, .string ⟨#[67, 79, 78, 78, 69, 67, 84]⟩]) (.int .i64 3)).run Tryd.prog w = .ok (.string ⟨#[80, 65, 84, 67, 72]⟩) w := by kernel_rfl
theorem ix4 (w : World) : (Instr.index 72 (.agg #[.string ⟨#[80, 79, 83, 84]⟩, .string ⟨#[80, 85, 84]⟩, .string ⟨#[68, 69, 76, 69, 84, 69]⟩, .string ⟨#[80, 65, 84, 67, 72]⟩, .string ⟨#[84, 82, 65, 67, 69]⟩, .string ⟨#[67, 79, 78, 78, 69, 67, 84]⟩]) (.int .i64 4)).run Tryd.prog w = .ok (.string ⟨#[84, 82, 65, 67, 69]⟩) w := by kernel_rfl
theorem ix5 (w : World) : (Instr.index 72 (.agg #[.string ⟨#[80, 79, 83, 84]⟩, .string ⟨#[80, 85, 84]⟩, .string ⟨#[68, 69, 76, 69, 84, 69]⟩, .string ⟨#[80, 65, 84, 67, 72]⟩, .string ⟨#[84, 82, 65, 67, 69]⟩, .string ⟨#[67, 79, 78, 78, 69, 67, 84]⟩]) (.int .i64 5)).run Tryd.prog w = .ok (.string ⟨#[67, 79, 78, 78, 69, 67, 84]⟩) w := by kernel_rfl
set_option maxRecDepth 100000 in
theorem kinds_calls (w : World) (hG : Glob w) : Calls Tryd.prog 36 #[] w fun e w' => ∃ b, e = .returned (.map (some b)) ∧ w.heap.size ≤ b ∧ w'.ownsMap (H := Unit) Tryd.prog 9 (plainElem Tryd.prog 3) b 9 KD ∧ Below w.heap.size w w' := by
  have g0 : w.cell? ⟨1, 0, none⟩ = some (.string ⟨#[80, 79, 83, 84]⟩) := hG.others 0 (by omega)
  have g1 : w.cell? ⟨1, 1, none⟩ = some (.string ⟨#[80, 85, 84]⟩) := hG.others 1 (by omega)
  have g2 : w.cell? ⟨1, 2, none⟩ = some (.string ⟨#[68, 69, 76, 69, 84, 69]⟩) := hG.others 2 (by omega)
  have g3 : w.cell? ⟨1, 3, none⟩ = some (.string ⟨#[80, 65, 84, 67, 72]⟩) := hG.others 3 (by omega)
  have g4 : w.cell? ⟨1, 4, none⟩ = some (.string ⟨#[84, 82, 65, 67, 69]⟩) := hG.others 4 (by omega)
  have g5 : w.cell? ⟨1, 5, none⟩ = some (.string ⟨#[67, 79, 78, 78, 69, 67, 84]⟩) := hG.others 5 (by omega)
  have hlt : 1 < w.heap.size := World.block_lt_of_cell? w _ g0
  have hmm := @run_makeMap Tryd.prog
  have o0 := World.ownsMap_made (H := Unit) w Tryd.prog 9 (plainElem Tryd.prog 3)
  have b0 := (Below.refl w.heap.size w).alloc (Nat.le_refl _) (.map #[] 0)
  obtain ⟨w1, r1, o1, u1⟩ := o0.update (string_keyed Tryd.underlying9) Tryd.underlying70 (lt_max (by decide)) (key := .string ⟨#[71, 69, 84]⟩) (val := .int .i64 1) (keyOf_string_mk Tryd.underlying9 (le_max (by decide))) (plainElem_int Tryd.underlying3 (by decide))
  have b1 := Below.grown b0 u1 b0.size (fun k hk => by cases hk; exact Nat.le_refl _)
  obtain ⟨w2, r2, o2, u2⟩ := o1.update (string_keyed Tryd.underlying9) Tryd.underlying70 (lt_max (by decide)) (key := .string ⟨#[72, 69, 65, 68]⟩) (val := .int .i64 2) (keyOf_string_mk Tryd.underlying9 (le_max (by decide))) (plainElem_int Tryd.underlying3 (by decide))
  have b2 := Below.grown b1 u2 b1.size (fun k hk => by cases hk; exact Nat.le_refl _)
  obtain ⟨w3, r3, o3, u3⟩ := o2.update (string_keyed Tryd.underlying9) Tryd.underlying70 (lt_max (by decide)) (key := .string ⟨#[79, 80, 84, 73, 79, 78, 83]⟩) (val := .int .i64 3) (keyOf_string_mk Tryd.underlying9 (le_max (by decide))) (plainElem_int Tryd.underlying3 (by decide))
  have b3 := Below.grown b2 u3 b2.size (fun k hk => by cases hk; exact Nat.le_refl _)
  obtain ⟨w4, r4, o4, u4⟩ := o3.update (string_keyed Tryd.underlying9) Tryd.underlying70 (lt_max (by decide)) (key := .string ⟨#[80, 79, 83, 84]⟩) (val := .int .i64 4) (keyOf_string_mk Tryd.underlying9 (le_max (by decide))) (plainElem_int Tryd.underlying3 (by decide))
  have b4 := Below.grown b3 u4 b3.size (fun k hk => by cases hk; exact Nat.le_refl _)
  obtain ⟨w5, r5, o5, u5⟩ := o4.update (string_keyed Tryd.underlying9) Tryd.underlying70 (lt_max (by decide)) (key := .string ⟨#[80, 85, 84]⟩) (val := .int .i64 4) (keyOf_string_mk Tryd.underlying9 (le_max (by decide))) (plainElem_int Tryd.underlying3 (by decide))
  have b5 := Below.grown b4 u5 b4.size (fun k hk => by cases hk; exact Nat.le_refl _)
  obtain ⟨w6, r6, o6, u6⟩ := o5.update (string_keyed Tryd.underlying9) Tryd.underlying70 (lt_max (by decide)) (key := .string ⟨#[68, 69, 76, 69, 84, 69]⟩) (val := .int .i64 4) (keyOf_string_mk Tryd.underlying9 (le_max (by decide))) (plainElem_int Tryd.underlying3 (by decide))
  have b6 := Below.grown b5 u6 b5.size (fun k hk => by cases hk; exact Nat.le_refl _)
  obtain ⟨w7, r7, o7, u7⟩ := o6.update (string_keyed Tryd.underlying9) Tryd.underlying70 (lt_max (by decide)) (key := .string ⟨#[80, 65, 84, 67, 72]⟩) (val := .int .i64 4) (keyOf_string_mk Tryd.underlying9 (le_max (by decide))) (plainElem_int Tryd.underlying3 (by decide))
  have b7 := Below.grown b6 u7 b6.size (fun k hk => by cases hk; exact Nat.le_refl _)
  obtain ⟨w8, r8, o8, u8⟩ := o7.update (string_keyed Tryd.underlying9) Tryd.underlying70 (lt_max (by decide)) (key := .string ⟨#[84, 82, 65, 67, 69]⟩) (val := .int .i64 4) (keyOf_string_mk Tryd.underlying9 (le_max (by decide))) (plainElem_int Tryd.underlying3 (by decide))
  have b8 := Below.grown b7 u8 b7.size (fun k hk => by cases hk; exact Nat.le_refl _)
  obtain ⟨w9, r9, o9, u9⟩ := o8.update (string_keyed Tryd.underlying9) Tryd.underlying70 (lt_max (by decide)) (key := .string ⟨#[67, 79, 78, 78, 69, 67, 84]⟩) (val := .int .i64 4) (keyOf_string_mk Tryd.underlying9 (le_max (by decide))) (plainElem_int Tryd.underlying3 (by decide))
  have b9 := Below.grown b8 u9 b8.size (fun k hk => by cases hk; exact Nat.le_refl _)
  replace g0 : w3.cell? ⟨1, 0, none⟩ = _ := (b3.cell hlt).trans g0
  replace g1 : w3.cell? ⟨1, 1, none⟩ = _ := (b3.cell hlt).trans g1
  replace g2 : w3.cell? ⟨1, 2, none⟩ = _ := (b3.cell hlt).trans g2
  replace g3 : w3.cell? ⟨1, 3, none⟩ = _ := (b3.cell hlt).trans g3
  replace g4 : w3.cell? ⟨1, 4, none⟩ = _ := (b3.cell hlt).trans g4
  replace g5 : w3.cell? ⟨1, 5, none⟩ = _ := (b3.cell hlt).trans g5

  have i0 := ix0
  have i1 := ix1
  have i2 := ix2
  have i3 := ix3
  have i4 := ix4
  have i5 := ix5
  go_enter Tryd.func36, Tryd.ntmps36
  go_wp2
  refine wp_loop_rounds 7 ?_
  iterate 7 (rw [rounds_succ]; go_wp2)
  go_ret
  exact ⟨_, rfl, Nat.le_refl _, o9, b9⟩

def kindL (l : List UInt8) : Int :=
  if l = [67, 79, 78, 78, 69, 67, 84] then 4 else if l = [84, 82, 65, 67, 69] then 4 else if l = [80, 65, 84, 67, 72] then 4 else if l = [68, 69, 76, 69, 84, 69] then 4
  else if l = [80, 85, 84] then 4 else if l = [80, 79, 83, 84] then 4 else if l = [79, 80, 84, 73, 79, 78, 83] then 3 else if l = [72, 69, 65, 68] then 2 else if l = [71, 69, 84] then 1 else 0
theorem kd_map (D : DataW Unit) (hD : IsMap D) (l : List UInt8) (v : Int) : IsMap (kd D l v) := by unfold kd; exact hD.put _ _
theorem kd_at (D : DataW Unit) (hD : IsMap D) (k l : List UInt8) (v x : Int) (h : D.atKey (.string l) (.lit (.int .i64 0)) = .lit (.int .i64 x)) :
    (kd D k v).atKey (.string l) (.lit (.int .i64 0)) = .lit (.int .i64 (if l = k then v else x)) := by
  unfold kd
  by_cases e : l = k
  · rw [if_pos e, e]; exact atKey_put_same hD (by trivial) _ _
  · rw [if_neg e, atKey_put_other (by simpa using e)]; exact h
theorem KD_at (l : List UInt8) : KD.atKey (.string l) (.lit (.int .i64 0)) = .lit (.int .i64 (kindL l)) := by
  unfold KD kindL
  repeat first | exact isMap_empty | apply kd_map | exact rfl | apply kd_at

theorem zero3 (w : World) : (zeroValue 3).run Tryd.prog w = .ok (.int .i64 0) w := by kernel_rfl
def reqline_Kind.f (s : ByteArray) : Option Int := if s.size ≤ 1000 then some (kindL s.data.toList) else none
set_option maxRecDepth 100000 in
theorem reqline_Kind.calls (a0 : ByteArray) (r : Int) (w : World) (h : reqline_Kind.f a0 = some r) (hG : Glob w) :
    Calls Tryd.prog 17 #[.string a0] w fun e w' => e = .returned (.int .i64 r) ∧ Below w.heap.size w w' := by
  unfold reqline_Kind.f at h
  split at h
  · rename_i hs
    cases h
    go_enter Tryd.func17, Tryd.ntmps17
    go_wp2_with (go_at_call 36; refine (kinds_calls _ hG).mono ?_; rintro e w1 ⟨b, rfl, hb, ho, hB⟩; obtain ⟨c, hrun, hat, _⟩ := ho.lookup_int (string_keyed Tryd.underlying9) Tryd.underlying70 Tryd.underlying3 (zero3 _) (keyOf_string_mk Tryd.underlying9 (s := a0) (by unfold maxLen; omega)))
    go_ret
    rw [KD_at] at hat
    obtain rfl : kindL a0.data.toList = c := by simpa using hat
    exact ⟨rfl, hB⟩
  · cases h

end Go.Proofs.YtiolgglipcijpaaDoor.P
end

section
namespace Go.Proofs.YtiolgglipcijpaaDoor.P
open Go Go.RowKit Go.Proofs.YtiolgglipcijpaaDoorW.PrintWords

def othersL : List ByteArray := [⟨#[80, 79, 83, 84]⟩, ⟨#[80, 85, 84]⟩, ⟨#[68, 69, 76, 69, 84, 69]⟩, ⟨#[80, 65, 84, 67, 72]⟩, ⟨#[84, 82, 65, 67, 69]⟩, ⟨#[67, 79, 78, 78, 69, 67, 84]⟩]
theorem others_C {w : World} (hG : Glob w) : Kd.C Kd.string w (some ⟨1, 0, none⟩) 6 othersL := by
  refine Kd.C_of_reads (enc := Value.string) (d := ByteArray.empty) (h1 := fun _ => rfl) ⟨rfl, by omega, fun _ => ⟨⟨1, 0, none⟩, rfl, fun j hj => ?_⟩⟩
  have h := hG.others j hj
  rw [show (⟨1, 0, none⟩ : Addr).add j = ⟨1, j, none⟩ by simp [Addr.add_lit], h]
  congr 2
  rw [List.getD_eq_getElem?_getD, List.getElem?_eq_getElem (by exact hj)]
  rfl
def methL (k : Int) : List ByteArray := if k = 1 then [⟨#[71, 69, 84]⟩] else if k = 2 then [⟨#[72, 69, 65, 68]⟩] else if k = 3 then [⟨#[79, 80, 84, 73, 79, 78, 83]⟩] else if k = 4 then othersL else []
def reqline_Methods.f (k : Int) : Option (List ByteArray) := some (methL k)
set_option maxHeartbeats 1000000 in
set_option maxRecDepth 100000 in
theorem reqline_Methods.calls (a0 : Int) (r : List ByteArray) (w : World) (h : reqline_Methods.f a0 = some r) (hG : Glob w) :
    Calls Tryd.prog 19 #[.int .i64 a0] w fun e w' => ∃ v0_ : Value, e = .returned (v0_) ∧ Kd.R Kd.string 9 w' w.heap.size (fun _ => True) v0_ r ∧ Below w.heap.size w w' := by
  obtain rfl : methL a0 = r := by simpa [reqline_Methods.f] using h
  unfold methL
  by_cases h1 : a0 = 1
  · subst h1
    rw [if_pos rfl]
    go_enter Tryd.func19, Tryd.ntmps19
    go_wp2_with ((with_reducible refine gate_dst (N := 6) rfl ?_); (try (refine gate_guard (by rfl) ?_; dsimp only)); refine Kd.R_lit Kd.string _ 9 ?hg (N := 6) ?hd (xs := ([(⟨#[71, 69, 84]⟩ : ByteArray)] : List ByteArray)) (inner := [.string (⟨#[71, 69, 84]⟩ : ByteArray)]) (ok := fun _ => True) (okp := fun _ => True) ?hr ?hp (fun _ hk => hk) trivial (Below.refl _ _) (Nat.le_refl _) (by simp) ?_; (case hd => rfl); (case hg => rfl); (case hr => first | (go_simp; done) | (go_simp; rfl)); (case hp => exact (Reps.one (show Kd.M Kd.string _ _ _ (⟨#[71, 69, 84]⟩ : ByteArray) [.string (⟨#[71, 69, 84]⟩ : ByteArray)] from rfl) (Reps.none _ _))); intro v w1 ho hb hg_ hnew_)
    go_ret
    exact ⟨_, rfl, ho, hb⟩
  rw [if_neg h1]
  by_cases h2 : a0 = 2
  · subst h2
    rw [if_pos rfl]
    go_enter Tryd.func19, Tryd.ntmps19
    go_wp2_with ((with_reducible refine gate_dst (N := 9) rfl ?_); (try (refine gate_guard (by rfl) ?_; dsimp only)); refine Kd.R_lit Kd.string _ 9 ?hg (N := 9) ?hd (xs := ([(⟨#[72, 69, 65, 68]⟩ : ByteArray)] : List ByteArray)) (inner := [.string (⟨#[72, 69, 65, 68]⟩ : ByteArray)]) (ok := fun _ => True) (okp := fun _ => True) ?hr ?hp (fun _ hk => hk) trivial (Below.refl _ _) (Nat.le_refl _) (by simp) ?_; (case hd => rfl); (case hg => rfl); (case hr => first | (go_simp; done) | (go_simp; rfl)); (case hp => exact (Reps.one (show Kd.M Kd.string _ _ _ (⟨#[72, 69, 65, 68]⟩ : ByteArray) [.string (⟨#[72, 69, 65, 68]⟩ : ByteArray)] from rfl) (Reps.none _ _))); intro v w1 ho hb hg_ hnew_)
    go_ret
    exact ⟨_, rfl, ho, hb⟩
  rw [if_neg h2]
  by_cases h3 : a0 = 3
  · subst h3
    rw [if_pos rfl]
    go_enter Tryd.func19, Tryd.ntmps19
    go_wp2_with ((with_reducible refine gate_dst (N := 12) rfl ?_); (try (refine gate_guard (by rfl) ?_; dsimp only)); refine Kd.R_lit Kd.string _ 9 ?hg (N := 12) ?hd (xs := ([(⟨#[79, 80, 84, 73, 79, 78, 83]⟩ : ByteArray)] : List ByteArray)) (inner := [.string (⟨#[79, 80, 84, 73, 79, 78, 83]⟩ : ByteArray)]) (ok := fun _ => True) (okp := fun _ => True) ?hr ?hp (fun _ hk => hk) trivial (Below.refl _ _) (Nat.le_refl _) (by simp) ?_; (case hd => rfl); (case hg => rfl); (case hr => first | (go_simp; done) | (go_simp; rfl)); (case hp => exact (Reps.one (show Kd.M Kd.string _ _ _ (⟨#[79, 80, 84, 73, 79, 78, 83]⟩ : ByteArray) [.string (⟨#[79, 80, 84, 73, 79, 78, 83]⟩ : ByteArray)] from rfl) (Reps.none _ _))); intro v w1 ho hb hg_ hnew_)
    go_ret
    exact ⟨_, rfl, ho, hb⟩
  rw [if_neg h3]
  by_cases h4 : a0 = 4
  · subst h4
    rw [if_pos rfl]
    go_enter Tryd.func19, Tryd.ntmps19
    go_wp2_with ((with_reducible refine gate_builtin (b := .append) (xs := #[.const (.slice none 0 0), .tmp 15]) rfl ?_); (try (refine gate_guard (by rfl) ?_; dsimp only)); at_builtin; refine Kd.R_append_rows Kd.string (w0 := w) w.heap.size rfl (.const (.slice none 0 0)) (.tmp 15) 38 9 (.string ⟨#[]⟩) 16 rfl Tryd.underlying38 info9 rfl (by decide) (by omega) (.slice none 0 0) ([] : List ByteArray) othersL _ _ _ (fun _ => True) (fun _ => False) rfl rfl ?aO ?aR (fun _ _ h => h) (fun _ h => h.elim) (fun _ _ => trivial) (Below.refl _ _) (Nat.le_refl _) ?aL ?_; (case aR => exact others_C hG); (case aO => exact Kd.R_nil _ _ _ _ _); (case aL => decide); intro v w1 ho hb hg hat)
    go_ret
    exact ⟨_, rfl, ho, hb⟩
  rw [if_neg h4]
  have e1 : (a0 == 1) = false := by simpa using h1
  have e2 : (a0 == 2) = false := by simpa using h2
  have e3 : (a0 == 3) = false := by simpa using h3
  have e4 : (a0 == 4) = false := by simpa using h4
  go_enter Tryd.func19, Tryd.ntmps19
  go_wp2
  go_ret
  exact ⟨_, rfl, Kd.R_nil _ _ _ _ _, Below.refl _ _⟩

end Go.Proofs.YtiolgglipcijpaaDoor.P
end

section
namespace Go.Proofs.YtiolgglipcijpaaDoor.P
open Go Go.RowKit Go.Proofs.YtiolgglipcijpaaDoorW.PrintWords Go.Proofs.YtiolgglipcijpaaDoor.PB Go.Proofs.YtiolgglipcijpaaDoor.LSpec Go.Proofs.YtiolgglipcijpaaDoor.RSpec Go.Proofs.YtiolgglipcijpaaDoor.RParse
open Go.Proofs.YtiolgglipcijpaaDoor.ROct (isTok isVis)

def glue (c : UInt8) : List (List UInt8) → List UInt8
  | [] => []
  | [p] => p
  | p :: q :: r => p ++ c :: glue c (q :: r)
theorem glue_split (c : UInt8) (l : List UInt8) : glue c (splitL c l) = l := by
  induction l with
  | nil => rfl
  | cons x r ih =>
    simp only [splitL]
    have hne := splitL_ne c r
    by_cases e : x = c
    · rw [if_pos e]
      cases hs : splitL c r with
      | nil => exact absurd hs hne
      | cons p ps => rw [hs] at ih; simp only [glue]; rw [ih, e]; rfl
    · rw [if_neg e]
      cases hs : splitL c r with
      | nil => exact absurd hs hne
      | cons p ps =>
        rw [hs] at ih
        cases ps with
        | nil => simp only [glue] at ih ⊢; rw [ih]
        | cons q qs => simp only [glue] at ih ⊢; rw [List.cons_append, ih]
theorem three_line {s : ByteArray} {m t v : List UInt8} (h : splitL 32 (toL s) = [m, t, v]) : toL s = m ++ 32 :: (t ++ 32 :: v) := by
  have := glue_split 32 (toL s)
  rw [h] at this
  exact this.symm
theorem last_byte {s : ByteArray} {p : List UInt8} {x : UInt8} (h : toL s = p ++ [x]) (n : Nat) (hn : n < s.size) (hp : n = p.length) : s[n] = x := by
  have e : s = ofL (p ++ [x]) := by rw [← h, ofL_toL]
  subst e
  subst hp
  show (p ++ [x])[p.length]'(by simp) = x
  simp

def reqline_Parse.f (s : ByteArray) : Option (ByteArray × ByteArray × Int × Option Int) := if s.size ≤ 100000 then some (parseL (toL s)) else none
theorem err_val (st at_ : Nat) (h : st < 1000) : errW (errC st at_) = .iface 104 (.agg #[.int .i64 st, .int .i64 at_]) := by
  unfold errC
  rw [errW_some]
  have e1 : ((at_ : Int) * 1000 + (st : Int)) % 1000 = st := by omega
  have e2 : ((at_ : Int) * 1000 + (st : Int)) / 1000 = at_ := by omega
  rw [e1, e2]
def outV (o : Out) : Value := .tuple #[.agg #[.string o.1, .string o.2.1, .int .i64 o.2.2.1], errW o.2.2.2]
theorem bad_val (st at_ : Nat) (h : st < 1000) : outV (bad st at_) = .tuple #[.agg #[.string ⟨#[]⟩, .string ⟨#[]⟩, .int .i64 0], .iface 104 (.agg #[.int .i64 st, .int .i64 at_])] := by
  unfold outV bad
  rw [err_val st at_ h]
theorem Parse_all (s : ByteArray) (hs : s.size ≤ 100000) (w : World) (hG : Glob w) :
    Calls Tryd.prog 12 #[.string s] w fun e w' => e = .returned (outV (parseL (toL s))) ∧ Below w.heap.size w w' := by
  unfold parseL
  split
  · rename_i m t v hsp
    have hl := three_line hsp
    have hlen := congrArg List.length hl
    rw [toL_length] at hlen
    simp only [List.length_append, List.length_cons] at hlen
    unfold lineL
    cases h0 : isTok (ofL m) with
    | false =>
      rw [if_pos rfl, bad_val _ _ (by omega)]
      exact Parse_r0 s hs m t v (by omega) (by omega) hsp h0 w hG
    | true =>
      rw [if_neg (by simp)]
      cases h1 : isVis (ofL t) with
      | false =>
        rw [if_pos rfl, bad_val _ _ (by omega)]
        exact Parse_r1 s hs m t v (by omega) (by omega) hsp h0 h1 w hG
      | true =>
        rw [if_neg (by simp)]
        cases h2 : verL v with
        | false =>
          rw [if_pos rfl, bad_val _ _ (by omega)]
          exact Parse_r2 s hs m t v (by omega) (by omega) hsp h0 h1 h2 w hG
        | true =>
          rw [if_neg (by simp)]
          cases h3 : supL v with
          | false =>
            rw [if_pos rfl, bad_val _ _ (by omega)]
            exact Parse_r3 s hs m t v (by omega) (by omega) hsp h0 h1 h2 h3 w hG
          | true =>
            rw [if_neg (by simp)]
            have hv : v = [72, 84, 84, 80, 47, 49, 46, 48] ∨ v = [72, 84, 84, 80, 47, 49, 46, 49] := by
              simpa [supL] using h3
            rcases hv with rfl | rfl
            · have hb := last_byte (p := m ++ 32 :: (t ++ 32 :: [72, 84, 84, 80, 47, 49, 46])) (x := 48) (by rw [hl]; simp) (s.size - 1) (by omega) (by simp at hlen ⊢; omega)
              exact Parse_ok0 s hs m t _ (by omega) (by omega) hsp h0 h1 h2 h3 (s.size - 1) (by omega) (by omega) (by rw [hb]; rfl) w hG
            · have hb := last_byte (p := m ++ 32 :: (t ++ 32 :: [72, 84, 84, 80, 47, 49, 46])) (x := 49) (by rw [hl]; simp) (s.size - 1) (by omega) (by simp at hlen ⊢; omega)
              exact Parse_ok1 s hs m t _ (by omega) (by omega) hsp h0 h1 h2 h3 (s.size - 1) (by omega) (by omega) (by rw [hb]; rfl) w hG
  · rename_i hno
    rw [bad_val _ _ (by omega)]
    refine Parse_other s hs (fun h => ?_) w hG
    match hq : splitL 32 (toL s), h with
    | [a, b, c], _ => exact hno a b c hq
theorem reqline_Parse.calls (a0 : ByteArray) (r1 r2 : ByteArray) (r3 : Int) (r4 : Option Int) (w : World) (h : reqline_Parse.f a0 = some (r1, r2, r3, r4)) (hG : Glob w) :
    Calls Tryd.prog 12 #[.string a0] w fun e w' => e = .returned (.tuple #[.agg #[.string r1, .string r2, .int .i64 r3], errW r4]) ∧ Below w.heap.size w w' := by
  unfold reqline_Parse.f at h
  split at h
  · rename_i hs
    have hh := Parse_all a0 hs w hG
    rw [Option.some.inj h] at hh
    exact hh
  · cases h

end Go.Proofs.YtiolgglipcijpaaDoor.P
end

section
namespace Go.Proofs.YtiolgglipcijpaaDoor.P
open Go.RowKit Go.Proofs.YtiolgglipcijpaaDoorW.PrintWords Go.Proofs.YtiolgglipcijpaaDoorW.PrintLast Go.Proofs.YtiolgglipcijpaaDoorW.PrintMore
attribute [local go_sem] max2_int min2_int max_two min_two max_three min_three max_four min_four   -- for this text's walks alone
set_option linter.unusedVariables false
set_option linter.unusedSimpArgs false

/-! ### doorkeeperref02_In: function 25 -/
def doorkeeperref02_In.l0 : Nat → Int → ByteArray → Int → Option (Bool)
  | 0, _, _, _ => none
  | k + 1, x0, x1, x5 => if x5 < (x1.size : Int) then (if 0 ≤ x5 then (if (bt x1 x5) = x0 then (some true) else (doorkeeperref02_In.l0 k x0 x1 (wrap64 (x5 + 1)))) else (none)) else (some false)
def doorkeeperref02_In.f (k : Nat) (a0 : Int) (a1 : ByteArray) : Option (Bool) := doorkeeperref02_In.l0 k a0 a1 0
theorem doorkeeperref02_In.mono_l : ∀ k, (∀ y0 y1 y2, LeO (doorkeeperref02_In.l0 k y0 y1 y2) (doorkeeperref02_In.l0 (k + 1) y0 y1 y2))
  | 0 => fun _ _ _ r h => by simp [doorkeeperref02_In.l0] at h
  | k + 1 => by
    have ih0 := doorkeeperref02_In.mono_l k
    · intro y0 y1 y2
      unfold doorkeeperref02_In.l0
      repeat' first
      | (with_reducible exact ih0 _ _ _)
      | (with_reducible exact LeO.refl _)
      | (with_reducible exact LeO.none _)
      | (with_reducible refine LeO.ite ?_ ?_)
      | (with_reducible refine LeO.bind ?_ (fun _ => ?_))
      | exact ih0 _ _ _
      | exact LeO.none _
      | refine LeO.ite ?_ ?_
      | refine LeO.bind ?_ (fun _ => ?_)
theorem doorkeeperref02_In.mono : ∀ a0 a1 k, LeO (doorkeeperref02_In.f k a0 a1) (doorkeeperref02_In.f (k + 1) a0 a1) := by
  intro a0 a1 k
  have ih0 := doorkeeperref02_In.mono_l k
  unfold doorkeeperref02_In.f
  repeat' first
      | (with_reducible exact ih0 _ _ _)
      | (with_reducible exact LeO.refl _)
      | (with_reducible exact LeO.none _)
      | (with_reducible refine LeO.ite ?_ ?_)
      | (with_reducible refine LeO.bind ?_ (fun _ => ?_))
      | exact ih0 _ _ _
      | exact LeO.none _
      | refine LeO.ite ?_ ?_
      | refine LeO.bind ?_ (fun _ => ?_)
set_option maxHeartbeats 8000000 in
set_option maxRecDepth 100000 in
theorem doorkeeperref02_In.calls (k : Nat) (a0 : Int) (a1 : ByteArray) (r : Bool) (w : World) (h : doorkeeperref02_In.f k a0 a1 = some r) :
    Calls Tryd.prog 25 #[.int .u8 a0, .string a1] w fun e w' => e = .returned (.bool r) ∧ Drawn0 w w' := by
  have H : (doorkeeperref02_In.l0 k a0 a1 0) = some r := h
  clear h
  have H' := Aside0.mk H
  clear H
  go_enter Tryd.func25, Tryd.ntmps25
  go_wp2
  go_loopg [5] k (fun kq v5 w' => ∃ (x5_1 : Int), v5 = .int .i64 x5_1 ∧ Aside0 (doorkeeperref02_In.l0 kq a0 a1 x5_1 = some r) ∧ Aside0 (kq ≤ k) ∧ Drawn0 w w')
  case atStart => exact ⟨(0), (by first | rfl | (simp; done) | (simp [*]; done)), H', ⟨Nat.le_refl _⟩, by repeat (first | exact Drawn0.refl _ | apply Drawn0.step)⟩
  case round =>
    clear H'
    try clear c2
    try clear p2
    obtain ⟨x5_1, rfl, HA, HK1, ⟨m1, rfl⟩⟩ := hrel
    cases gk with
    | zero => exact absurd HA.out (by simp [doorkeeperref02_In.l0])
    | succ k1 =>
      have H := HA.out
      clear HA
      simp only [doorkeeperref02_In.l0] at H
      by_cases c3 : x5_1 < (a1.size : Int)
      · rw [if_pos c3] at H
        have c3b0 : decide (x5_1 < (a1.size : Int)) = true := decide_eq_true c3
        clear c3
        by_cases c4 : 0 ≤ x5_1
        · rw [if_pos c4] at H
          have c4b0 : decide (0 ≤ x5_1) = true := decide_eq_true c4
          clear c4
          by_cases c6 : (bt a1 x5_1) = a0
          · rw [if_pos c6] at H
            have c6b0 : ((bt a1 x5_1) == a0) = true := beq_iff_eq.mpr c6
            have c6b1 : ((bt a1 x5_1) != a0) = false := bne_eq_false_iff_eq.mpr c6
            clear c6
            obtain rfl := Option.some.inj H
            have p5 : 0 ≤ (x5_1 : Int) := of_decide_eq_true (by first | (with_reducible assumption) | assumption)
            have q5 : x5_1 < (a1.size : Int) := of_decide_eq_true (by first | (with_reducible assumption) | assumption)
            have hx5 := bt_at a1 x5_1
            replace p5 := eq_true p5
            replace q5 := eq_true q5
            go_wp2
            go_ret
            exact ⟨by first | rfl | (simp; done) | (simp [*]; done), by repeat (first | exact Drawn0.refl _ | apply Drawn0.step)⟩
          · rw [if_neg c6] at H
            have c6b0 : ((bt a1 x5_1) == a0) = false := beq_eq_false_iff_ne.mpr c6
            have c6b1 : ((bt a1 x5_1) != a0) = true := bne_iff_ne.mpr c6
            have H' := Aside0.mk H
            clear H
            have p5 : 0 ≤ (x5_1 : Int) := of_decide_eq_true (by first | (with_reducible assumption) | assumption)
            have q5 : x5_1 < (a1.size : Int) := of_decide_eq_true (by first | (with_reducible assumption) | assumption)
            have hx5 := bt_at a1 x5_1
            replace p5 := eq_true p5
            replace q5 := eq_true q5
            go_wp2
            go_roundg k1
            case measure => have := HK1.out; omega
            case rel => exact ⟨(wrap64 (x5_1 + 1)), (by first | rfl | (simp; done) | (simp [*]; done)), H', ⟨by have := HK1.out; omega⟩, by repeat (first | exact Drawn0.refl _ | apply Drawn0.step)⟩
        · rw [if_neg c4] at H
          exact absurd H (by simp)
      · rw [if_neg c3] at H
        have c3b0 : decide (x5_1 < (a1.size : Int)) = false := decide_eq_false c3
        clear c3
        obtain rfl := Option.some.inj H
        go_wp2
        go_ret
        exact ⟨by first | rfl | (simp; done) | (simp [*]; done), by repeat (first | exact Drawn0.refl _ | apply Drawn0.step)⟩

end Go.Proofs.YtiolgglipcijpaaDoor.P
end

section
namespace Go.Proofs.YtiolgglipcijpaaDoor.P
open Go.RowKit Go.Proofs.YtiolgglipcijpaaDoorW.PrintWords Go.Proofs.YtiolgglipcijpaaDoorW.PrintLast Go.Proofs.YtiolgglipcijpaaDoorW.PrintMore
attribute [local go_sem] max2_int min2_int max_two min_two max_three min_three max_four min_four   -- for this text's walks alone
set_option linter.unusedVariables false
set_option linter.unusedSimpArgs false

/-! ### doorkeeperref02_letters: function 58 -/
def doorkeeperref02_letters.f  : Option (ByteArray) := some (⟨#[65, 66, 67, 68, 69, 70, 71, 72, 73, 74, 75, 76, 77, 78, 79, 80, 81, 82, 83, 84, 85, 86, 87, 88, 89, 90, 97, 98, 99, 100, 101, 102, 103, 104, 105, 106, 107, 108, 109, 110, 111, 112, 113, 114, 115, 116, 117, 118, 119, 120, 121, 122]⟩ : ByteArray)
set_option maxHeartbeats 8000000 in
set_option maxRecDepth 100000 in
theorem doorkeeperref02_letters.calls  (r : ByteArray) (w : World) (h : doorkeeperref02_letters.f  = some r) :
    Calls Tryd.prog 58 #[] w fun e w' => e = .returned (.string r) ∧ Drawn0 w w' := by
  have H : (some (⟨#[65, 66, 67, 68, 69, 70, 71, 72, 73, 74, 75, 76, 77, 78, 79, 80, 81, 82, 83, 84, 85, 86, 87, 88, 89, 90, 97, 98, 99, 100, 101, 102, 103, 104, 105, 106, 107, 108, 109, 110, 111, 112, 113, 114, 115, 116, 117, 118, 119, 120, 121, 122]⟩ : ByteArray)) = some r := h
  clear h
  obtain rfl := Option.some.inj H
  go_enter Tryd.func58, Tryd.ntmps58
  go_wp2
  go_ret
  exact ⟨by first | rfl | (simp; done) | (simp [*]; done), by repeat (first | exact Drawn0.refl _ | apply Drawn0.step)⟩

end Go.Proofs.YtiolgglipcijpaaDoor.P
end

section
namespace Go.Proofs.YtiolgglipcijpaaDoor.P
open Go.RowKit Go.Proofs.YtiolgglipcijpaaDoorW.PrintWords Go.Proofs.YtiolgglipcijpaaDoorW.PrintLast Go.Proofs.YtiolgglipcijpaaDoorW.PrintMore
attribute [local go_sem] max2_int min2_int max_two min_two max_three min_three max_four min_four   -- for this text's walks alone
set_option linter.unusedVariables false
set_option linter.unusedSimpArgs false

/-! ### doorkeeperref02_Class: function 33 -/
def doorkeeperref02_Class.f (k : Nat) (a0 : Int) (a1 : Int) : Option (Bool) := (doorkeeperref02_letters.f).bind fun t126 => ((doorkeeperref02_In.f k a0 t126).bind fun t127 => ((doorkeeperref02_In.f k a0 (⟨#[48, 49, 50, 51, 52, 53, 54, 55, 56, 57]⟩ : ByteArray)).bind fun t128 => (if a1 = 0 then (some t127) else (if a1 = 1 then (some t128) else (if a1 = 2 then (if t127 = true then (some true) else (if t128 = true then (some true) else ((doorkeeperref02_In.f k a0 (⟨#[33, 35, 36, 37, 38, 39, 42, 43, 45, 46, 94, 95, 96, 124, 126]⟩ : ByteArray)).bind fun t129 => (some t129)))) else (if a1 = 3 then (if t127 = true then (some true) else (if t128 = true then (some true) else ((doorkeeperref02_In.f k a0 (⟨#[45, 46, 95, 126]⟩ : ByteArray)).bind fun t130 => (some t130)))) else (if a1 = 4 then (if t127 = true then (some true) else (if t128 = true then (some true) else ((doorkeeperref02_In.f k a0 (⟨#[45, 46, 95, 126, 33, 36, 38, 39, 40, 41, 42, 43, 44, 59, 61, 58, 64]⟩ : ByteArray)).bind fun t131 => (some t131)))) else (if a0 = 9 then (some true) else (if a0 ≥ 32 then (some (a0 != 127)) else (some false))))))))))
theorem doorkeeperref02_Class.mono : ∀ a0 a1 k, LeO (doorkeeperref02_Class.f k a0 a1) (doorkeeperref02_Class.f (k + 1) a0 a1) := by
  intro a0 a1 k
  unfold doorkeeperref02_Class.f
  repeat' first
      | (with_reducible exact doorkeeperref02_In.mono _ _ _)
      | (with_reducible exact LeO.refl _)
      | (with_reducible exact LeO.none _)
      | (with_reducible refine LeO.ite ?_ ?_)
      | (with_reducible refine LeO.bind ?_ (fun _ => ?_))
      | exact doorkeeperref02_In.mono _ _ _
      | exact LeO.none _
      | refine LeO.ite ?_ ?_
      | refine LeO.bind ?_ (fun _ => ?_)
set_option maxHeartbeats 8000000 in
set_option maxRecDepth 100000 in
theorem doorkeeperref02_Class.calls (k : Nat) (a0 : Int) (a1 : Int) (r : Bool) (w : World) (h : doorkeeperref02_Class.f k a0 a1 = some r) :
    Calls Tryd.prog 33 #[.int .u8 a0, .int .i64 a1] w fun e w' => e = .returned (.bool r) ∧ Drawn0 w w' := by
  have H : ((doorkeeperref02_letters.f).bind fun t126 => ((doorkeeperref02_In.f k a0 t126).bind fun t127 => ((doorkeeperref02_In.f k a0 (⟨#[48, 49, 50, 51, 52, 53, 54, 55, 56, 57]⟩ : ByteArray)).bind fun t128 => (if a1 = 0 then (some t127) else (if a1 = 1 then (some t128) else (if a1 = 2 then (if t127 = true then (some true) else (if t128 = true then (some true) else ((doorkeeperref02_In.f k a0 (⟨#[33, 35, 36, 37, 38, 39, 42, 43, 45, 46, 94, 95, 96, 124, 126]⟩ : ByteArray)).bind fun t129 => (some t129)))) else (if a1 = 3 then (if t127 = true then (some true) else (if t128 = true then (some true) else ((doorkeeperref02_In.f k a0 (⟨#[45, 46, 95, 126]⟩ : ByteArray)).bind fun t130 => (some t130)))) else (if a1 = 4 then (if t127 = true then (some true) else (if t128 = true then (some true) else ((doorkeeperref02_In.f k a0 (⟨#[45, 46, 95, 126, 33, 36, 38, 39, 40, 41, 42, 43, 44, 59, 61, 58, 64]⟩ : ByteArray)).bind fun t131 => (some t131)))) else (if a0 = 9 then (some true) else (if a0 ≥ 32 then (some (a0 != 127)) else (some false))))))))))) = some r := h
  clear h
  replace H := Option.bind_eq_some_iff.mp H
  obtain ⟨t126, A30, H⟩ := H
  replace H : ((doorkeeperref02_In.f k a0 t126).bind fun t127 => ((doorkeeperref02_In.f k a0 (⟨#[48, 49, 50, 51, 52, 53, 54, 55, 56, 57]⟩ : ByteArray)).bind fun t128 => (if a1 = 0 then (some t127) else (if a1 = 1 then (some t128) else (if a1 = 2 then (if t127 = true then (some true) else (if t128 = true then (some true) else ((doorkeeperref02_In.f k a0 (⟨#[33, 35, 36, 37, 38, 39, 42, 43, 45, 46, 94, 95, 96, 124, 126]⟩ : ByteArray)).bind fun t129 => (some t129)))) else (if a1 = 3 then (if t127 = true then (some true) else (if t128 = true then (some true) else ((doorkeeperref02_In.f k a0 (⟨#[45, 46, 95, 126]⟩ : ByteArray)).bind fun t130 => (some t130)))) else (if a1 = 4 then (if t127 = true then (some true) else (if t128 = true then (some true) else ((doorkeeperref02_In.f k a0 (⟨#[45, 46, 95, 126, 33, 36, 38, 39, 40, 41, 42, 43, 44, 59, 61, 58, 64]⟩ : ByteArray)).bind fun t131 => (some t131)))) else (if a0 = 9 then (some true) else (if a0 ≥ 32 then (some (a0 != 127)) else (some false)))))))))) = some r := H
  have A3 := Aside0.mk A30
  clear A30
  replace H := Option.bind_eq_some_iff.mp H
  obtain ⟨t127, A40, H⟩ := H
  replace H : ((doorkeeperref02_In.f k a0 (⟨#[48, 49, 50, 51, 52, 53, 54, 55, 56, 57]⟩ : ByteArray)).bind fun t128 => (if a1 = 0 then (some t127) else (if a1 = 1 then (some t128) else (if a1 = 2 then (if t127 = true then (some true) else (if t128 = true then (some true) else ((doorkeeperref02_In.f k a0 (⟨#[33, 35, 36, 37, 38, 39, 42, 43, 45, 46, 94, 95, 96, 124, 126]⟩ : ByteArray)).bind fun t129 => (some t129)))) else (if a1 = 3 then (if t127 = true then (some true) else (if t128 = true then (some true) else ((doorkeeperref02_In.f k a0 (⟨#[45, 46, 95, 126]⟩ : ByteArray)).bind fun t130 => (some t130)))) else (if a1 = 4 then (if t127 = true then (some true) else (if t128 = true then (some true) else ((doorkeeperref02_In.f k a0 (⟨#[45, 46, 95, 126, 33, 36, 38, 39, 40, 41, 42, 43, 44, 59, 61, 58, 64]⟩ : ByteArray)).bind fun t131 => (some t131)))) else (if a0 = 9 then (some true) else (if a0 ≥ 32 then (some (a0 != 127)) else (some false))))))))) = some r := H
  have A4 := Aside0.mk A40
  clear A40
  replace H := Option.bind_eq_some_iff.mp H
  obtain ⟨t128, A50, H⟩ := H
  replace H : (if a1 = 0 then (some t127) else (if a1 = 1 then (some t128) else (if a1 = 2 then (if t127 = true then (some true) else (if t128 = true then (some true) else ((doorkeeperref02_In.f k a0 (⟨#[33, 35, 36, 37, 38, 39, 42, 43, 45, 46, 94, 95, 96, 124, 126]⟩ : ByteArray)).bind fun t129 => (some t129)))) else (if a1 = 3 then (if t127 = true then (some true) else (if t128 = true then (some true) else ((doorkeeperref02_In.f k a0 (⟨#[45, 46, 95, 126]⟩ : ByteArray)).bind fun t130 => (some t130)))) else (if a1 = 4 then (if t127 = true then (some true) else (if t128 = true then (some true) else ((doorkeeperref02_In.f k a0 (⟨#[45, 46, 95, 126, 33, 36, 38, 39, 40, 41, 42, 43, 44, 59, 61, 58, 64]⟩ : ByteArray)).bind fun t131 => (some t131)))) else (if a0 = 9 then (some true) else (if a0 ≥ 32 then (some (a0 != 127)) else (some false)))))))) = some r := H
  have A5 := Aside0.mk A50
  clear A50
  by_cases c6 : a1 = 0
  · rw [if_pos c6] at H
    have c6b0 : (a1 == 0) = true := beq_iff_eq.mpr c6
    have c6b1 : (a1 != 0) = false := bne_eq_false_iff_eq.mpr c6
    clear c6
    obtain rfl := Option.some.inj H
    go_enter Tryd.func33, Tryd.ntmps33
    go_wp2_with (first | ((with_reducible refine gate_callee (f := 58) rfl ?_); refine goesL_ (some 8) rfl rfl Tryd.func58 (by kernel_rfl) rfl #[] rfl (by (try simp only [List.map_toArray, List.map_cons, List.map_nil]); first | done | rfl | (simp only [List.length_drop, List.length_take]; rfl)) ?_; (with_reducible refine (doorkeeperref02_letters.calls  t126 _ A3.out).mono ?_); rintro e w' ⟨rfl, ⟨nd, rfl⟩⟩; refine ⟨_, rfl, ?_⟩) | ((with_reducible refine gate_callee (f := 25) rfl ?_); refine goesL_ (some 9) rfl rfl Tryd.func25 (by kernel_rfl) rfl #[.int .u8 a0, .string t126] rfl (by (try simp only [List.map_toArray, List.map_cons, List.map_nil]); first | done | rfl | (simp only [List.length_drop, List.length_take]; rfl)) ?_; (with_reducible refine (doorkeeperref02_In.calls k a0 t126 t127 _ A4.out).mono ?_); rintro e w' ⟨rfl, ⟨nd, rfl⟩⟩; refine ⟨_, rfl, ?_⟩) | ((with_reducible refine gate_callee (f := 25) rfl ?_); refine goesL_ (some 11) rfl rfl Tryd.func25 (by kernel_rfl) rfl #[.int .u8 a0, .string (⟨#[48, 49, 50, 51, 52, 53, 54, 55, 56, 57]⟩ : ByteArray)] rfl (by (try simp only [List.map_toArray, List.map_cons, List.map_nil]); first | done | rfl | (simp only [List.length_drop, List.length_take]; rfl)) ?_; (with_reducible refine (doorkeeperref02_In.calls k a0 (⟨#[48, 49, 50, 51, 52, 53, 54, 55, 56, 57]⟩ : ByteArray) t128 _ A5.out).mono ?_); rintro e w' ⟨rfl, ⟨nd, rfl⟩⟩; refine ⟨_, rfl, ?_⟩))
    go_ret
    exact ⟨by first | rfl | (simp; done) | (simp [*]; done), by repeat (first | exact Drawn0.refl _ | apply Drawn0.step)⟩
  · rw [if_neg c6] at H
    have c6b0 : (a1 == 0) = false := beq_eq_false_iff_ne.mpr c6
    have c6b1 : (a1 != 0) = true := bne_iff_ne.mpr c6
    by_cases c7 : a1 = 1
    · rw [if_pos c7] at H
      have c7b0 : (a1 == 1) = true := beq_iff_eq.mpr c7
      have c7b1 : (a1 != 1) = false := bne_eq_false_iff_eq.mpr c7
      clear c7
      obtain rfl := Option.some.inj H
      go_enter Tryd.func33, Tryd.ntmps33
      go_wp2_with (first | ((with_reducible refine gate_callee (f := 58) rfl ?_); refine goesL_ (some 8) rfl rfl Tryd.func58 (by kernel_rfl) rfl #[] rfl (by (try simp only [List.map_toArray, List.map_cons, List.map_nil]); first | done | rfl | (simp only [List.length_drop, List.length_take]; rfl)) ?_; (with_reducible refine (doorkeeperref02_letters.calls  t126 _ A3.out).mono ?_); rintro e w' ⟨rfl, ⟨nd, rfl⟩⟩; refine ⟨_, rfl, ?_⟩) | ((with_reducible refine gate_callee (f := 25) rfl ?_); refine goesL_ (some 9) rfl rfl Tryd.func25 (by kernel_rfl) rfl #[.int .u8 a0, .string t126] rfl (by (try simp only [List.map_toArray, List.map_cons, List.map_nil]); first | done | rfl | (simp only [List.length_drop, List.length_take]; rfl)) ?_; (with_reducible refine (doorkeeperref02_In.calls k a0 t126 t127 _ A4.out).mono ?_); rintro e w' ⟨rfl, ⟨nd, rfl⟩⟩; refine ⟨_, rfl, ?_⟩) | ((with_reducible refine gate_callee (f := 25) rfl ?_); refine goesL_ (some 11) rfl rfl Tryd.func25 (by kernel_rfl) rfl #[.int .u8 a0, .string (⟨#[48, 49, 50, 51, 52, 53, 54, 55, 56, 57]⟩ : ByteArray)] rfl (by (try simp only [List.map_toArray, List.map_cons, List.map_nil]); first | done | rfl | (simp only [List.length_drop, List.length_take]; rfl)) ?_; (with_reducible refine (doorkeeperref02_In.calls k a0 (⟨#[48, 49, 50, 51, 52, 53, 54, 55, 56, 57]⟩ : ByteArray) t128 _ A5.out).mono ?_); rintro e w' ⟨rfl, ⟨nd, rfl⟩⟩; refine ⟨_, rfl, ?_⟩))
      go_ret
      exact ⟨by first | rfl | (simp; done) | (simp [*]; done), by repeat (first | exact Drawn0.refl _ | apply Drawn0.step)⟩
    · rw [if_neg c7] at H
      have c7b0 : (a1 == 1) = false := beq_eq_false_iff_ne.mpr c7
      have c7b1 : (a1 != 1) = true := bne_iff_ne.mpr c7
      by_cases c8 : a1 = 2
      · rw [if_pos c8] at H
        have c8b0 : (a1 == 2) = true := beq_iff_eq.mpr c8
        have c8b1 : (a1 != 2) = false := bne_eq_false_iff_eq.mpr c8
        clear c8
        by_cases c9 : t127 = true
        · subst c9
          have H1 : (some true) = some r := by rw [if_pos rfl] at H; exact H
          clear H
          have H := H1
          clear H1
          obtain rfl := Option.some.inj H
          go_enter Tryd.func33, Tryd.ntmps33
          go_wp2_with (first | ((with_reducible refine gate_callee (f := 58) rfl ?_); refine goesL_ (some 8) rfl rfl Tryd.func58 (by kernel_rfl) rfl #[] rfl (by (try simp only [List.map_toArray, List.map_cons, List.map_nil]); first | done | rfl | (simp only [List.length_drop, List.length_take]; rfl)) ?_; (with_reducible refine (doorkeeperref02_letters.calls  t126 _ A3.out).mono ?_); rintro e w' ⟨rfl, ⟨nd, rfl⟩⟩; refine ⟨_, rfl, ?_⟩) | ((with_reducible refine gate_callee (f := 25) rfl ?_); refine goesL_ (some 9) rfl rfl Tryd.func25 (by kernel_rfl) rfl #[.int .u8 a0, .string t126] rfl (by (try simp only [List.map_toArray, List.map_cons, List.map_nil]); first | done | rfl | (simp only [List.length_drop, List.length_take]; rfl)) ?_; (with_reducible refine (doorkeeperref02_In.calls k a0 t126 true _ A4.out).mono ?_); rintro e w' ⟨rfl, ⟨nd, rfl⟩⟩; refine ⟨_, rfl, ?_⟩) | ((with_reducible refine gate_callee (f := 25) rfl ?_); refine goesL_ (some 11) rfl rfl Tryd.func25 (by kernel_rfl) rfl #[.int .u8 a0, .string (⟨#[48, 49, 50, 51, 52, 53, 54, 55, 56, 57]⟩ : ByteArray)] rfl (by (try simp only [List.map_toArray, List.map_cons, List.map_nil]); first | done | rfl | (simp only [List.length_drop, List.length_take]; rfl)) ?_; (with_reducible refine (doorkeeperref02_In.calls k a0 (⟨#[48, 49, 50, 51, 52, 53, 54, 55, 56, 57]⟩ : ByteArray) t128 _ A5.out).mono ?_); rintro e w' ⟨rfl, ⟨nd, rfl⟩⟩; refine ⟨_, rfl, ?_⟩))
          go_ret
          exact ⟨by first | rfl | (simp; done) | (simp [*]; done), by repeat (first | exact Drawn0.refl _ | apply Drawn0.step)⟩
        · replace c9 := Bool.eq_false_iff.mpr c9
          subst c9
          have H1 : (if t128 = true then (some true) else ((doorkeeperref02_In.f k a0 (⟨#[33, 35, 36, 37, 38, 39, 42, 43, 45, 46, 94, 95, 96, 124, 126]⟩ : ByteArray)).bind fun t129 => (some t129))) = some r := by rw [if_neg (show ¬ (false = true) by decide)] at H; exact H
          clear H
          have H := H1
          clear H1
          by_cases c10 : t128 = true
          · subst c10
            have H1 : (some true) = some r := by rw [if_pos rfl] at H; exact H
            clear H
            have H := H1
            clear H1
            obtain rfl := Option.some.inj H
            go_enter Tryd.func33, Tryd.ntmps33
            go_wp2_with (first | ((with_reducible refine gate_callee (f := 58) rfl ?_); refine goesL_ (some 8) rfl rfl Tryd.func58 (by kernel_rfl) rfl #[] rfl (by (try simp only [List.map_toArray, List.map_cons, List.map_nil]); first | done | rfl | (simp only [List.length_drop, List.length_take]; rfl)) ?_; (with_reducible refine (doorkeeperref02_letters.calls  t126 _ A3.out).mono ?_); rintro e w' ⟨rfl, ⟨nd, rfl⟩⟩; refine ⟨_, rfl, ?_⟩) | ((with_reducible refine gate_callee (f := 25) rfl ?_); refine goesL_ (some 9) rfl rfl Tryd.func25 (by kernel_rfl) rfl #[.int .u8 a0, .string t126] rfl (by (try simp only [List.map_toArray, List.map_cons, List.map_nil]); first | done | rfl | (simp only [List.length_drop, List.length_take]; rfl)) ?_; (with_reducible refine (doorkeeperref02_In.calls k a0 t126 false _ A4.out).mono ?_); rintro e w' ⟨rfl, ⟨nd, rfl⟩⟩; refine ⟨_, rfl, ?_⟩) | ((with_reducible refine gate_callee (f := 25) rfl ?_); refine goesL_ (some 11) rfl rfl Tryd.func25 (by kernel_rfl) rfl #[.int .u8 a0, .string (⟨#[48, 49, 50, 51, 52, 53, 54, 55, 56, 57]⟩ : ByteArray)] rfl (by (try simp only [List.map_toArray, List.map_cons, List.map_nil]); first | done | rfl | (simp only [List.length_drop, List.length_take]; rfl)) ?_; (with_reducible refine (doorkeeperref02_In.calls k a0 (⟨#[48, 49, 50, 51, 52, 53, 54, 55, 56, 57]⟩ : ByteArray) true _ A5.out).mono ?_); rintro e w' ⟨rfl, ⟨nd, rfl⟩⟩; refine ⟨_, rfl, ?_⟩))
            go_ret
            exact ⟨by first | rfl | (simp; done) | (simp [*]; done), by repeat (first | exact Drawn0.refl _ | apply Drawn0.step)⟩
          · replace c10 := Bool.eq_false_iff.mpr c10
            subst c10
            have H1 : ((doorkeeperref02_In.f k a0 (⟨#[33, 35, 36, 37, 38, 39, 42, 43, 45, 46, 94, 95, 96, 124, 126]⟩ : ByteArray)).bind fun t129 => (some t129)) = some r := by rw [if_neg (show ¬ (false = true) by decide)] at H; exact H
            clear H
            have H := H1
            clear H1
            replace H := Option.bind_eq_some_iff.mp H
            obtain ⟨t129, A110, H⟩ := H
            replace H : (some t129) = some r := H
            have A11 := Aside0.mk A110
            clear A110
            obtain rfl := Option.some.inj H
            go_enter Tryd.func33, Tryd.ntmps33
            go_wp2_with (first | ((with_reducible refine gate_callee (f := 58) rfl ?_); refine goesL_ (some 8) rfl rfl Tryd.func58 (by kernel_rfl) rfl #[] rfl (by (try simp only [List.map_toArray, List.map_cons, List.map_nil]); first | done | rfl | (simp only [List.length_drop, List.length_take]; rfl)) ?_; (with_reducible refine (doorkeeperref02_letters.calls  t126 _ A3.out).mono ?_); rintro e w' ⟨rfl, ⟨nd, rfl⟩⟩; refine ⟨_, rfl, ?_⟩) | ((with_reducible refine gate_callee (f := 25) rfl ?_); refine goesL_ (some 9) rfl rfl Tryd.func25 (by kernel_rfl) rfl #[.int .u8 a0, .string t126] rfl (by (try simp only [List.map_toArray, List.map_cons, List.map_nil]); first | done | rfl | (simp only [List.length_drop, List.length_take]; rfl)) ?_; (with_reducible refine (doorkeeperref02_In.calls k a0 t126 false _ A4.out).mono ?_); rintro e w' ⟨rfl, ⟨nd, rfl⟩⟩; refine ⟨_, rfl, ?_⟩) | ((with_reducible refine gate_callee (f := 25) rfl ?_); refine goesL_ (some 11) rfl rfl Tryd.func25 (by kernel_rfl) rfl #[.int .u8 a0, .string (⟨#[48, 49, 50, 51, 52, 53, 54, 55, 56, 57]⟩ : ByteArray)] rfl (by (try simp only [List.map_toArray, List.map_cons, List.map_nil]); first | done | rfl | (simp only [List.length_drop, List.length_take]; rfl)) ?_; (with_reducible refine (doorkeeperref02_In.calls k a0 (⟨#[48, 49, 50, 51, 52, 53, 54, 55, 56, 57]⟩ : ByteArray) false _ A5.out).mono ?_); rintro e w' ⟨rfl, ⟨nd, rfl⟩⟩; refine ⟨_, rfl, ?_⟩) | (go_at_call 25; (with_reducible refine (doorkeeperref02_In.calls k a0 (⟨#[33, 35, 36, 37, 38, 39, 42, 43, 45, 46, 94, 95, 96, 124, 126]⟩ : ByteArray) t129 _ A11.out).mono ?_); rintro e w' ⟨rfl, ⟨nd, rfl⟩⟩))
            go_ret
            exact ⟨by first | rfl | (simp; done) | (simp [*]; done), by repeat (first | exact Drawn0.refl _ | apply Drawn0.step)⟩
      · rw [if_neg c8] at H
        have c8b0 : (a1 == 2) = false := beq_eq_false_iff_ne.mpr c8
        have c8b1 : (a1 != 2) = true := bne_iff_ne.mpr c8
        by_cases c12 : a1 = 3
        · rw [if_pos c12] at H
          have c12b0 : (a1 == 3) = true := beq_iff_eq.mpr c12
          have c12b1 : (a1 != 3) = false := bne_eq_false_iff_eq.mpr c12
          clear c12
          by_cases c13 : t127 = true
          · subst c13
            have H1 : (some true) = some r := by rw [if_pos rfl] at H; exact H
            clear H
            have H := H1
            clear H1
            obtain rfl := Option.some.inj H
            go_enter Tryd.func33, Tryd.ntmps33
            go_wp2_with (first | ((with_reducible refine gate_callee (f := 58) rfl ?_); refine goesL_ (some 8) rfl rfl Tryd.func58 (by kernel_rfl) rfl #[] rfl (by (try simp only [List.map_toArray, List.map_cons, List.map_nil]); first | done | rfl | (simp only [List.length_drop, List.length_take]; rfl)) ?_; (with_reducible refine (doorkeeperref02_letters.calls  t126 _ A3.out).mono ?_); rintro e w' ⟨rfl, ⟨nd, rfl⟩⟩; refine ⟨_, rfl, ?_⟩) | ((with_reducible refine gate_callee (f := 25) rfl ?_); refine goesL_ (some 9) rfl rfl Tryd.func25 (by kernel_rfl) rfl #[.int .u8 a0, .string t126] rfl (by (try simp only [List.map_toArray, List.map_cons, List.map_nil]); first | done | rfl | (simp only [List.length_drop, List.length_take]; rfl)) ?_; (with_reducible refine (doorkeeperref02_In.calls k a0 t126 true _ A4.out).mono ?_); rintro e w' ⟨rfl, ⟨nd, rfl⟩⟩; refine ⟨_, rfl, ?_⟩) | ((with_reducible refine gate_callee (f := 25) rfl ?_); refine goesL_ (some 11) rfl rfl Tryd.func25 (by kernel_rfl) rfl #[.int .u8 a0, .string (⟨#[48, 49, 50, 51, 52, 53, 54, 55, 56, 57]⟩ : ByteArray)] rfl (by (try simp only [List.map_toArray, List.map_cons, List.map_nil]); first | done | rfl | (simp only [List.length_drop, List.length_take]; rfl)) ?_; (with_reducible refine (doorkeeperref02_In.calls k a0 (⟨#[48, 49, 50, 51, 52, 53, 54, 55, 56, 57]⟩ : ByteArray) t128 _ A5.out).mono ?_); rintro e w' ⟨rfl, ⟨nd, rfl⟩⟩; refine ⟨_, rfl, ?_⟩))
            go_ret
            exact ⟨by first | rfl | (simp; done) | (simp [*]; done), by repeat (first | exact Drawn0.refl _ | apply Drawn0.step)⟩
          · replace c13 := Bool.eq_false_iff.mpr c13
            subst c13
            have H1 : (if t128 = true then (some true) else ((doorkeeperref02_In.f k a0 (⟨#[45, 46, 95, 126]⟩ : ByteArray)).bind fun t130 => (some t130))) = some r := by rw [if_neg (show ¬ (false = true) by decide)] at H; exact H
            clear H
            have H := H1
            clear H1
            by_cases c14 : t128 = true
            · subst c14
              have H1 : (some true) = some r := by rw [if_pos rfl] at H; exact H
              clear H
              have H := H1
              clear H1
              obtain rfl := Option.some.inj H
              go_enter Tryd.func33, Tryd.ntmps33
              go_wp2_with (first | ((with_reducible refine gate_callee (f := 58) rfl ?_); refine goesL_ (some 8) rfl rfl Tryd.func58 (by kernel_rfl) rfl #[] rfl (by (try simp only [List.map_toArray, List.map_cons, List.map_nil]); first | done | rfl | (simp only [List.length_drop, List.length_take]; rfl)) ?_; (with_reducible refine (doorkeeperref02_letters.calls  t126 _ A3.out).mono ?_); rintro e w' ⟨rfl, ⟨nd, rfl⟩⟩; refine ⟨_, rfl, ?_⟩) | ((with_reducible refine gate_callee (f := 25) rfl ?_); refine goesL_ (some 9) rfl rfl Tryd.func25 (by kernel_rfl) rfl #[.int .u8 a0, .string t126] rfl (by (try simp only [List.map_toArray, List.map_cons, List.map_nil]); first | done | rfl | (simp only [List.length_drop, List.length_take]; rfl)) ?_; (with_reducible refine (doorkeeperref02_In.calls k a0 t126 false _ A4.out).mono ?_); rintro e w' ⟨rfl, ⟨nd, rfl⟩⟩; refine ⟨_, rfl, ?_⟩) | ((with_reducible refine gate_callee (f := 25) rfl ?_); refine goesL_ (some 11) rfl rfl Tryd.func25 (by kernel_rfl) rfl #[.int .u8 a0, .string (⟨#[48, 49, 50, 51, 52, 53, 54, 55, 56, 57]⟩ : ByteArray)] rfl (by (try simp only [List.map_toArray, List.map_cons, List.map_nil]); first | done | rfl | (simp only [List.length_drop, List.length_take]; rfl)) ?_; (with_reducible refine (doorkeeperref02_In.calls k a0 (⟨#[48, 49, 50, 51, 52, 53, 54, 55, 56, 57]⟩ : ByteArray) true _ A5.out).mono ?_); rintro e w' ⟨rfl, ⟨nd, rfl⟩⟩; refine ⟨_, rfl, ?_⟩))
              go_ret
              exact ⟨by first | rfl | (simp; done) | (simp [*]; done), by repeat (first | exact Drawn0.refl _ | apply Drawn0.step)⟩
            · replace c14 := Bool.eq_false_iff.mpr c14
              subst c14
              have H1 : ((doorkeeperref02_In.f k a0 (⟨#[45, 46, 95, 126]⟩ : ByteArray)).bind fun t130 => (some t130)) = some r := by rw [if_neg (show ¬ (false = true) by decide)] at H; exact H
              clear H
              have H := H1
              clear H1
              replace H := Option.bind_eq_some_iff.mp H
              obtain ⟨t130, A150, H⟩ := H
              replace H : (some t130) = some r := H
              have A15 := Aside0.mk A150
              clear A150
              obtain rfl := Option.some.inj H
              go_enter Tryd.func33, Tryd.ntmps33
              go_wp2_with (first | ((with_reducible refine gate_callee (f := 58) rfl ?_); refine goesL_ (some 8) rfl rfl Tryd.func58 (by kernel_rfl) rfl #[] rfl (by (try simp only [List.map_toArray, List.map_cons, List.map_nil]); first | done | rfl | (simp only [List.length_drop, List.length_take]; rfl)) ?_; (with_reducible refine (doorkeeperref02_letters.calls  t126 _ A3.out).mono ?_); rintro e w' ⟨rfl, ⟨nd, rfl⟩⟩; refine ⟨_, rfl, ?_⟩) | ((with_reducible refine gate_callee (f := 25) rfl ?_); refine goesL_ (some 9) rfl rfl Tryd.func25 (by kernel_rfl) rfl #[.int .u8 a0, .string t126] rfl (by (try simp only [List.map_toArray, List.map_cons, List.map_nil]); first | done | rfl | (simp only [List.length_drop, List.length_take]; rfl)) ?_; (with_reducible refine (doorkeeperref02_In.calls k a0 t126 false _ A4.out).mono ?_); rintro e w' ⟨rfl, ⟨nd, rfl⟩⟩; refine ⟨_, rfl, ?_⟩) | ((with_reducible refine gate_callee (f := 25) rfl ?_); refine goesL_ (some 11) rfl rfl Tryd.func25 (by kernel_rfl) rfl #[.int .u8 a0, .string (⟨#[48, 49, 50, 51, 52, 53, 54, 55, 56, 57]⟩ : ByteArray)] rfl (by (try simp only [List.map_toArray, List.map_cons, List.map_nil]); first | done | rfl | (simp only [List.length_drop, List.length_take]; rfl)) ?_; (with_reducible refine (doorkeeperref02_In.calls k a0 (⟨#[48, 49, 50, 51, 52, 53, 54, 55, 56, 57]⟩ : ByteArray) false _ A5.out).mono ?_); rintro e w' ⟨rfl, ⟨nd, rfl⟩⟩; refine ⟨_, rfl, ?_⟩) | (go_at_call 25; (with_reducible refine (doorkeeperref02_In.calls k a0 (⟨#[45, 46, 95, 126]⟩ : ByteArray) t130 _ A15.out).mono ?_); rintro e w' ⟨rfl, ⟨nd, rfl⟩⟩))
              go_ret
              exact ⟨by first | rfl | (simp; done) | (simp [*]; done), by repeat (first | exact Drawn0.refl _ | apply Drawn0.step)⟩
        · rw [if_neg c12] at H
          have c12b0 : (a1 == 3) = false := beq_eq_false_iff_ne.mpr c12
          have c12b1 : (a1 != 3) = true := bne_iff_ne.mpr c12
          by_cases c16 : a1 = 4
          · rw [if_pos c16] at H
            have c16b0 : (a1 == 4) = true := beq_iff_eq.mpr c16
            have c16b1 : (a1 != 4) = false := bne_eq_false_iff_eq.mpr c16
            clear c16
            by_cases c17 : t127 = true
            · subst c17
              have H1 : (some true) = some r := by rw [if_pos rfl] at H; exact H
              clear H
              have H := H1
              clear H1
              obtain rfl := Option.some.inj H
              go_enter Tryd.func33, Tryd.ntmps33
              go_wp2_with (first | ((with_reducible refine gate_callee (f := 58) rfl ?_); refine goesL_ (some 8) rfl rfl Tryd.func58 (by kernel_rfl) rfl #[] rfl (by (try simp only [List.map_toArray, List.map_cons, List.map_nil]); first | done | rfl | (simp only [List.length_drop, List.length_take]; rfl)) ?_; (with_reducible refine (doorkeeperref02_letters.calls  t126 _ A3.out).mono ?_); rintro e w' ⟨rfl, ⟨nd, rfl⟩⟩; refine ⟨_, rfl, ?_⟩) | ((with_reducible refine gate_callee (f := 25) rfl ?_); refine goesL_ (some 9) rfl rfl Tryd.func25 (by kernel_rfl) rfl #[.int .u8 a0, .string t126] rfl (by (try simp only [List.map_toArray, List.map_cons, List.map_nil]); first | done | rfl | (simp only [List.length_drop, List.length_take]; rfl)) ?_; (with_reducible refine (doorkeeperref02_In.calls k a0 t126 true _ A4.out).mono ?_); rintro e w' ⟨rfl, ⟨nd, rfl⟩⟩; refine ⟨_, rfl, ?_⟩) | ((with_reducible refine gate_callee (f := 25) rfl ?_); refine goesL_ (some 11) rfl rfl Tryd.func25 (by kernel_rfl) rfl #[.int .u8 a0, .string (⟨#[48, 49, 50, 51, 52, 53, 54, 55, 56, 57]⟩ : ByteArray)] rfl (by (try simp only [List.map_toArray, List.map_cons, List.map_nil]); first | done | rfl | (simp only [List.length_drop, List.length_take]; rfl)) ?_; (with_reducible refine (doorkeeperref02_In.calls k a0 (⟨#[48, 49, 50, 51, 52, 53, 54, 55, 56, 57]⟩ : ByteArray) t128 _ A5.out).mono ?_); rintro e w' ⟨rfl, ⟨nd, rfl⟩⟩; refine ⟨_, rfl, ?_⟩))
              go_ret
              exact ⟨by first | rfl | (simp; done) | (simp [*]; done), by repeat (first | exact Drawn0.refl _ | apply Drawn0.step)⟩
            · replace c17 := Bool.eq_false_iff.mpr c17
              subst c17
              have H1 : (if t128 = true then (some true) else ((doorkeeperref02_In.f k a0 (⟨#[45, 46, 95, 126, 33, 36, 38, 39, 40, 41, 42, 43, 44, 59, 61, 58, 64]⟩ : ByteArray)).bind fun t131 => (some t131))) = some r := by rw [if_neg (show ¬ (false = true) by decide)] at H; exact H
              clear H
              have H := H1
              clear H1
              by_cases c18 : t128 = true
              · subst c18
                have H1 : (some true) = some r := by rw [if_pos rfl] at H; exact H
                clear H
                have H := H1
                clear H1
                obtain rfl := Option.some.inj H
                go_enter Tryd.func33, Tryd.ntmps33
                go_wp2_with (first | ((with_reducible refine gate_callee (f := 58) rfl ?_); refine goesL_ (some 8) rfl rfl Tryd.func58 (by kernel_rfl) rfl #[] rfl (by (try simp only [List.map_toArray, List.map_cons, List.map_nil]); first | done | rfl | (simp only [List.length_drop, List.length_take]; rfl)) ?_; (with_reducible refine (doorkeeperref02_letters.calls  t126 _ A3.out).mono ?_); rintro e w' ⟨rfl, ⟨nd, rfl⟩⟩; refine ⟨_, rfl, ?_⟩) | ((with_reducible refine gate_callee (f := 25) rfl ?_); refine goesL_ (some 9) rfl rfl Tryd.func25 (by kernel_rfl) rfl #[.int .u8 a0, .string t126] rfl (by (try simp only [List.map_toArray, List.map_cons, List.map_nil]); first | done | rfl | (simp only [List.length_drop, List.length_take]; rfl)) ?_; (with_reducible refine (doorkeeperref02_In.calls k a0 t126 false _ A4.out).mono ?_); rintro e w' ⟨rfl, ⟨nd, rfl⟩⟩; refine ⟨_, rfl, ?_⟩) | ((with_reducible refine gate_callee (f := 25) rfl ?_); refine goesL_ (some 11) rfl rfl Tryd.func25 (by kernel_rfl) rfl #[.int .u8 a0, .string (⟨#[48, 49, 50, 51, 52, 53, 54, 55, 56, 57]⟩ : ByteArray)] rfl (by (try simp only [List.map_toArray, List.map_cons, List.map_nil]); first | done | rfl | (simp only [List.length_drop, List.length_take]; rfl)) ?_; (with_reducible refine (doorkeeperref02_In.calls k a0 (⟨#[48, 49, 50, 51, 52, 53, 54, 55, 56, 57]⟩ : ByteArray) true _ A5.out).mono ?_); rintro e w' ⟨rfl, ⟨nd, rfl⟩⟩; refine ⟨_, rfl, ?_⟩))
                go_ret
                exact ⟨by first | rfl | (simp; done) | (simp [*]; done), by repeat (first | exact Drawn0.refl _ | apply Drawn0.step)⟩
              · replace c18 := Bool.eq_false_iff.mpr c18
                subst c18
                have H1 : ((doorkeeperref02_In.f k a0 (⟨#[45, 46, 95, 126, 33, 36, 38, 39, 40, 41, 42, 43, 44, 59, 61, 58, 64]⟩ : ByteArray)).bind fun t131 => (some t131)) = some r := by rw [if_neg (show ¬ (false = true) by decide)] at H; exact H
                clear H
                have H := H1
                clear H1
                replace H := Option.bind_eq_some_iff.mp H
                obtain ⟨t131, A190, H⟩ := H
                replace H : (some t131) = some r := H
                have A19 := Aside0.mk A190
                clear A190
                obtain rfl := Option.some.inj H
                go_enter Tryd.func33, Tryd.ntmps33
                go_wp2_with (first | ((with_reducible refine gate_callee (f := 58) rfl ?_); refine goesL_ (some 8) rfl rfl Tryd.func58 (by kernel_rfl) rfl #[] rfl (by (try simp only [List.map_toArray, List.map_cons, List.map_nil]); first | done | rfl | (simp only [List.length_drop, List.length_take]; rfl)) ?_; (with_reducible refine (doorkeeperref02_letters.calls  t126 _ A3.out).mono ?_); rintro e w' ⟨rfl, ⟨nd, rfl⟩⟩; refine ⟨_, rfl, ?_⟩) | ((with_reducible refine gate_callee (f := 25) rfl ?_); refine goesL_ (some 9) rfl rfl Tryd.func25 (by kernel_rfl) rfl #[.int .u8 a0, .string t126] rfl (by (try simp only [List.map_toArray, List.map_cons, List.map_nil]); first | done | rfl | (simp only [List.length_drop, List.length_take]; rfl)) ?_; (with_reducible refine (doorkeeperref02_In.calls k a0 t126 false _ A4.out).mono ?_); rintro e w' ⟨rfl, ⟨nd, rfl⟩⟩; refine ⟨_, rfl, ?_⟩) | ((with_reducible refine gate_callee (f := 25) rfl ?_); refine goesL_ (some 11) rfl rfl Tryd.func25 (by kernel_rfl) rfl #[.int .u8 a0, .string (⟨#[48, 49, 50, 51, 52, 53, 54, 55, 56, 57]⟩ : ByteArray)] rfl (by (try simp only [List.map_toArray, List.map_cons, List.map_nil]); first | done | rfl | (simp only [List.length_drop, List.length_take]; rfl)) ?_; (with_reducible refine (doorkeeperref02_In.calls k a0 (⟨#[48, 49, 50, 51, 52, 53, 54, 55, 56, 57]⟩ : ByteArray) false _ A5.out).mono ?_); rintro e w' ⟨rfl, ⟨nd, rfl⟩⟩; refine ⟨_, rfl, ?_⟩) | (go_at_call 25; (with_reducible refine (doorkeeperref02_In.calls k a0 (⟨#[45, 46, 95, 126, 33, 36, 38, 39, 40, 41, 42, 43, 44, 59, 61, 58, 64]⟩ : ByteArray) t131 _ A19.out).mono ?_); rintro e w' ⟨rfl, ⟨nd, rfl⟩⟩))
                go_ret
                exact ⟨by first | rfl | (simp; done) | (simp [*]; done), by repeat (first | exact Drawn0.refl _ | apply Drawn0.step)⟩
          · rw [if_neg c16] at H
            have c16b0 : (a1 == 4) = false := beq_eq_false_iff_ne.mpr c16
            have c16b1 : (a1 != 4) = true := bne_iff_ne.mpr c16
            by_cases c20 : a0 = 9
            · rw [if_pos c20] at H
              have c20b0 : (a0 == 9) = true := beq_iff_eq.mpr c20
              have c20b1 : (a0 != 9) = false := bne_eq_false_iff_eq.mpr c20
              clear c20
              obtain rfl := Option.some.inj H
              go_enter Tryd.func33, Tryd.ntmps33
              go_wp2_with (first | ((with_reducible refine gate_callee (f := 58) rfl ?_); refine goesL_ (some 8) rfl rfl Tryd.func58 (by kernel_rfl) rfl #[] rfl (by (try simp only [List.map_toArray, List.map_cons, List.map_nil]); first | done | rfl | (simp only [List.length_drop, List.length_take]; rfl)) ?_; (with_reducible refine (doorkeeperref02_letters.calls  t126 _ A3.out).mono ?_); rintro e w' ⟨rfl, ⟨nd, rfl⟩⟩; refine ⟨_, rfl, ?_⟩) | ((with_reducible refine gate_callee (f := 25) rfl ?_); refine goesL_ (some 9) rfl rfl Tryd.func25 (by kernel_rfl) rfl #[.int .u8 a0, .string t126] rfl (by (try simp only [List.map_toArray, List.map_cons, List.map_nil]); first | done | rfl | (simp only [List.length_drop, List.length_take]; rfl)) ?_; (with_reducible refine (doorkeeperref02_In.calls k a0 t126 t127 _ A4.out).mono ?_); rintro e w' ⟨rfl, ⟨nd, rfl⟩⟩; refine ⟨_, rfl, ?_⟩) | ((with_reducible refine gate_callee (f := 25) rfl ?_); refine goesL_ (some 11) rfl rfl Tryd.func25 (by kernel_rfl) rfl #[.int .u8 a0, .string (⟨#[48, 49, 50, 51, 52, 53, 54, 55, 56, 57]⟩ : ByteArray)] rfl (by (try simp only [List.map_toArray, List.map_cons, List.map_nil]); first | done | rfl | (simp only [List.length_drop, List.length_take]; rfl)) ?_; (with_reducible refine (doorkeeperref02_In.calls k a0 (⟨#[48, 49, 50, 51, 52, 53, 54, 55, 56, 57]⟩ : ByteArray) t128 _ A5.out).mono ?_); rintro e w' ⟨rfl, ⟨nd, rfl⟩⟩; refine ⟨_, rfl, ?_⟩))
              go_ret
              exact ⟨by first | rfl | (simp; done) | (simp [*]; done), by repeat (first | exact Drawn0.refl _ | apply Drawn0.step)⟩
            · rw [if_neg c20] at H
              have c20b0 : (a0 == 9) = false := beq_eq_false_iff_ne.mpr c20
              have c20b1 : (a0 != 9) = true := bne_iff_ne.mpr c20
              by_cases c21 : a0 ≥ 32
              · rw [if_pos c21] at H
                have c21b0 : decide (32 ≤ a0) = true := decide_eq_true c21
                clear c21
                obtain rfl := Option.some.inj H
                go_enter Tryd.func33, Tryd.ntmps33
                go_wp2_with (first | ((with_reducible refine gate_callee (f := 58) rfl ?_); refine goesL_ (some 8) rfl rfl Tryd.func58 (by kernel_rfl) rfl #[] rfl (by (try simp only [List.map_toArray, List.map_cons, List.map_nil]); first | done | rfl | (simp only [List.length_drop, List.length_take]; rfl)) ?_; (with_reducible refine (doorkeeperref02_letters.calls  t126 _ A3.out).mono ?_); rintro e w' ⟨rfl, ⟨nd, rfl⟩⟩; refine ⟨_, rfl, ?_⟩) | ((with_reducible refine gate_callee (f := 25) rfl ?_); refine goesL_ (some 9) rfl rfl Tryd.func25 (by kernel_rfl) rfl #[.int .u8 a0, .string t126] rfl (by (try simp only [List.map_toArray, List.map_cons, List.map_nil]); first | done | rfl | (simp only [List.length_drop, List.length_take]; rfl)) ?_; (with_reducible refine (doorkeeperref02_In.calls k a0 t126 t127 _ A4.out).mono ?_); rintro e w' ⟨rfl, ⟨nd, rfl⟩⟩; refine ⟨_, rfl, ?_⟩) | ((with_reducible refine gate_callee (f := 25) rfl ?_); refine goesL_ (some 11) rfl rfl Tryd.func25 (by kernel_rfl) rfl #[.int .u8 a0, .string (⟨#[48, 49, 50, 51, 52, 53, 54, 55, 56, 57]⟩ : ByteArray)] rfl (by (try simp only [List.map_toArray, List.map_cons, List.map_nil]); first | done | rfl | (simp only [List.length_drop, List.length_take]; rfl)) ?_; (with_reducible refine (doorkeeperref02_In.calls k a0 (⟨#[48, 49, 50, 51, 52, 53, 54, 55, 56, 57]⟩ : ByteArray) t128 _ A5.out).mono ?_); rintro e w' ⟨rfl, ⟨nd, rfl⟩⟩; refine ⟨_, rfl, ?_⟩))
                go_ret
                exact ⟨by first | rfl | (simp; done) | (simp [*]; done), by repeat (first | exact Drawn0.refl _ | apply Drawn0.step)⟩
              · rw [if_neg c21] at H
                have c21b0 : decide (32 ≤ a0) = false := decide_eq_false c21
                clear c21
                obtain rfl := Option.some.inj H
                go_enter Tryd.func33, Tryd.ntmps33
                go_wp2_with (first | ((with_reducible refine gate_callee (f := 58) rfl ?_); refine goesL_ (some 8) rfl rfl Tryd.func58 (by kernel_rfl) rfl #[] rfl (by (try simp only [List.map_toArray, List.map_cons, List.map_nil]); first | done | rfl | (simp only [List.length_drop, List.length_take]; rfl)) ?_; (with_reducible refine (doorkeeperref02_letters.calls  t126 _ A3.out).mono ?_); rintro e w' ⟨rfl, ⟨nd, rfl⟩⟩; refine ⟨_, rfl, ?_⟩) | ((with_reducible refine gate_callee (f := 25) rfl ?_); refine goesL_ (some 9) rfl rfl Tryd.func25 (by kernel_rfl) rfl #[.int .u8 a0, .string t126] rfl (by (try simp only [List.map_toArray, List.map_cons, List.map_nil]); first | done | rfl | (simp only [List.length_drop, List.length_take]; rfl)) ?_; (with_reducible refine (doorkeeperref02_In.calls k a0 t126 t127 _ A4.out).mono ?_); rintro e w' ⟨rfl, ⟨nd, rfl⟩⟩; refine ⟨_, rfl, ?_⟩) | ((with_reducible refine gate_callee (f := 25) rfl ?_); refine goesL_ (some 11) rfl rfl Tryd.func25 (by kernel_rfl) rfl #[.int .u8 a0, .string (⟨#[48, 49, 50, 51, 52, 53, 54, 55, 56, 57]⟩ : ByteArray)] rfl (by (try simp only [List.map_toArray, List.map_cons, List.map_nil]); first | done | rfl | (simp only [List.length_drop, List.length_take]; rfl)) ?_; (with_reducible refine (doorkeeperref02_In.calls k a0 (⟨#[48, 49, 50, 51, 52, 53, 54, 55, 56, 57]⟩ : ByteArray) t128 _ A5.out).mono ?_); rintro e w' ⟨rfl, ⟨nd, rfl⟩⟩; refine ⟨_, rfl, ?_⟩))
                go_ret
                exact ⟨by first | rfl | (simp; done) | (simp [*]; done), by repeat (first | exact Drawn0.refl _ | apply Drawn0.step)⟩

end Go.Proofs.YtiolgglipcijpaaDoor.P
end

section
namespace Go.Proofs.YtiolgglipcijpaaDoor.P
open Go.RowKit Go.Proofs.YtiolgglipcijpaaDoorW.PrintWords Go.Proofs.YtiolgglipcijpaaDoorW.PrintLast Go.Proofs.YtiolgglipcijpaaDoorW.PrintMore
attribute [local go_sem] max2_int min2_int max_two min_two max_three min_three max_four min_four   -- for this text's walks alone
set_option linter.unusedVariables false
set_option linter.unusedSimpArgs false

/-! ### doorkeeperref02_All: function 57 -/
def doorkeeperref02_All.l0 : Nat → ByteArray → Int → Int → Option (Bool)
  | 0, _, _, _ => none
  | k + 1, x0, x1, x5 => if x5 < (x0.size : Int) then (if 0 ≤ x5 then ((doorkeeperref02_Class.f k (bt x0 x5) x1).bind fun t132 => (if t132 = true then (doorkeeperref02_All.l0 k x0 x1 (wrap64 (x5 + 1))) else (some false))) else (none)) else (some true)
def doorkeeperref02_All.f (k : Nat) (a0 : ByteArray) (a1 : Int) : Option (Bool) := doorkeeperref02_All.l0 k a0 a1 0
theorem doorkeeperref02_All.mono_l : ∀ k, (∀ y0 y1 y2, LeO (doorkeeperref02_All.l0 k y0 y1 y2) (doorkeeperref02_All.l0 (k + 1) y0 y1 y2))
  | 0 => fun _ _ _ r h => by simp [doorkeeperref02_All.l0] at h
  | k + 1 => by
    have ih0 := doorkeeperref02_All.mono_l k
    · intro y0 y1 y2
      unfold doorkeeperref02_All.l0
      repeat' first
      | (with_reducible exact ih0 _ _ _)
      | (with_reducible exact doorkeeperref02_Class.mono _ _ _)
      | (with_reducible exact LeO.refl _)
      | (with_reducible exact LeO.none _)
      | (with_reducible refine LeO.ite ?_ ?_)
      | (with_reducible refine LeO.bind ?_ (fun _ => ?_))
      | exact ih0 _ _ _
      | exact doorkeeperref02_Class.mono _ _ _
      | exact LeO.none _
      | refine LeO.ite ?_ ?_
      | refine LeO.bind ?_ (fun _ => ?_)
theorem doorkeeperref02_All.mono : ∀ a0 a1 k, LeO (doorkeeperref02_All.f k a0 a1) (doorkeeperref02_All.f (k + 1) a0 a1) := by
  intro a0 a1 k
  have ih0 := doorkeeperref02_All.mono_l k
  unfold doorkeeperref02_All.f
  repeat' first
      | (with_reducible exact ih0 _ _ _)
      | (with_reducible exact doorkeeperref02_Class.mono _ _ _)
      | (with_reducible exact LeO.refl _)
      | (with_reducible exact LeO.none _)
      | (with_reducible refine LeO.ite ?_ ?_)
      | (with_reducible refine LeO.bind ?_ (fun _ => ?_))
      | exact ih0 _ _ _
      | exact doorkeeperref02_Class.mono _ _ _
      | exact LeO.none _
      | refine LeO.ite ?_ ?_
      | refine LeO.bind ?_ (fun _ => ?_)
set_option maxHeartbeats 8000000 in
set_option maxRecDepth 100000 in
theorem doorkeeperref02_All.calls (k : Nat) (a0 : ByteArray) (a1 : Int) (r : Bool) (w : World) (h : doorkeeperref02_All.f k a0 a1 = some r) :
    Calls Tryd.prog 57 #[.string a0, .int .i64 a1] w fun e w' => e = .returned (.bool r) ∧ Drawn0 w w' := by
  have H : (doorkeeperref02_All.l0 k a0 a1 0) = some r := h
  clear h
  have H' := Aside0.mk H
  clear H
  go_enter Tryd.func57, Tryd.ntmps57
  go_wp2
  go_loopg [5] k (fun kq v5 w' => ∃ (x5_1 : Int), v5 = .int .i64 x5_1 ∧ Aside0 (doorkeeperref02_All.l0 kq a0 a1 x5_1 = some r) ∧ Aside0 (kq ≤ k) ∧ Drawn0 w w')
  case atStart => exact ⟨(0), (by first | rfl | (simp; done) | (simp [*]; done)), H', ⟨Nat.le_refl _⟩, by repeat (first | exact Drawn0.refl _ | apply Drawn0.step)⟩
  case round =>
    clear H'
    try clear p2
    obtain ⟨x5_1, rfl, HA, HK1, ⟨m1, rfl⟩⟩ := hrel
    cases gk with
    | zero => exact absurd HA.out (by simp [doorkeeperref02_All.l0])
    | succ k1 =>
      have H := HA.out
      clear HA
      simp only [doorkeeperref02_All.l0] at H
      by_cases c3 : x5_1 < (a0.size : Int)
      · rw [if_pos c3] at H
        have c3b0 : decide (x5_1 < (a0.size : Int)) = true := decide_eq_true c3
        clear c3
        by_cases c4 : 0 ≤ x5_1
        · rw [if_pos c4] at H
          have c4b0 : decide (0 ≤ x5_1) = true := decide_eq_true c4
          clear c4
          replace H := Option.bind_eq_some_iff.mp H
          obtain ⟨t132, A60, H⟩ := H
          replace H : (if t132 = true then (doorkeeperref02_All.l0 k1 a0 a1 (wrap64 (x5_1 + 1))) else (some false)) = some r := H
          have A6 := Aside0.mk A60
          clear A60
          by_cases c7 : t132 = true
          · subst c7
            have H1 : (doorkeeperref02_All.l0 k1 a0 a1 (wrap64 (x5_1 + 1))) = some r := by rw [if_pos rfl] at H; exact H
            clear H
            have H := H1
            clear H1
            have H' := Aside0.mk H
            clear H
            have p5 : 0 ≤ (x5_1 : Int) := of_decide_eq_true (by first | (with_reducible assumption) | assumption)
            have q5 : x5_1 < (a0.size : Int) := of_decide_eq_true (by first | (with_reducible assumption) | assumption)
            have hx5 := bt_at a0 x5_1
            replace p5 := eq_true p5
            replace q5 := eq_true q5
            go_wp2_with (first | ((with_reducible refine gate_callee (f := 33) rfl ?_); refine goesL_ (some 16) rfl rfl Tryd.func33 (by kernel_rfl) rfl #[.int .u8 (bt a0 x5_1), .int .i64 a1] rfl (by (try simp only [List.map_toArray, List.map_cons, List.map_nil]); first | done | rfl | (simp only [List.length_drop, List.length_take]; rfl)) ?_; (with_reducible refine (doorkeeperref02_Class.calls k1 (bt a0 x5_1) a1 true _ A6.out).mono ?_); rintro e w' ⟨rfl, ⟨nd, rfl⟩⟩; refine ⟨_, rfl, ?_⟩))
            go_roundg k1
            case measure => have := HK1.out; omega
            case rel => exact ⟨(wrap64 (x5_1 + 1)), (by first | rfl | (simp; done) | (simp [*]; done)), H', ⟨by have := HK1.out; omega⟩, by repeat (first | exact Drawn0.refl _ | apply Drawn0.step)⟩
          · replace c7 := Bool.eq_false_iff.mpr c7
            subst c7
            have H1 : (some false) = some r := by rw [if_neg (show ¬ (false = true) by decide)] at H; exact H
            clear H
            have H := H1
            clear H1
            obtain rfl := Option.some.inj H
            have p5 : 0 ≤ (x5_1 : Int) := of_decide_eq_true (by first | (with_reducible assumption) | assumption)
            have q5 : x5_1 < (a0.size : Int) := of_decide_eq_true (by first | (with_reducible assumption) | assumption)
            have hx5 := bt_at a0 x5_1
            replace p5 := eq_true p5
            replace q5 := eq_true q5
            go_wp2_with (first | ((with_reducible refine gate_callee (f := 33) rfl ?_); refine goesL_ (some 16) rfl rfl Tryd.func33 (by kernel_rfl) rfl #[.int .u8 (bt a0 x5_1), .int .i64 a1] rfl (by (try simp only [List.map_toArray, List.map_cons, List.map_nil]); first | done | rfl | (simp only [List.length_drop, List.length_take]; rfl)) ?_; (with_reducible refine (doorkeeperref02_Class.calls k1 (bt a0 x5_1) a1 false _ A6.out).mono ?_); rintro e w' ⟨rfl, ⟨nd, rfl⟩⟩; refine ⟨_, rfl, ?_⟩))
            go_ret
            exact ⟨by first | rfl | (simp; done) | (simp [*]; done), by repeat (first | exact Drawn0.refl _ | apply Drawn0.step)⟩
        · rw [if_neg c4] at H
          exact absurd H (by simp)
      · rw [if_neg c3] at H
        have c3b0 : decide (x5_1 < (a0.size : Int)) = false := decide_eq_false c3
        clear c3
        obtain rfl := Option.some.inj H
        go_wp2
        go_ret
        exact ⟨by first | rfl | (simp; done) | (simp [*]; done), by repeat (first | exact Drawn0.refl _ | apply Drawn0.step)⟩

end Go.Proofs.YtiolgglipcijpaaDoor.P
end
