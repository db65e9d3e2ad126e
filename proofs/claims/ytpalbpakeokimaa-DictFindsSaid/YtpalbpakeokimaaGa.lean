/- What strings.IndexByte and strings.Contains (at the text '/') answer, by the shelf's contracts. -/
import Derived.Test.YtpalbpakeokimaaK0
import Derived.Shelf.Strings.Search1
import Derived.Shelf.Strings.Search2
import Derived.Shelf.Strings.Search3
import Derived.Shelf.Small.Strs
namespace Go.Proofs.Ytpalbpakeokimaa.PK
set_option linter.unusedVariables false
set_option linter.unusedSimpArgs false
open Go.RowKit Go.Proofs.YtpalbpakeokimaaW.PrintWords Go.Proofs.YtpalbpakeokimaaW.PrintLast Go.Proofs.YtpalbpakeokimaaW.PrintMore
open Go.Shelf
def Try.lays137_ren : Go.Shelf.Ren := ⟨fun | 137 => 88 | 217 => 97 | 266 => 99 | n => n, fun | 9 => 9 | 5 => 5 | 3 => 3 | n => n, fun | n => n⟩
theorem Try.lays137 : Go.Proofs.Lays.n137 Try.prog Try.lays137_ren := {
  mixed := by kernel_rfl
  f137 := Try.func88.trans (congrArg some (by kernel_rfl))
  f217 := Try.func97.trans (congrArg some (by kernel_rfl))
  f266 := Try.func99.trans (congrArg some (by kernel_rfl))
  t3 := Try.underlying3
  a3 := Try.isAgg3
  z3 := Try.sizeOf3
  v3 := Try.zeroValue3
  t5 := Try.underlying5
  a5 := Try.isAgg5
  z5 := Try.sizeOf5
  v5 := Try.zeroValue5
  t9 := Try.underlying9
  a9 := Try.isAgg9
  z9 := Try.sizeOf9
  v9 := Try.zeroValue9 }
def Try.lays144_ren : Go.Shelf.Ren := ⟨fun | 144 => 92 | 143 => 98 | 219 => 100 | 217 => 97 | 225 => 101 | 224 => 102 | 267 => 103 | 266 => 99 | 314 => 104 | n => n, fun | 9 => 9 | 4 => 4 | 3 => 3 | 5 => 5 | 46 => 123 | 146 => 124 | 51 => 31 | n => n, fun | 1 => 0 | n => n⟩
theorem Try.lays144 : Go.Proofs.Lays.n144 Try.prog Try.lays144_ren := {
  mixed := by kernel_rfl
  f143 := Try.func98.trans (congrArg some (by kernel_rfl))
  f144 := Try.func92.trans (congrArg some (by kernel_rfl))
  f217 := Try.func97.trans (congrArg some (by kernel_rfl))
  f219 := Try.func100.trans (congrArg some (by kernel_rfl))
  f224 := Try.func102.trans (congrArg some (by kernel_rfl))
  f225 := Try.func101.trans (congrArg some (by kernel_rfl))
  f266 := Try.func99.trans (congrArg some (by kernel_rfl))
  f267 := Try.func103.trans (congrArg some (by kernel_rfl))
  f314 := Try.func104.trans (congrArg some (by kernel_rfl))
  t3 := Try.underlying3
  a3 := Try.isAgg3
  z3 := Try.sizeOf3
  v3 := Try.zeroValue3
  t4 := Try.underlying4
  a4 := Try.isAgg4
  z4 := Try.sizeOf4
  v4 := Try.zeroValue4
  t5 := Try.underlying5
  a5 := Try.isAgg5
  z5 := Try.sizeOf5
  v5 := Try.zeroValue5
  t9 := Try.underlying9
  a9 := Try.isAgg9
  z9 := Try.sizeOf9
  v9 := Try.zeroValue9
  t46 := Try.underlying123
  a46 := Try.isAgg123
  z46 := Try.sizeOf123
  v46 := Try.zeroValue123
  t51 := Try.underlying31
  a51 := Try.isAgg31
  z51 := Try.sizeOf31
  v51 := Try.zeroValue31
  t146 := Try.underlying124
  a146 := Try.isAgg124
  z146 := Try.sizeOf124
  v146 := Try.zeroValue124
  g1 := by kernel_rfl }
def strings_IndexByte.f (a0 : ByteArray) (a1 : Int) : Option (Int) := some (Lib.indexByte a0.data.toList a1.toNat.toUInt8)
theorem strings_IndexByte.calls (a0 : ByteArray) (a1 : Int) (r : Int) (w : World) (h : strings_IndexByte.f a0 a1 = some r) :
    Calls Try.prog 88 #[.string a0, .int .u8 a1] w fun e w' => e = .returned (.int .i64 r) ∧ Drawn0 w w' := by
  obtain rfl := Option.some.inj h
  exact (Any.strings_IndexByte Try.lays137 a0 a1 w).mono fun e w' ⟨he, hw⟩ => ⟨he, hw ▸ Drawn0.refl _⟩
def strings_Contains.f (a0 : ByteArray) (a1 : ByteArray) : Option (Bool) := if a1 = ⟨#[47]⟩ then some (decide (0 ≤ Lib.indexByte a0.data.toList 47)) else none
theorem strings_Contains.calls (a0 : ByteArray) (a1 : ByteArray) (r : Bool) (w : World) (h : strings_Contains.f a0 a1 = some r) :
    Calls Try.prog 92 #[.string a0, .string a1] w fun e w' => e = .returned (.bool r) ∧ Drawn0 w w' := by
  unfold strings_Contains.f at h
  split at h
  · rename_i h1
    subst h1
    obtain rfl := Option.some.inj h
    exact (Any.strings_Contains_one Try.lays144 a0 47 w).mono fun e w' ⟨he, hw⟩ => ⟨he, hw ▸ Drawn0.refl _⟩
  · cases h
end Go.Proofs.Ytpalbpakeokimaa.PK
