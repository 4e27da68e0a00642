/- utf8.DecodeRune at this program, and the two tables that it reads. -/
import Derived.Shelf.Spec.DecodeRune
import Derived.Test.YtdbkefgdeenjoaaDoorProg
import Derived.WalkKit
import Derived.Below
namespace Go.Proofs
def Tryd.layDec_ren : Go.Shelf.Ren := ⟨fun | 32 => 49 | 49 => 54 | n => n, fun | 30 => 22 | 21 => 21 | 3 => 3 | 0 => 0 | 5 => 5 | 4 => 4 | 33 => 88 | 66 => 95 | 25 => 73 | 69 => 98 | 68 => 97 | n => n, fun | 2 => 0 | 3 => 1 | n => n⟩
theorem Tryd.layDec : Go.Proofs.Lays7.n32 Tryd.prog Tryd.layDec_ren := {
  mixed := by kernel_rfl
  f32 := Tryd.func49.trans (congrArg some (by kernel_rfl))
  f49 := Tryd.func54.trans (congrArg some (by kernel_rfl))
  t0 := Tryd.underlying0
  a0 := Tryd.isAgg0
  z0 := Tryd.sizeOf0
  v0 := Tryd.zeroValue0
  i0 := by kernel_rfl
  t3 := Tryd.underlying3
  a3 := Tryd.isAgg3
  z3 := Tryd.sizeOf3
  v3 := Tryd.zeroValue3
  i3 := by kernel_rfl
  t4 := Tryd.underlying4
  a4 := Tryd.isAgg4
  z4 := Tryd.sizeOf4
  v4 := Tryd.zeroValue4
  i4 := by kernel_rfl
  t5 := Tryd.underlying5
  a5 := Tryd.isAgg5
  z5 := Tryd.sizeOf5
  v5 := Tryd.zeroValue5
  i5 := by kernel_rfl
  t21 := Tryd.underlying21
  a21 := Tryd.isAgg21
  z21 := Tryd.sizeOf21
  v21 := Tryd.zeroValue21
  i21 := by kernel_rfl
  t25 := Tryd.underlying73
  a25 := Tryd.isAgg73
  z25 := Tryd.sizeOf73
  v25 := Tryd.zeroValue73
  i25 := by kernel_rfl
  t30 := Tryd.underlying22
  a30 := Tryd.isAgg22
  z30 := Tryd.sizeOf22
  v30 := Tryd.zeroValue22
  i30 := by kernel_rfl
  t33 := Tryd.underlying88
  a33 := Tryd.isAgg88
  z33 := Tryd.sizeOf88
  v33 := Tryd.zeroValue88
  i33 := by kernel_rfl
  t66 := Tryd.underlying95
  a66 := Tryd.isAgg95
  z66 := Tryd.sizeOf95
  t68 := Tryd.underlying97
  a68 := Tryd.isAgg97
  z68 := Tryd.sizeOf97
  v68 := Tryd.zeroValue97
  i68 := by kernel_rfl
  t69 := Tryd.underlying98
  a69 := Tryd.isAgg98
  z69 := Tryd.sizeOf98
  v69 := Tryd.zeroValue98
  i69 := by kernel_rfl
  g2 := by kernel_rfl
  g3 := by kernel_rfl }
end Go.Proofs
namespace Go.Proofs.YtdbkefgdeenjoaaDoor.Tabs
open Go.RowKit
/-- The library's two tables lie as its text lays them. -/
def Holds (w : World) : Prop := Lib.Utf8Tabs 0 1 w ∧ 2 ≤ w.heap.size
theorem Holds.below {w W : World} (h : Holds w) (hb : Below w.heap.size w W) : Holds W := by
  obtain ⟨⟨h1, h2⟩, h3⟩ := h
  refine ⟨⟨fun c hc => ?_, fun i hi => ⟨?_, ?_⟩⟩, Nat.le_trans h3 hb.size⟩
  · exact (hb.cell (p := ⟨0, c, none⟩) (by show 0 < _; omega)).trans (h1 c hc)
  · exact (hb.cell (p := ⟨1, 2 * i, none⟩) (by show 1 < _; omega)).trans (h2 i hi).1
  · exact (hb.cell (p := ⟨1, 2 * i + 1, none⟩) (by show 1 < _; omega)).trans (h2 i hi).2
theorem Holds.drewN {w : World} (h : Holds w) (n : Nat) : Holds (w.drewN n) := h
theorem decode (s : ByteArray) (b off cap : Nat) (w : World) (hT : Holds w) (hp : ∀ j, j < s.size → w.cell? ⟨b, off + j, none⟩ = some (.int .u8 (s.get! j).toNat)) :
    Calls Tryd.prog 49 #[.slice (some ⟨b, off, none⟩) s.size cap] w fun e w' => e = .returned (.tuple #[.int .i32 (Lib.decodeGo s).1, .int .i64 (Lib.decodeGo s).2]) ∧ Below w.heap.size w w' :=
  Any7.utf8_DecodeRune Tryd.layDec s b off cap w hT.1 hp
end Go.Proofs.YtdbkefgdeenjoaaDoor.Tabs
