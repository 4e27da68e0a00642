/- Plain lemmas on texts as lists of bytes. No condition. -/
import Derived.Test.YtmedojlhnpcniaaWWords
import Derived.Lib.Strings
namespace Go.Proofs.Ytmedojlhnpcniaa.Bytes
open Go.RowKit Go.Proofs.YtmedojlhnpcniaaW.PrintWords

theorem lit (s : ByteArray) : ∃ l : List UInt8, s = ⟨l.toArray⟩ := ⟨s.data.toList, by cases s; simp⟩
theorem toList_mk (l : List UInt8) : (ByteArray.mk l.toArray).toList = l := by rw [ByteArray.toList_eq]
theorem size_mk (l : List UInt8) : (ByteArray.mk l.toArray).size = l.length := by simp [ByteArray.size]
theorem data_mk (l : List UInt8) : (ByteArray.mk l.toArray).data.toList = l := rfl
theorem mk_inj {a b : List UInt8} (h : ByteArray.mk a.toArray = ByteArray.mk b.toArray) : a = b := by
  have := congrArg (fun s : ByteArray => s.data.toList) h; exact this
theorem extract_mk (l : List UInt8) (a b : Nat) : (ByteArray.mk l.toArray).extract a b = ⟨((l.drop a).take (b - a)).toArray⟩ := by
  have h := Lib.extract_data ⟨l.toArray⟩ a b
  cases hx : (ByteArray.mk l.toArray).extract a b with
  | mk d => rw [hx] at h; have h2 : d.toList = (l.drop a).take (b - a) := h; rw [← h2]
theorem extract_all (l : List UInt8) (a : Nat) : (ByteArray.mk l.toArray).extract a l.length = ⟨(l.drop a).toArray⟩ := by
  rw [extract_mk, List.take_of_length_le (by rw [List.length_drop]; exact Nat.le_refl _)]
theorem append_mk (a b : List UInt8) : ByteArray.mk a.toArray ++ ByteArray.mk b.toArray = ⟨(a ++ b).toArray⟩ := by
  have h : (ByteArray.mk a.toArray ++ ByteArray.mk b.toArray).data = (a ++ b).toArray := by rw [ByteArray.data_append]; simp
  cases hx : ByteArray.mk a.toArray ++ ByteArray.mk b.toArray with
  | mk d => rw [hx] at h; rw [show d = (a ++ b).toArray from h]
theorem bt_mk (l : List UInt8) (i : Int) : bt ⟨l.toArray⟩ i = ((l.getD i.toNat 0).toNat : Int) := by
  unfold bt
  split
  · rename_i h
    have h' : i.toNat < l.length := by rw [size_mk] at h; exact h
    rw [List.getD_eq_getElem?_getD, List.getElem?_eq_getElem h']
    rfl
  · rename_i h
    have h' : l.length ≤ i.toNat := by rw [size_mk] at h; omega
    rw [List.getD_eq_getElem?_getD, List.getElem?_eq_none h']
    rfl
theorem bt_nat (l : List UInt8) (n : Nat) (h : n < l.length) : bt ⟨l.toArray⟩ (n : Int) = (l[n].toNat : Int) := by
  rw [bt_mk, Int.toNat_natCast, List.getD_eq_getElem?_getD, List.getElem?_eq_getElem h]; rfl
theorem wrap64_nat (n : Nat) (h : n ≤ 140737488351232) : wrap64 ((n : Int) + 1) = ((n + 1 : Nat) : Int) := by unfold wrap64; omega
/-- What holds of all 256 bytes. -/
theorem all_u8 {p : UInt8 → Prop} (h : ∀ n : Fin 256, p (UInt8.ofFin n)) (c : UInt8) : p c := by
  have := h c.toFin; simpa using this
theorem toNat_inj {a b : UInt8} : ((a.toNat : Int) = (b.toNat : Int)) ↔ a = b := by
  constructor
  · intro h; apply UInt8.toNat_inj.mp; omega
  · intro h; rw [h]
end Go.Proofs.Ytmedojlhnpcniaa.Bytes
