/- Strings of known bytes on the second machine. -/
import Derived.Test.YtpefnjbmbfdmmaaDoorGl
import Derived.Test.YtpefnjbmbfdmmaaDoorScr
namespace Go.Proofs.YtpefnjbmbfdmmaaDoor
open Go.RowKit

/-- The bytes as a string. -/
def sB (l : List UInt8) : ByteArray := ⟨l.toArray⟩
abbrev vS (l : List UInt8) : AV := .v (.string (sB l))
abbrev rowS (l : List UInt8) : List AV := [vS l]
abbrev row8 (x : UInt8) : List AV := [.v (.int .u8 ((x.toNat : Nat) : Int))]
theorem sB_inj {a b : List UInt8} (h : sB a = sB b) : a = b := by
  have := congrArg (fun z : ByteArray => z.data.toList) h
  exact this
theorem okSt {a b : ByteArray} (h : a = b) : Res.ok (.v (.string a)) = .ok (.v (.string b)) := by rw [h]
theorem needSt {p : Prop} {a b : ByteArray} (h : a = b) : Res.need p (.v (.string a)) = .need p (.v (.string b)) := by rw [h]
theorem okBo {a b : Bool} (h : a = b) : Res.ok (.v (.bool a)) = .ok (.v (.bool b)) := by rw [h]
theorem sB_list (x : ByteArray) : sB x.data.toList = x := rfl
theorem cat_sB (a b : List UInt8) : sB a ++ sB b = sB (a ++ b) := by
  apply ByteArray.ext; show _ = (a ++ b).toArray
  rw [ByteArray.data_append]; show a.toArray ++ b.toArray = _; simp
theorem ext_sB (l : List UInt8) (i j : Nat) : (sB l).extract i j = sB ((l.take j).drop i) := by
  apply ByteArray.ext; rw [ByteArray.data_extract]; show (l.toArray).extract i j = _
  rw [List.extract_toArray, List.extract_eq_drop_take']; rfl
theorem ext_to (l : List UInt8) (j : Nat) : (sB l).extract 0 j = sB (l.take j) := ext_sB l 0 j
theorem ext_from (l : List UInt8) (i : Nat) : (sB l).extract i (sB l).size = sB (l.drop i) := by rw [ext_sB]; show sB ((l.take l.length).drop i) = _; rw [List.take_length]
theorem eq_sB (a b : List UInt8) : (sB a == sB b) = decide (a = b) := by
  show (a.toArray == b.toArray) = decide (a = b)
  rw [Bool.eq_iff_iff, decide_eq_true_eq, beq_iff_eq]
  exact ⟨fun h => sB_inj (congrArg ByteArray.mk h), fun h => by rw [h]⟩
theorem eq_tL (a b : List UInt8) : ((sB a).toList == (sB b).toList) = decide (a = b) := by
  rw [ByteArray.toList_eq, ByteArray.toList_eq]
  show (a == b) = decide (a = b)
  rw [Bool.eq_iff_iff, decide_eq_true_eq, beq_iff_eq]
theorem u8_le (x : UInt8) : x.toNat ≤ 255 := by have := UInt8.toNat_lt x; omega
theorem subI8 {x y B : Nat} (h : y ≤ B) (hB : Nat.ble B 256 = true) : IntKind.wrap .u8 ((x : Int) - (y : Int)) = (((x + 256 - y) % 256 : Nat) : Int) := by
  have := Nat.le_of_ble_eq_true hB
  simp only [IntKind.wrap, IntKind.signed, IntKind.bits]
  simp
  omega
