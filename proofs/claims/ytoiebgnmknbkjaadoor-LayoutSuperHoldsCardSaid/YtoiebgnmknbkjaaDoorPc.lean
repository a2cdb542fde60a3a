/- The sum of bytes, as the program's table has it. No program in sight. -/
import Derived.Test.YtoiebgnmknbkjaaDoorPb
set_option linter.unusedVariables false
set_option linter.unusedSimpArgs false
namespace Go.Wk
open Go
def tab : List (BitVec 32) := [0x00000000, 0x1db71064, 0x3b6e20c8, 0x26d930ac, 0x76dc4190, 0x6b6b51f4, 0x4db26158, 0x5005713c, 0xedb88320, 0xf00f9344, 0xd6d6a3e8, 0xcb61b38c, 0x9b64c2b0, 0x86d3d2d4, 0xa00ae278, 0xbdbdf21c]
def tabv (i : Nat) : BitVec 32 := tab.getD i 0
def step4 (r : BitVec 32) : BitVec 32 := tabv (r &&& 15).toNat ^^^ (r >>> 4)
def crcByte (r : BitVec 32) (c : UInt8) : BitVec 32 := step4 (step4 (r ^^^ BitVec.ofNat 32 c.toNat))
def crc (r : BitVec 32) (l : List UInt8) : BitVec 32 := l.foldl crcByte r
def sumOn (s : BitVec 32) (l : List UInt8) : BitVec 32 := ~~~ crc (~~~ s) l
def Tab (w : World) : Prop := ∀ i, i < 16 → w.cell? ⟨0, i, none⟩ = some (b32 (tabv i))
theorem Tab.mod {w w' : World} (h : Tab w) (hm : Mod (fun _ => False) w w') : Tab w' := fun i hi => by
  have hc := h i hi
  have := hm.old 0 (block_lt_of_cell hc) (fun h => h)
  unfold World.cell? at *
  rw [this]; exact hc
theorem and15_lt (r : BitVec 32) : (r &&& 15).toNat < 16 := by
  have h1 : (r &&& 15).toNat = r.toNat % 16 := by
    rw [BitVec.toNat_and]
    exact Nat.and_two_pow_sub_one_eq_mod r.toNat 4
  omega
theorem and15 (x : BitVec 32) : ib .and .u32 (x.toNat : Int) 15 = ((x &&& 15).toNat : Int) := and32 x 15
theorem crc_take_succ (r : BitVec 32) (l : List UInt8) (k : Nat) (c : UInt8) (h : l[k]? = some c) : crc r (l.take (k + 1)) = crcByte (crc r (l.take k)) c := by
  obtain ⟨hk, rfl⟩ := List.getElem?_eq_some_iff.1 h
  rw [List.take_succ_eq_append_getElem hk, crc, List.foldl_append]; rfl
theorem crc_append (r : BitVec 32) (l m : List UInt8) : crc r (l ++ m) = crc (crc r l) m := List.foldl_append
theorem sumOn_append (s : BitVec 32) (l m : List UInt8) : sumOn (sumOn s l) m = sumOn s (l ++ m) := by
  simp [sumOn, crc_append]
end Go.Wk
