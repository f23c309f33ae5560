/- Where the fields of the program's structs lie. -/
import Derived.Test.YtlkkiimmangplaaGreatDoorM
namespace Go.Proofs.YtlkkiimmangplaaGreatDoor

theorem fa_24_1 (b off : Nat) (w : World) : (Instr.fieldAt 24 (.pointer (some ⟨b, off, none⟩)) 1).run Tryz.prog w = .ok (.pointer (some ⟨b, off + 1, none⟩)) w := by
  simp [Instr.fieldAt, Instr.sureAddr, underlying, Tryz.underlying24, fieldPlace, Tryz.sizeOf3, add0]
theorem fa_24_2 (b off : Nat) (w : World) : (Instr.fieldAt 24 (.pointer (some ⟨b, off, none⟩)) 2).run Tryz.prog w = .ok (.pointer (some ⟨b, off + 2, none⟩)) w := by
  simp [Instr.fieldAt, Instr.sureAddr, underlying, Tryz.underlying24, fieldPlace, Tryz.sizeOf22, add0]
theorem fa_31_0 (b off : Nat) (w : World) : (Instr.fieldAt 31 (.pointer (some ⟨b, off, none⟩)) 0).run Tryz.prog w = .ok (.pointer (some ⟨b, off + 0, none⟩)) w := by
  simp [Instr.fieldAt, Instr.sureAddr, underlying, Tryz.underlying31, fieldPlace, Tryz.sizeOf3, add0]
theorem fa_31_1 (b off : Nat) (w : World) : (Instr.fieldAt 31 (.pointer (some ⟨b, off, none⟩)) 1).run Tryz.prog w = .ok (.pointer (some ⟨b, off + 1, none⟩)) w := by
  simp [Instr.fieldAt, Instr.sureAddr, underlying, Tryz.underlying31, fieldPlace, Tryz.sizeOf3, add0]
theorem fa_31_2 (b off : Nat) (w : World) : (Instr.fieldAt 31 (.pointer (some ⟨b, off, none⟩)) 2).run Tryz.prog w = .ok (.pointer (some ⟨b, off + 2, none⟩)) w := by
  simp [Instr.fieldAt, Instr.sureAddr, underlying, Tryz.underlying31, fieldPlace, Tryz.sizeOf3, add0]
theorem fa_31_3 (b off : Nat) (w : World) : (Instr.fieldAt 31 (.pointer (some ⟨b, off, none⟩)) 3).run Tryz.prog w = .ok (.pointer (some ⟨b, off + 3, none⟩)) w := by
  simp [Instr.fieldAt, Instr.sureAddr, underlying, Tryz.underlying31, fieldPlace, Tryz.sizeOf3, add0]
theorem fa_31_4 (b off : Nat) (w : World) : (Instr.fieldAt 31 (.pointer (some ⟨b, off, none⟩)) 4).run Tryz.prog w = .ok (.pointer (some ⟨b, off + 4, none⟩)) w := by
  simp [Instr.fieldAt, Instr.sureAddr, underlying, Tryz.underlying31, fieldPlace, Tryz.sizeOf3, add0]
theorem fa_31_5 (b off : Nat) (w : World) : (Instr.fieldAt 31 (.pointer (some ⟨b, off, none⟩)) 5).run Tryz.prog w = .ok (.pointer (some ⟨b, off + 5, none⟩)) w := by
  simp [Instr.fieldAt, Instr.sureAddr, underlying, Tryz.underlying31, fieldPlace, Tryz.sizeOf3, add0]
theorem fa_31_6 (b off : Nat) (w : World) : (Instr.fieldAt 31 (.pointer (some ⟨b, off, none⟩)) 6).run Tryz.prog w = .ok (.pointer (some ⟨b, off + 6, none⟩)) w := by
  simp [Instr.fieldAt, Instr.sureAddr, underlying, Tryz.underlying31, fieldPlace, Tryz.sizeOf3, add0]
theorem fa_31_7 (b off : Nat) (w : World) : (Instr.fieldAt 31 (.pointer (some ⟨b, off, none⟩)) 7).run Tryz.prog w = .ok (.pointer (some ⟨b, off + 7, none⟩)) w := by
  simp [Instr.fieldAt, Instr.sureAddr, underlying, Tryz.underlying31, fieldPlace, Tryz.sizeOf3, add0]
theorem fa_31_8 (b off : Nat) (w : World) : (Instr.fieldAt 31 (.pointer (some ⟨b, off, none⟩)) 8).run Tryz.prog w = .ok (.pointer (some ⟨b, off + 8, none⟩)) w := by
  simp [Instr.fieldAt, Instr.sureAddr, underlying, Tryz.underlying31, fieldPlace, Tryz.sizeOf3, add0]
theorem fa_31_9 (b off : Nat) (w : World) : (Instr.fieldAt 31 (.pointer (some ⟨b, off, none⟩)) 9).run Tryz.prog w = .ok (.pointer (some ⟨b, off + 9, none⟩)) w := by
  simp [Instr.fieldAt, Instr.sureAddr, underlying, Tryz.underlying31, fieldPlace, Tryz.sizeOf3, add0]
theorem fa_31_10 (b off : Nat) (w : World) : (Instr.fieldAt 31 (.pointer (some ⟨b, off, none⟩)) 10).run Tryz.prog w = .ok (.pointer (some ⟨b, off + 10, none⟩)) w := by
  simp [Instr.fieldAt, Instr.sureAddr, underlying, Tryz.underlying31, fieldPlace, Tryz.sizeOf3, add0]
theorem fa_31_11 (b off : Nat) (w : World) : (Instr.fieldAt 31 (.pointer (some ⟨b, off, none⟩)) 11).run Tryz.prog w = .ok (.pointer (some ⟨b, off + 11, none⟩)) w := by
  simp [Instr.fieldAt, Instr.sureAddr, underlying, Tryz.underlying31, fieldPlace, Tryz.sizeOf3, add0]
theorem fa_31_12 (b off : Nat) (w : World) : (Instr.fieldAt 31 (.pointer (some ⟨b, off, none⟩)) 12).run Tryz.prog w = .ok (.pointer (some ⟨b, off + 12, none⟩)) w := by
  simp [Instr.fieldAt, Instr.sureAddr, underlying, Tryz.underlying31, fieldPlace, Tryz.sizeOf3, add0]
theorem fa_31_13 (b off : Nat) (w : World) : (Instr.fieldAt 31 (.pointer (some ⟨b, off, none⟩)) 13).run Tryz.prog w = .ok (.pointer (some ⟨b, off + 13, none⟩)) w := by
  simp [Instr.fieldAt, Instr.sureAddr, underlying, Tryz.underlying31, fieldPlace, Tryz.sizeOf3, add0]
theorem fa_31_14 (b off : Nat) (w : World) : (Instr.fieldAt 31 (.pointer (some ⟨b, off, none⟩)) 14).run Tryz.prog w = .ok (.pointer (some ⟨b, off + 14, none⟩)) w := by
  simp [Instr.fieldAt, Instr.sureAddr, underlying, Tryz.underlying31, fieldPlace, Tryz.sizeOf4, add0]
theorem fa_31_15 (b off : Nat) (w : World) : (Instr.fieldAt 31 (.pointer (some ⟨b, off, none⟩)) 15).run Tryz.prog w = .ok (.pointer (some ⟨b, off + 15, none⟩)) w := by
  simp [Instr.fieldAt, Instr.sureAddr, underlying, Tryz.underlying31, fieldPlace, Tryz.sizeOf3, add0]
theorem fa_31_16 (b off : Nat) (w : World) : (Instr.fieldAt 31 (.pointer (some ⟨b, off, none⟩)) 16).run Tryz.prog w = .ok (.pointer (some ⟨b, off + 16, none⟩)) w := by
  simp [Instr.fieldAt, Instr.sureAddr, underlying, Tryz.underlying31, fieldPlace, Tryz.sizeOf9, add0]
theorem fa_31_17 (b off : Nat) (w : World) : (Instr.fieldAt 31 (.pointer (some ⟨b, off, none⟩)) 17).run Tryz.prog w = .ok (.pointer (some ⟨b, off + 17, none⟩)) w := by
  simp [Instr.fieldAt, Instr.sureAddr, underlying, Tryz.underlying31, fieldPlace, Tryz.sizeOf9, add0]
theorem fa_31_18 (b off : Nat) (w : World) : (Instr.fieldAt 31 (.pointer (some ⟨b, off, none⟩)) 18).run Tryz.prog w = .ok (.pointer (some ⟨b, off + 18, none⟩)) w := by
  simp [Instr.fieldAt, Instr.sureAddr, underlying, Tryz.underlying31, fieldPlace, Tryz.sizeOf3, add0]
theorem fa_31_19 (b off : Nat) (w : World) : (Instr.fieldAt 31 (.pointer (some ⟨b, off, none⟩)) 19).run Tryz.prog w = .ok (.pointer (some ⟨b, off + 19, none⟩)) w := by
  simp [Instr.fieldAt, Instr.sureAddr, underlying, Tryz.underlying31, fieldPlace, Tryz.sizeOf3, add0]
theorem fa_31_20 (b off : Nat) (w : World) : (Instr.fieldAt 31 (.pointer (some ⟨b, off, none⟩)) 20).run Tryz.prog w = .ok (.pointer (some ⟨b, off + 20, none⟩)) w := by
  simp [Instr.fieldAt, Instr.sureAddr, underlying, Tryz.underlying31, fieldPlace, Tryz.sizeOf4, add0]
theorem fa_34_0 (b off : Nat) (w : World) : (Instr.fieldAt 34 (.pointer (some ⟨b, off, none⟩)) 0).run Tryz.prog w = .ok (.pointer (some ⟨b, off + 0, none⟩)) w := by
  simp [Instr.fieldAt, Instr.sureAddr, underlying, Tryz.underlying34, fieldPlace, Tryz.sizeOf3, add0]
theorem fa_34_1 (b off : Nat) (w : World) : (Instr.fieldAt 34 (.pointer (some ⟨b, off, none⟩)) 1).run Tryz.prog w = .ok (.pointer (some ⟨b, off + 1, none⟩)) w := by
  simp [Instr.fieldAt, Instr.sureAddr, underlying, Tryz.underlying34, fieldPlace, Tryz.sizeOf9, add0]
theorem fa_34_2 (b off : Nat) (w : World) : (Instr.fieldAt 34 (.pointer (some ⟨b, off, none⟩)) 2).run Tryz.prog w = .ok (.pointer (some ⟨b, off + 2, none⟩)) w := by
  simp [Instr.fieldAt, Instr.sureAddr, underlying, Tryz.underlying34, fieldPlace, Tryz.sizeOf31, add0]
theorem fa_34_3 (b off : Nat) (w : World) : (Instr.fieldAt 34 (.pointer (some ⟨b, off, none⟩)) 3).run Tryz.prog w = .ok (.pointer (some ⟨b, off + 23, none⟩)) w := by
  simp [Instr.fieldAt, Instr.sureAddr, underlying, Tryz.underlying34, fieldPlace, Tryz.sizeOf22, add0]
theorem fa_34_4 (b off : Nat) (w : World) : (Instr.fieldAt 34 (.pointer (some ⟨b, off, none⟩)) 4).run Tryz.prog w = .ok (.pointer (some ⟨b, off + 24, none⟩)) w := by
  simp [Instr.fieldAt, Instr.sureAddr, underlying, Tryz.underlying34, fieldPlace, Tryz.sizeOf3, add0]
theorem fa_34_5 (b off : Nat) (w : World) : (Instr.fieldAt 34 (.pointer (some ⟨b, off, none⟩)) 5).run Tryz.prog w = .ok (.pointer (some ⟨b, off + 25, none⟩)) w := by
  simp [Instr.fieldAt, Instr.sureAddr, underlying, Tryz.underlying34, fieldPlace, Tryz.sizeOf3, add0]
theorem fa_34_6 (b off : Nat) (w : World) : (Instr.fieldAt 34 (.pointer (some ⟨b, off, none⟩)) 6).run Tryz.prog w = .ok (.pointer (some ⟨b, off + 26, none⟩)) w := by
  simp [Instr.fieldAt, Instr.sureAddr, underlying, Tryz.underlying34, fieldPlace, Tryz.sizeOf3, add0]
theorem fa_34_7 (b off : Nat) (w : World) : (Instr.fieldAt 34 (.pointer (some ⟨b, off, none⟩)) 7).run Tryz.prog w = .ok (.pointer (some ⟨b, off + 27, none⟩)) w := by
  simp [Instr.fieldAt, Instr.sureAddr, underlying, Tryz.underlying34, fieldPlace, Tryz.sizeOf4, add0]
theorem fa_34_8 (b off : Nat) (w : World) : (Instr.fieldAt 34 (.pointer (some ⟨b, off, none⟩)) 8).run Tryz.prog w = .ok (.pointer (some ⟨b, off + 28, none⟩)) w := by
  simp [Instr.fieldAt, Instr.sureAddr, underlying, Tryz.underlying34, fieldPlace, Tryz.sizeOf9, add0]
theorem fa_34_9 (b off : Nat) (w : World) : (Instr.fieldAt 34 (.pointer (some ⟨b, off, none⟩)) 9).run Tryz.prog w = .ok (.pointer (some ⟨b, off + 29, none⟩)) w := by
  simp [Instr.fieldAt, Instr.sureAddr, underlying, Tryz.underlying34, fieldPlace, Tryz.sizeOf9, add0]
theorem fa_34_10 (b off : Nat) (w : World) : (Instr.fieldAt 34 (.pointer (some ⟨b, off, none⟩)) 10).run Tryz.prog w = .ok (.pointer (some ⟨b, off + 30, none⟩)) w := by
  simp [Instr.fieldAt, Instr.sureAddr, underlying, Tryz.underlying34, fieldPlace, Tryz.sizeOf3, add0]
theorem fa_34_11 (b off : Nat) (w : World) : (Instr.fieldAt 34 (.pointer (some ⟨b, off, none⟩)) 11).run Tryz.prog w = .ok (.pointer (some ⟨b, off + 31, none⟩)) w := by
  simp [Instr.fieldAt, Instr.sureAddr, underlying, Tryz.underlying34, fieldPlace, Tryz.sizeOf3, add0]
theorem fa_34_12 (b off : Nat) (w : World) : (Instr.fieldAt 34 (.pointer (some ⟨b, off, none⟩)) 12).run Tryz.prog w = .ok (.pointer (some ⟨b, off + 32, none⟩)) w := by
  simp [Instr.fieldAt, Instr.sureAddr, underlying, Tryz.underlying34, fieldPlace, Tryz.sizeOf32, add0]
theorem fa_51_0 (b off : Nat) (w : World) : (Instr.fieldAt 51 (.pointer (some ⟨b, off, none⟩)) 0).run Tryz.prog w = .ok (.pointer (some ⟨b, off + 0, none⟩)) w := by
  simp [Instr.fieldAt, Instr.sureAddr, underlying, Tryz.underlying51, fieldPlace, Tryz.sizeOf9, add0]
theorem fa_51_1 (b off : Nat) (w : World) : (Instr.fieldAt 51 (.pointer (some ⟨b, off, none⟩)) 1).run Tryz.prog w = .ok (.pointer (some ⟨b, off + 1, none⟩)) w := by
  simp [Instr.fieldAt, Instr.sureAddr, underlying, Tryz.underlying51, fieldPlace, Tryz.sizeOf4, add0]
theorem fa_51_2 (b off : Nat) (w : World) : (Instr.fieldAt 51 (.pointer (some ⟨b, off, none⟩)) 2).run Tryz.prog w = .ok (.pointer (some ⟨b, off + 2, none⟩)) w := by
  simp [Instr.fieldAt, Instr.sureAddr, underlying, Tryz.underlying51, fieldPlace, Tryz.sizeOf3, add0]
theorem fa_77_4 (b off : Nat) (w : World) : (Instr.fieldAt 77 (.pointer (some ⟨b, off, none⟩)) 4).run Tryz.prog w = .ok (.pointer (some ⟨b, off + 4, none⟩)) w := by
  simp [Instr.fieldAt, Instr.sureAddr, underlying, Tryz.underlying77, fieldPlace, Tryz.sizeOf9, add0]
theorem fa_77_6 (b off : Nat) (w : World) : (Instr.fieldAt 77 (.pointer (some ⟨b, off, none⟩)) 6).run Tryz.prog w = .ok (.pointer (some ⟨b, off + 6, none⟩)) w := by
  simp [Instr.fieldAt, Instr.sureAddr, underlying, Tryz.underlying77, fieldPlace, Tryz.sizeOf3, add0]
theorem fa_77_7 (b off : Nat) (w : World) : (Instr.fieldAt 77 (.pointer (some ⟨b, off, none⟩)) 7).run Tryz.prog w = .ok (.pointer (some ⟨b, off + 7, none⟩)) w := by
  simp [Instr.fieldAt, Instr.sureAddr, underlying, Tryz.underlying77, fieldPlace, Tryz.sizeOf3, add0]
theorem fa_77_8 (b off : Nat) (w : World) : (Instr.fieldAt 77 (.pointer (some ⟨b, off, none⟩)) 8).run Tryz.prog w = .ok (.pointer (some ⟨b, off + 8, none⟩)) w := by
  simp [Instr.fieldAt, Instr.sureAddr, underlying, Tryz.underlying77, fieldPlace, Tryz.sizeOf3, add0]
theorem fa_77_12 (b off : Nat) (w : World) : (Instr.fieldAt 77 (.pointer (some ⟨b, off, none⟩)) 12).run Tryz.prog w = .ok (.pointer (some ⟨b, off + 32, none⟩)) w := by
  simp [Instr.fieldAt, Instr.sureAddr, underlying, Tryz.underlying77, fieldPlace, Tryz.sizeOf4, add0]
theorem fa_77_14 (b off : Nat) (w : World) : (Instr.fieldAt 77 (.pointer (some ⟨b, off, none⟩)) 14).run Tryz.prog w = .ok (.pointer (some ⟨b, off + 34, none⟩)) w := by
  simp [Instr.fieldAt, Instr.sureAddr, underlying, Tryz.underlying77, fieldPlace, Tryz.sizeOf4, add0]
theorem fa_87_0 (b off : Nat) (w : World) : (Instr.fieldAt 87 (.pointer (some ⟨b, off, none⟩)) 0).run Tryz.prog w = .ok (.pointer (some ⟨b, off + 0, none⟩)) w := by
  simp [Instr.fieldAt, Instr.sureAddr, underlying, Tryz.underlying87, fieldPlace, Tryz.sizeOf80, add0]
theorem fa_87_1 (b off : Nat) (w : World) : (Instr.fieldAt 87 (.pointer (some ⟨b, off, none⟩)) 1).run Tryz.prog w = .ok (.pointer (some ⟨b, off + 1, none⟩)) w := by
  simp [Instr.fieldAt, Instr.sureAddr, underlying, Tryz.underlying87, fieldPlace, Tryz.sizeOf3, add0]
theorem fa_87_2 (b off : Nat) (w : World) : (Instr.fieldAt 87 (.pointer (some ⟨b, off, none⟩)) 2).run Tryz.prog w = .ok (.pointer (some ⟨b, off + 2, none⟩)) w := by
  simp [Instr.fieldAt, Instr.sureAddr, underlying, Tryz.underlying87, fieldPlace, Tryz.sizeOf26, add0]
theorem fa_87_3 (b off : Nat) (w : World) : (Instr.fieldAt 87 (.pointer (some ⟨b, off, none⟩)) 3).run Tryz.prog w = .ok (.pointer (some ⟨b, off + 3, none⟩)) w := by
  simp [Instr.fieldAt, Instr.sureAddr, underlying, Tryz.underlying87, fieldPlace, Tryz.sizeOf3, add0]
theorem fa_95_0 (b off : Nat) (w : World) : (Instr.fieldAt 95 (.pointer (some ⟨b, off, none⟩)) 0).run Tryz.prog w = .ok (.pointer (some ⟨b, off + 0, none⟩)) w := by
  simp [Instr.fieldAt, Instr.sureAddr, underlying, Tryz.underlying95, fieldPlace, Tryz.sizeOf3, add0]
theorem fa_95_1 (b off : Nat) (w : World) : (Instr.fieldAt 95 (.pointer (some ⟨b, off, none⟩)) 1).run Tryz.prog w = .ok (.pointer (some ⟨b, off + 1, none⟩)) w := by
  simp [Instr.fieldAt, Instr.sureAddr, underlying, Tryz.underlying95, fieldPlace, Tryz.sizeOf9, add0]
theorem fa_95_2 (b off : Nat) (w : World) : (Instr.fieldAt 95 (.pointer (some ⟨b, off, none⟩)) 2).run Tryz.prog w = .ok (.pointer (some ⟨b, off + 2, none⟩)) w := by
  simp [Instr.fieldAt, Instr.sureAddr, underlying, Tryz.underlying95, fieldPlace, Tryz.sizeOf9, add0]
theorem fa_128_0 (b off : Nat) (w : World) : (Instr.fieldAt 128 (.pointer (some ⟨b, off, none⟩)) 0).run Tryz.prog w = .ok (.pointer (some ⟨b, off + 0, none⟩)) w := by
  simp [Instr.fieldAt, Instr.sureAddr, underlying, Tryz.underlying128, fieldPlace, Tryz.sizeOf5, add0]
theorem fa_128_1 (b off : Nat) (w : World) : (Instr.fieldAt 128 (.pointer (some ⟨b, off, none⟩)) 1).run Tryz.prog w = .ok (.pointer (some ⟨b, off + 1, none⟩)) w := by
  simp [Instr.fieldAt, Instr.sureAddr, underlying, Tryz.underlying128, fieldPlace, Tryz.sizeOf67, add0]
theorem fa_128_2 (b off : Nat) (w : World) : (Instr.fieldAt 128 (.pointer (some ⟨b, off, none⟩)) 2).run Tryz.prog w = .ok (.pointer (some ⟨b, off + 2, none⟩)) w := by
  simp [Instr.fieldAt, Instr.sureAddr, underlying, Tryz.underlying128, fieldPlace, Tryz.sizeOf126, add0]
theorem fa_128_3 (b off : Nat) (w : World) : (Instr.fieldAt 128 (.pointer (some ⟨b, off, none⟩)) 3).run Tryz.prog w = .ok (.pointer (some ⟨b, off + 3, none⟩)) w := by
  simp [Instr.fieldAt, Instr.sureAddr, underlying, Tryz.underlying128, fieldPlace, Tryz.sizeOf58, add0]
theorem fa_155_0 (b off : Nat) (w : World) : (Instr.fieldAt 155 (.pointer (some ⟨b, off, none⟩)) 0).run Tryz.prog w = .ok (.pointer (some ⟨b, off + 0, none⟩)) w := by
  simp [Instr.fieldAt, Instr.sureAddr, underlying, Tryz.underlying155, fieldPlace, Tryz.sizeOf9, add0]
theorem fa_155_1 (b off : Nat) (w : World) : (Instr.fieldAt 155 (.pointer (some ⟨b, off, none⟩)) 1).run Tryz.prog w = .ok (.pointer (some ⟨b, off + 1, none⟩)) w := by
  simp [Instr.fieldAt, Instr.sureAddr, underlying, Tryz.underlying155, fieldPlace, Tryz.sizeOf152, add0]
theorem fa_159_0 (b off : Nat) (w : World) : (Instr.fieldAt 159 (.pointer (some ⟨b, off, none⟩)) 0).run Tryz.prog w = .ok (.pointer (some ⟨b, off + 0, none⟩)) w := by
  simp [Instr.fieldAt, Instr.sureAddr, underlying, Tryz.underlying159, fieldPlace, Tryz.sizeOf9, add0]
theorem fa_159_1 (b off : Nat) (w : World) : (Instr.fieldAt 159 (.pointer (some ⟨b, off, none⟩)) 1).run Tryz.prog w = .ok (.pointer (some ⟨b, off + 1, none⟩)) w := by
  simp [Instr.fieldAt, Instr.sureAddr, underlying, Tryz.underlying159, fieldPlace, Tryz.sizeOf26, add0]
theorem fa_189_0 (b off : Nat) (w : World) : (Instr.fieldAt 189 (.pointer (some ⟨b, off, none⟩)) 0).run Tryz.prog w = .ok (.pointer (some ⟨b, off + 0, none⟩)) w := by
  simp [Instr.fieldAt, Instr.sureAddr, underlying, Tryz.underlying189, fieldPlace, Tryz.sizeOf3, add0]
theorem fa_189_1 (b off : Nat) (w : World) : (Instr.fieldAt 189 (.pointer (some ⟨b, off, none⟩)) 1).run Tryz.prog w = .ok (.pointer (some ⟨b, off + 1, none⟩)) w := by
  simp [Instr.fieldAt, Instr.sureAddr, underlying, Tryz.underlying189, fieldPlace, Tryz.sizeOf9, add0]
theorem fa_189_2 (b off : Nat) (w : World) : (Instr.fieldAt 189 (.pointer (some ⟨b, off, none⟩)) 2).run Tryz.prog w = .ok (.pointer (some ⟨b, off + 2, none⟩)) w := by
  simp [Instr.fieldAt, Instr.sureAddr, underlying, Tryz.underlying189, fieldPlace, Tryz.sizeOf9, add0]
theorem fa_191_0 (b off : Nat) (w : World) : (Instr.fieldAt 191 (.pointer (some ⟨b, off, none⟩)) 0).run Tryz.prog w = .ok (.pointer (some ⟨b, off + 0, none⟩)) w := by
  simp [Instr.fieldAt, Instr.sureAddr, underlying, Tryz.underlying191, fieldPlace, Tryz.sizeOf3, add0]
theorem fa_191_1 (b off : Nat) (w : World) : (Instr.fieldAt 191 (.pointer (some ⟨b, off, none⟩)) 1).run Tryz.prog w = .ok (.pointer (some ⟨b, off + 1, none⟩)) w := by
  simp [Instr.fieldAt, Instr.sureAddr, underlying, Tryz.underlying191, fieldPlace, Tryz.sizeOf3, add0]
theorem fa_191_2 (b off : Nat) (w : World) : (Instr.fieldAt 191 (.pointer (some ⟨b, off, none⟩)) 2).run Tryz.prog w = .ok (.pointer (some ⟨b, off + 2, none⟩)) w := by
  simp [Instr.fieldAt, Instr.sureAddr, underlying, Tryz.underlying191, fieldPlace, Tryz.sizeOf9, add0]
theorem fa_191_3 (b off : Nat) (w : World) : (Instr.fieldAt 191 (.pointer (some ⟨b, off, none⟩)) 3).run Tryz.prog w = .ok (.pointer (some ⟨b, off + 3, none⟩)) w := by
  simp [Instr.fieldAt, Instr.sureAddr, underlying, Tryz.underlying191, fieldPlace, Tryz.sizeOf9, add0]
theorem fa_198_0 (b off : Nat) (w : World) : (Instr.fieldAt 198 (.pointer (some ⟨b, off, none⟩)) 0).run Tryz.prog w = .ok (.pointer (some ⟨b, off + 0, none⟩)) w := by
  simp [Instr.fieldAt, Instr.sureAddr, underlying, Tryz.underlying198, fieldPlace, Tryz.sizeOf34, add0]
theorem fa_198_1 (b off : Nat) (w : World) : (Instr.fieldAt 198 (.pointer (some ⟨b, off, none⟩)) 1).run Tryz.prog w = .ok (.pointer (some ⟨b, off + 33, none⟩)) w := by
  simp [Instr.fieldAt, Instr.sureAddr, underlying, Tryz.underlying198, fieldPlace, Tryz.sizeOf3, add0]
theorem fa_209_0 (b off : Nat) (w : World) : (Instr.fieldAt 209 (.pointer (some ⟨b, off, none⟩)) 0).run Tryz.prog w = .ok (.pointer (some ⟨b, off + 0, none⟩)) w := by
  simp [Instr.fieldAt, Instr.sureAddr, underlying, Tryz.underlying209, fieldPlace, Tryz.sizeOf34, add0]
theorem fa_209_1 (b off : Nat) (w : World) : (Instr.fieldAt 209 (.pointer (some ⟨b, off, none⟩)) 1).run Tryz.prog w = .ok (.pointer (some ⟨b, off + 33, none⟩)) w := by
  simp [Instr.fieldAt, Instr.sureAddr, underlying, Tryz.underlying209, fieldPlace, Tryz.sizeOf3, add0]
theorem fa_244_0 (b off : Nat) (w : World) : (Instr.fieldAt 244 (.pointer (some ⟨b, off, none⟩)) 0).run Tryz.prog w = .ok (.pointer (some ⟨b, off + 0, none⟩)) w := by
  simp [Instr.fieldAt, Instr.sureAddr, underlying, Tryz.underlying244, fieldPlace, Tryz.sizeOf9, add0]
theorem fa_244_1 (b off : Nat) (w : World) : (Instr.fieldAt 244 (.pointer (some ⟨b, off, none⟩)) 1).run Tryz.prog w = .ok (.pointer (some ⟨b, off + 1, none⟩)) w := by
  simp [Instr.fieldAt, Instr.sureAddr, underlying, Tryz.underlying244, fieldPlace, Tryz.sizeOf26, add0]

end Go.Proofs.YtlkkiimmangplaaGreatDoor
