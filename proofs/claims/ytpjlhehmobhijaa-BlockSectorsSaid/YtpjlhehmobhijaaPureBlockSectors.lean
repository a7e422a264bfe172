/- Sectors are read and written, or refused, as the reference says, for every disk, number and block of bytes. -/
import Derived.Test.YtpjlhehmobhijaaQTinderlaw20BlockSectors
import Derived.Test.YtpjlhehmobhijaaHBlockRefs
import Derived.Test.YtpjlhehmobhijaaHAlive
namespace Go.Proofs.Ytpjlhehmobhijaa.Pure
open Go.RowKit Go.Proofs.Ytpjlhehmobhijaa.Q Go.Proofs.YtpjlhehmobhijaaW.PrintWords Go.Proofs.YtpjlhehmobhijaaW.PrintLast
theorem BlockSectors : tinderlaw20_BlockSectors.Pure := by
  intro l n b _ hl _ _ _ hb _
  rw [Nat.mul_one] at hl hb
  refine ⟨10, ?_⟩
  unfold tinderlaw20_BlockSectors.f
  rw [alive20 10 (by omega), Option.bind_some, if_pos rfl, ref04_Copy_eq l hl, Option.bind_some, block_Read_eq l n hl, ref20_Read_eq l n hl, Option.bind_some, Option.bind_some, ref20_Write_eq 9 l n b hl]
  have hw : ∃ r, block_Write.f l n b = some r := by
    unfold block_Write.f
    rw [if_pos hl]
    split
    · split <;> exact ⟨_, rfl⟩
    · exact ⟨_, rfl⟩
  obtain ⟨r, hr⟩ := hw
  rw [hr]
  simp only [Option.bind_some, ref04_Same_self, if_true, block_Formed_eq l hl, ref20_Formed_eq l]
  simp
end Go.Proofs.Ytpjlhehmobhijaa.Pure
