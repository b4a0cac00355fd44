/- Part B25 of a proof: see its last part, YtiopbpbcgccngaaGreatDoorB55.lean. -/
import Derived.Test.YtiopbpbcgccngaaGreatDoorB14
set_option linter.all false
namespace Go.Proofs
open Go.Eng
noncomputable def Tryz.fd7_0 : Field := match Tryz.prog.underlying 7 with | some (.struct fs) => fs.getD 0 default | _ => default
theorem Tryz.fd7_0t : Tryz.fd7_0.type = 2 := by kernel_rfl
theorem Tryz.fd7_0o : Tryz.fd7_0.offset = 0 := by kernel_rfl
theorem Tryz.fd7_0n : (Tryz.fd7_0.name = "_") = False := eq_false (by decide +kernel)
noncomputable def Tryz.fd7_1 : Field := match Tryz.prog.underlying 7 with | some (.struct fs) => fs.getD 1 default | _ => default
theorem Tryz.fd7_1t : Tryz.fd7_1.type = 3 := by kernel_rfl
theorem Tryz.fd7_1o : Tryz.fd7_1.offset = 1 := by kernel_rfl
theorem Tryz.fd7_1n : (Tryz.fd7_1.name = "_") = False := eq_false (by decide +kernel)
noncomputable def Tryz.fd7_2 : Field := match Tryz.prog.underlying 7 with | some (.struct fs) => fs.getD 2 default | _ => default
theorem Tryz.fd7_2t : Tryz.fd7_2.type = 4 := by kernel_rfl
theorem Tryz.fd7_2o : Tryz.fd7_2.offset = 2 := by kernel_rfl
theorem Tryz.fd7_2n : (Tryz.fd7_2.name = "_") = False := eq_false (by decide +kernel)
noncomputable def Tryz.fd7_3 : Field := match Tryz.prog.underlying 7 with | some (.struct fs) => fs.getD 3 default | _ => default
theorem Tryz.fd7_3t : Tryz.fd7_3.type = 6 := by kernel_rfl
theorem Tryz.fd7_3o : Tryz.fd7_3.offset = 3 := by kernel_rfl
theorem Tryz.fd7_3n : (Tryz.fd7_3.name = "_") = False := eq_false (by decide +kernel)
theorem Tryz.y7 : tyOf Tryz.prog 7 = some ⟨.struct #[Tryz.fd7_0, Tryz.fd7_1, Tryz.fd7_2, Tryz.fd7_3], 4, 24, .agg #[.int .i64 0, .int .i64 0, .bool false, .int .u8 0], true⟩ := by kernel_rfl
noncomputable def Tryz.fd8_0 : Field := match Tryz.prog.underlying 8 with | some (.struct fs) => fs.getD 0 default | _ => default
theorem Tryz.fd8_0t : Tryz.fd8_0.type = 2 := by kernel_rfl
theorem Tryz.fd8_0o : Tryz.fd8_0.offset = 0 := by kernel_rfl
theorem Tryz.fd8_0n : (Tryz.fd8_0.name = "_") = False := eq_false (by decide +kernel)
noncomputable def Tryz.fd8_1 : Field := match Tryz.prog.underlying 8 with | some (.struct fs) => fs.getD 1 default | _ => default
theorem Tryz.fd8_1t : Tryz.fd8_1.type = 3 := by kernel_rfl
theorem Tryz.fd8_1o : Tryz.fd8_1.offset = 1 := by kernel_rfl
theorem Tryz.fd8_1n : (Tryz.fd8_1.name = "_") = False := eq_false (by decide +kernel)
noncomputable def Tryz.fd8_2 : Field := match Tryz.prog.underlying 8 with | some (.struct fs) => fs.getD 2 default | _ => default
theorem Tryz.fd8_2t : Tryz.fd8_2.type = 4 := by kernel_rfl
theorem Tryz.fd8_2o : Tryz.fd8_2.offset = 2 := by kernel_rfl
theorem Tryz.fd8_2n : (Tryz.fd8_2.name = "_") = False := eq_false (by decide +kernel)
noncomputable def Tryz.fd8_3 : Field := match Tryz.prog.underlying 8 with | some (.struct fs) => fs.getD 3 default | _ => default
theorem Tryz.fd8_3t : Tryz.fd8_3.type = 6 := by kernel_rfl
theorem Tryz.fd8_3o : Tryz.fd8_3.offset = 3 := by kernel_rfl
theorem Tryz.fd8_3n : (Tryz.fd8_3.name = "_") = False := eq_false (by decide +kernel)
theorem Tryz.y8 : tyOf Tryz.prog 8 = some ⟨.struct #[Tryz.fd8_0, Tryz.fd8_1, Tryz.fd8_2, Tryz.fd8_3], 4, 24, .agg #[.int .i64 0, .int .i64 0, .bool false, .int .u8 0], true⟩ := by kernel_rfl
noncomputable def Tryz.fd13_0 : Field := match Tryz.prog.underlying 13 with | some (.struct fs) => fs.getD 0 default | _ => default
theorem Tryz.fd13_0t : Tryz.fd13_0.type = 9 := by kernel_rfl
theorem Tryz.fd13_0o : Tryz.fd13_0.offset = 0 := by kernel_rfl
theorem Tryz.fd13_0n : (Tryz.fd13_0.name = "_") = False := eq_false (by decide +kernel)
noncomputable def Tryz.fd13_1 : Field := match Tryz.prog.underlying 13 with | some (.struct fs) => fs.getD 1 default | _ => default
theorem Tryz.fd13_1t : Tryz.fd13_1.type = 12 := by kernel_rfl
theorem Tryz.fd13_1o : Tryz.fd13_1.offset = 1 := by kernel_rfl
theorem Tryz.fd13_1n : (Tryz.fd13_1.name = "_") = False := eq_false (by decide +kernel)
theorem Tryz.y13 : tyOf Tryz.prog 13 = some ⟨.struct #[Tryz.fd13_0, Tryz.fd13_1], 2, 24, .agg #[.string ⟨#[]⟩, .int .u64 0], false⟩ := by kernel_rfl
noncomputable def Tryz.fd14_0 : Field := match Tryz.prog.underlying 14 with | some (.struct fs) => fs.getD 0 default | _ => default
theorem Tryz.fd14_0t : Tryz.fd14_0.type = 9 := by kernel_rfl
theorem Tryz.fd14_0o : Tryz.fd14_0.offset = 0 := by kernel_rfl
theorem Tryz.fd14_0n : (Tryz.fd14_0.name = "_") = False := eq_false (by decide +kernel)
noncomputable def Tryz.fd14_1 : Field := match Tryz.prog.underlying 14 with | some (.struct fs) => fs.getD 1 default | _ => default
theorem Tryz.fd14_1t : Tryz.fd14_1.type = 12 := by kernel_rfl
theorem Tryz.fd14_1o : Tryz.fd14_1.offset = 1 := by kernel_rfl
theorem Tryz.fd14_1n : (Tryz.fd14_1.name = "_") = False := eq_false (by decide +kernel)
theorem Tryz.y14 : tyOf Tryz.prog 14 = some ⟨.struct #[Tryz.fd14_0, Tryz.fd14_1], 2, 24, .agg #[.string ⟨#[]⟩, .int .u64 0], false⟩ := by kernel_rfl
noncomputable def Tryz.fd18_0 : Field := match Tryz.prog.underlying 18 with | some (.struct fs) => fs.getD 0 default | _ => default
theorem Tryz.fd18_0t : Tryz.fd18_0.type = 17 := by kernel_rfl
theorem Tryz.fd18_0o : Tryz.fd18_0.offset = 0 := by kernel_rfl
theorem Tryz.fd18_0n : (Tryz.fd18_0.name = "_") = False := eq_false (by decide +kernel)
theorem Tryz.y18 : tyOf Tryz.prog 18 = some ⟨.struct #[Tryz.fd18_0], 1, 8, .agg #[.pointer none], false⟩ := by kernel_rfl
noncomputable def Tryz.fd19_0 : Field := match Tryz.prog.underlying 19 with | some (.struct fs) => fs.getD 0 default | _ => default
theorem Tryz.fd19_0t : Tryz.fd19_0.type = 17 := by kernel_rfl
theorem Tryz.fd19_0o : Tryz.fd19_0.offset = 0 := by kernel_rfl
theorem Tryz.fd19_0n : (Tryz.fd19_0.name = "_") = False := eq_false (by decide +kernel)
theorem Tryz.y19 : tyOf Tryz.prog 19 = some ⟨.struct #[Tryz.fd19_0], 1, 8, .agg #[.pointer none], false⟩ := by kernel_rfl
noncomputable def Tryz.fd32_0 : Field := match Tryz.prog.underlying 32 with | some (.struct fs) => fs.getD 0 default | _ => default
theorem Tryz.fd32_0t : Tryz.fd32_0.type = 9 := by kernel_rfl
theorem Tryz.fd32_0o : Tryz.fd32_0.offset = 0 := by kernel_rfl
theorem Tryz.fd32_0n : (Tryz.fd32_0.name = "_") = False := eq_false (by decide +kernel)
noncomputable def Tryz.fd32_1 : Field := match Tryz.prog.underlying 32 with | some (.struct fs) => fs.getD 1 default | _ => default
theorem Tryz.fd32_1t : Tryz.fd32_1.type = 31 := by kernel_rfl
theorem Tryz.fd32_1o : Tryz.fd32_1.offset = 1 := by kernel_rfl
theorem Tryz.fd32_1n : (Tryz.fd32_1.name = "_") = False := eq_false (by decide +kernel)
noncomputable def Tryz.fd32_2 : Field := match Tryz.prog.underlying 32 with | some (.struct fs) => fs.getD 2 default | _ => default
theorem Tryz.fd32_2t : Tryz.fd32_2.type = 31 := by kernel_rfl
theorem Tryz.fd32_2o : Tryz.fd32_2.offset = 2 := by kernel_rfl
theorem Tryz.fd32_2n : (Tryz.fd32_2.name = "_") = False := eq_false (by decide +kernel)
theorem Tryz.y32 : tyOf Tryz.prog 32 = some ⟨.struct #[Tryz.fd32_0, Tryz.fd32_1, Tryz.fd32_2], 3, 48, .agg #[.string ⟨#[]⟩, .string ⟨#[]⟩, .string ⟨#[]⟩], true⟩ := by kernel_rfl
noncomputable def Tryz.fd33_0 : Field := match Tryz.prog.underlying 33 with | some (.struct fs) => fs.getD 0 default | _ => default
theorem Tryz.fd33_0t : Tryz.fd33_0.type = 9 := by kernel_rfl
theorem Tryz.fd33_0o : Tryz.fd33_0.offset = 0 := by kernel_rfl
theorem Tryz.fd33_0n : (Tryz.fd33_0.name = "_") = False := eq_false (by decide +kernel)
noncomputable def Tryz.fd33_1 : Field := match Tryz.prog.underlying 33 with | some (.struct fs) => fs.getD 1 default | _ => default
theorem Tryz.fd33_1t : Tryz.fd33_1.type = 31 := by kernel_rfl
theorem Tryz.fd33_1o : Tryz.fd33_1.offset = 1 := by kernel_rfl
theorem Tryz.fd33_1n : (Tryz.fd33_1.name = "_") = False := eq_false (by decide +kernel)
noncomputable def Tryz.fd33_2 : Field := match Tryz.prog.underlying 33 with | some (.struct fs) => fs.getD 2 default | _ => default
theorem Tryz.fd33_2t : Tryz.fd33_2.type = 31 := by kernel_rfl
theorem Tryz.fd33_2o : Tryz.fd33_2.offset = 2 := by kernel_rfl
theorem Tryz.fd33_2n : (Tryz.fd33_2.name = "_") = False := eq_false (by decide +kernel)
theorem Tryz.y33 : tyOf Tryz.prog 33 = some ⟨.struct #[Tryz.fd33_0, Tryz.fd33_1, Tryz.fd33_2], 3, 48, .agg #[.string ⟨#[]⟩, .string ⟨#[]⟩, .string ⟨#[]⟩], true⟩ := by kernel_rfl
noncomputable def Tryz.fd43_0 : Field := match Tryz.prog.underlying 43 with | some (.struct fs) => fs.getD 0 default | _ => default
theorem Tryz.fd43_0t : Tryz.fd43_0.type = 31 := by kernel_rfl
theorem Tryz.fd43_0o : Tryz.fd43_0.offset = 0 := by kernel_rfl
theorem Tryz.fd43_0n : (Tryz.fd43_0.name = "_") = False := eq_false (by decide +kernel)
noncomputable def Tryz.fd43_1 : Field := match Tryz.prog.underlying 43 with | some (.struct fs) => fs.getD 1 default | _ => default
theorem Tryz.fd43_1t : Tryz.fd43_1.type = 31 := by kernel_rfl
theorem Tryz.fd43_1o : Tryz.fd43_1.offset = 1 := by kernel_rfl
theorem Tryz.fd43_1n : (Tryz.fd43_1.name = "_") = False := eq_false (by decide +kernel)
noncomputable def Tryz.fd43_2 : Field := match Tryz.prog.underlying 43 with | some (.struct fs) => fs.getD 2 default | _ => default
theorem Tryz.fd43_2t : Tryz.fd43_2.type = 9 := by kernel_rfl
theorem Tryz.fd43_2o : Tryz.fd43_2.offset = 2 := by kernel_rfl
theorem Tryz.fd43_2n : (Tryz.fd43_2.name = "_") = False := eq_false (by decide +kernel)
noncomputable def Tryz.fd43_3 : Field := match Tryz.prog.underlying 43 with | some (.struct fs) => fs.getD 3 default | _ => default
theorem Tryz.fd43_3t : Tryz.fd43_3.type = 9 := by kernel_rfl
theorem Tryz.fd43_3o : Tryz.fd43_3.offset = 3 := by kernel_rfl
theorem Tryz.fd43_3n : (Tryz.fd43_3.name = "_") = False := eq_false (by decide +kernel)
theorem Tryz.y43 : tyOf Tryz.prog 43 = some ⟨.struct #[Tryz.fd43_0, Tryz.fd43_1, Tryz.fd43_2, Tryz.fd43_3], 4, 64, .agg #[.string ⟨#[]⟩, .string ⟨#[]⟩, .string ⟨#[]⟩, .string ⟨#[]⟩], true⟩ := by kernel_rfl
noncomputable def Tryz.fd44_0 : Field := match Tryz.prog.underlying 44 with | some (.struct fs) => fs.getD 0 default | _ => default
theorem Tryz.fd44_0t : Tryz.fd44_0.type = 31 := by kernel_rfl
theorem Tryz.fd44_0o : Tryz.fd44_0.offset = 0 := by kernel_rfl
theorem Tryz.fd44_0n : (Tryz.fd44_0.name = "_") = False := eq_false (by decide +kernel)
noncomputable def Tryz.fd44_1 : Field := match Tryz.prog.underlying 44 with | some (.struct fs) => fs.getD 1 default | _ => default
theorem Tryz.fd44_1t : Tryz.fd44_1.type = 31 := by kernel_rfl
theorem Tryz.fd44_1o : Tryz.fd44_1.offset = 1 := by kernel_rfl
theorem Tryz.fd44_1n : (Tryz.fd44_1.name = "_") = False := eq_false (by decide +kernel)
noncomputable def Tryz.fd44_2 : Field := match Tryz.prog.underlying 44 with | some (.struct fs) => fs.getD 2 default | _ => default
theorem Tryz.fd44_2t : Tryz.fd44_2.type = 9 := by kernel_rfl
theorem Tryz.fd44_2o : Tryz.fd44_2.offset = 2 := by kernel_rfl
theorem Tryz.fd44_2n : (Tryz.fd44_2.name = "_") = False := eq_false (by decide +kernel)
noncomputable def Tryz.fd44_3 : Field := match Tryz.prog.underlying 44 with | some (.struct fs) => fs.getD 3 default | _ => default
theorem Tryz.fd44_3t : Tryz.fd44_3.type = 9 := by kernel_rfl
theorem Tryz.fd44_3o : Tryz.fd44_3.offset = 3 := by kernel_rfl
theorem Tryz.fd44_3n : (Tryz.fd44_3.name = "_") = False := eq_false (by decide +kernel)
theorem Tryz.y44 : tyOf Tryz.prog 44 = some ⟨.struct #[Tryz.fd44_0, Tryz.fd44_1, Tryz.fd44_2, Tryz.fd44_3], 4, 64, .agg #[.string ⟨#[]⟩, .string ⟨#[]⟩, .string ⟨#[]⟩, .string ⟨#[]⟩], true⟩ := by kernel_rfl
noncomputable def Tryz.fd60_0 : Field := match Tryz.prog.underlying 60 with | some (.struct fs) => fs.getD 0 default | _ => default
theorem Tryz.fd60_0t : Tryz.fd60_0.type = 31 := by kernel_rfl
theorem Tryz.fd60_0o : Tryz.fd60_0.offset = 0 := by kernel_rfl
theorem Tryz.fd60_0n : (Tryz.fd60_0.name = "_") = False := eq_false (by decide +kernel)
noncomputable def Tryz.fd60_1 : Field := match Tryz.prog.underlying 60 with | some (.struct fs) => fs.getD 1 default | _ => default
theorem Tryz.fd60_1t : Tryz.fd60_1.type = 31 := by kernel_rfl
theorem Tryz.fd60_1o : Tryz.fd60_1.offset = 1 := by kernel_rfl
theorem Tryz.fd60_1n : (Tryz.fd60_1.name = "_") = False := eq_false (by decide +kernel)
noncomputable def Tryz.fd60_2 : Field := match Tryz.prog.underlying 60 with | some (.struct fs) => fs.getD 2 default | _ => default
theorem Tryz.fd60_2t : Tryz.fd60_2.type = 31 := by kernel_rfl
theorem Tryz.fd60_2o : Tryz.fd60_2.offset = 2 := by kernel_rfl
theorem Tryz.fd60_2n : (Tryz.fd60_2.name = "_") = False := eq_false (by decide +kernel)
theorem Tryz.y60 : tyOf Tryz.prog 60 = some ⟨.struct #[Tryz.fd60_0, Tryz.fd60_1, Tryz.fd60_2], 3, 48, .agg #[.string ⟨#[]⟩, .string ⟨#[]⟩, .string ⟨#[]⟩], true⟩ := by kernel_rfl
noncomputable def Tryz.fd61_0 : Field := match Tryz.prog.underlying 61 with | some (.struct fs) => fs.getD 0 default | _ => default
theorem Tryz.fd61_0t : Tryz.fd61_0.type = 31 := by kernel_rfl
theorem Tryz.fd61_0o : Tryz.fd61_0.offset = 0 := by kernel_rfl
theorem Tryz.fd61_0n : (Tryz.fd61_0.name = "_") = False := eq_false (by decide +kernel)
noncomputable def Tryz.fd61_1 : Field := match Tryz.prog.underlying 61 with | some (.struct fs) => fs.getD 1 default | _ => default
theorem Tryz.fd61_1t : Tryz.fd61_1.type = 31 := by kernel_rfl
theorem Tryz.fd61_1o : Tryz.fd61_1.offset = 1 := by kernel_rfl
theorem Tryz.fd61_1n : (Tryz.fd61_1.name = "_") = False := eq_false (by decide +kernel)
noncomputable def Tryz.fd61_2 : Field := match Tryz.prog.underlying 61 with | some (.struct fs) => fs.getD 2 default | _ => default
theorem Tryz.fd61_2t : Tryz.fd61_2.type = 31 := by kernel_rfl
theorem Tryz.fd61_2o : Tryz.fd61_2.offset = 2 := by kernel_rfl
theorem Tryz.fd61_2n : (Tryz.fd61_2.name = "_") = False := eq_false (by decide +kernel)
theorem Tryz.y61 : tyOf Tryz.prog 61 = some ⟨.struct #[Tryz.fd61_0, Tryz.fd61_1, Tryz.fd61_2], 3, 48, .agg #[.string ⟨#[]⟩, .string ⟨#[]⟩, .string ⟨#[]⟩], true⟩ := by kernel_rfl
noncomputable def Tryz.fd69_0 : Field := match Tryz.prog.underlying 69 with | some (.struct fs) => fs.getD 0 default | _ => default
theorem Tryz.fd69_0t : Tryz.fd69_0.type = 67 := by kernel_rfl
theorem Tryz.fd69_0o : Tryz.fd69_0.offset = 0 := by kernel_rfl
theorem Tryz.fd69_0n : (Tryz.fd69_0.name = "_") = False := eq_false (by decide +kernel)
noncomputable def Tryz.fd69_1 : Field := match Tryz.prog.underlying 69 with | some (.struct fs) => fs.getD 1 default | _ => default
theorem Tryz.fd69_1t : Tryz.fd69_1.type = 68 := by kernel_rfl
theorem Tryz.fd69_1o : Tryz.fd69_1.offset = 1 := by kernel_rfl
theorem Tryz.fd69_1n : (Tryz.fd69_1.name = "_") = False := eq_false (by decide +kernel)
theorem Tryz.y69 : tyOf Tryz.prog 69 = some ⟨.struct #[Tryz.fd69_0, Tryz.fd69_1], 2, 48, .agg #[.slice none 0 0, .slice none 0 0], true⟩ := by kernel_rfl
noncomputable def Tryz.fd70_0 : Field := match Tryz.prog.underlying 70 with | some (.struct fs) => fs.getD 0 default | _ => default
theorem Tryz.fd70_0t : Tryz.fd70_0.type = 67 := by kernel_rfl
theorem Tryz.fd70_0o : Tryz.fd70_0.offset = 0 := by kernel_rfl
theorem Tryz.fd70_0n : (Tryz.fd70_0.name = "_") = False := eq_false (by decide +kernel)
noncomputable def Tryz.fd70_1 : Field := match Tryz.prog.underlying 70 with | some (.struct fs) => fs.getD 1 default | _ => default
theorem Tryz.fd70_1t : Tryz.fd70_1.type = 68 := by kernel_rfl
theorem Tryz.fd70_1o : Tryz.fd70_1.offset = 1 := by kernel_rfl
theorem Tryz.fd70_1n : (Tryz.fd70_1.name = "_") = False := eq_false (by decide +kernel)
theorem Tryz.y70 : tyOf Tryz.prog 70 = some ⟨.struct #[Tryz.fd70_0, Tryz.fd70_1], 2, 48, .agg #[.slice none 0 0, .slice none 0 0], true⟩ := by kernel_rfl
noncomputable def Tryz.fd72_0 : Field := match Tryz.prog.underlying 72 with | some (.struct fs) => fs.getD 0 default | _ => default
theorem Tryz.fd72_0t : Tryz.fd72_0.type = 70 := by kernel_rfl
theorem Tryz.fd72_0o : Tryz.fd72_0.offset = 0 := by kernel_rfl
theorem Tryz.fd72_0n : (Tryz.fd72_0.name = "_") = False := eq_false (by decide +kernel)
noncomputable def Tryz.fd72_1 : Field := match Tryz.prog.underlying 72 with | some (.struct fs) => fs.getD 1 default | _ => default
theorem Tryz.fd72_1t : Tryz.fd72_1.type = 9 := by kernel_rfl
theorem Tryz.fd72_1o : Tryz.fd72_1.offset = 2 := by kernel_rfl
theorem Tryz.fd72_1n : (Tryz.fd72_1.name = "_") = False := eq_false (by decide +kernel)
noncomputable def Tryz.fd72_2 : Field := match Tryz.prog.underlying 72 with | some (.struct fs) => fs.getD 2 default | _ => default
theorem Tryz.fd72_2t : Tryz.fd72_2.type = 71 := by kernel_rfl
theorem Tryz.fd72_2o : Tryz.fd72_2.offset = 3 := by kernel_rfl
theorem Tryz.fd72_2n : (Tryz.fd72_2.name = "_") = False := eq_false (by decide +kernel)
theorem Tryz.y72 : tyOf Tryz.prog 72 = some ⟨.struct #[Tryz.fd72_0, Tryz.fd72_1, Tryz.fd72_2], 4, 88, .agg #[.slice none 0 0, .slice none 0 0, .string ⟨#[]⟩, .slice none 0 0], true⟩ := by kernel_rfl
noncomputable def Tryz.fd73_0 : Field := match Tryz.prog.underlying 73 with | some (.struct fs) => fs.getD 0 default | _ => default
theorem Tryz.fd73_0t : Tryz.fd73_0.type = 70 := by kernel_rfl
theorem Tryz.fd73_0o : Tryz.fd73_0.offset = 0 := by kernel_rfl
theorem Tryz.fd73_0n : (Tryz.fd73_0.name = "_") = False := eq_false (by decide +kernel)
noncomputable def Tryz.fd73_1 : Field := match Tryz.prog.underlying 73 with | some (.struct fs) => fs.getD 1 default | _ => default
theorem Tryz.fd73_1t : Tryz.fd73_1.type = 9 := by kernel_rfl
theorem Tryz.fd73_1o : Tryz.fd73_1.offset = 2 := by kernel_rfl
theorem Tryz.fd73_1n : (Tryz.fd73_1.name = "_") = False := eq_false (by decide +kernel)
noncomputable def Tryz.fd73_2 : Field := match Tryz.prog.underlying 73 with | some (.struct fs) => fs.getD 2 default | _ => default
theorem Tryz.fd73_2t : Tryz.fd73_2.type = 71 := by kernel_rfl
theorem Tryz.fd73_2o : Tryz.fd73_2.offset = 3 := by kernel_rfl
theorem Tryz.fd73_2n : (Tryz.fd73_2.name = "_") = False := eq_false (by decide +kernel)
theorem Tryz.y73 : tyOf Tryz.prog 73 = some ⟨.struct #[Tryz.fd73_0, Tryz.fd73_1, Tryz.fd73_2], 4, 88, .agg #[.slice none 0 0, .slice none 0 0, .string ⟨#[]⟩, .slice none 0 0], true⟩ := by kernel_rfl
noncomputable def Tryz.fd76_0 : Field := match Tryz.prog.underlying 76 with | some (.struct fs) => fs.getD 0 default | _ => default
theorem Tryz.fd76_0t : Tryz.fd76_0.type = 5 := by kernel_rfl
theorem Tryz.fd76_0o : Tryz.fd76_0.offset = 0 := by kernel_rfl
theorem Tryz.fd76_0n : (Tryz.fd76_0.name = "_") = False := eq_false (by decide +kernel)
noncomputable def Tryz.fd76_1 : Field := match Tryz.prog.underlying 76 with | some (.struct fs) => fs.getD 1 default | _ => default
theorem Tryz.fd76_1t : Tryz.fd76_1.type = 5 := by kernel_rfl
theorem Tryz.fd76_1o : Tryz.fd76_1.offset = 1 := by kernel_rfl
theorem Tryz.fd76_1n : (Tryz.fd76_1.name = "_") = False := eq_false (by decide +kernel)
noncomputable def Tryz.fd76_2 : Field := match Tryz.prog.underlying 76 with | some (.struct fs) => fs.getD 2 default | _ => default
theorem Tryz.fd76_2t : Tryz.fd76_2.type = 5 := by kernel_rfl
theorem Tryz.fd76_2o : Tryz.fd76_2.offset = 2 := by kernel_rfl
theorem Tryz.fd76_2n : (Tryz.fd76_2.name = "_") = False := eq_false (by decide +kernel)
theorem Tryz.y76 : tyOf Tryz.prog 76 = some ⟨.struct #[Tryz.fd76_0, Tryz.fd76_1, Tryz.fd76_2], 3, 3, .agg #[.int .u8 0, .int .u8 0, .int .u8 0], true⟩ := by kernel_rfl
noncomputable def Tryz.fd77_0 : Field := match Tryz.prog.underlying 77 with | some (.struct fs) => fs.getD 0 default | _ => default
theorem Tryz.fd77_0t : Tryz.fd77_0.type = 5 := by kernel_rfl
theorem Tryz.fd77_0o : Tryz.fd77_0.offset = 0 := by kernel_rfl
theorem Tryz.fd77_0n : (Tryz.fd77_0.name = "_") = False := eq_false (by decide +kernel)
noncomputable def Tryz.fd77_1 : Field := match Tryz.prog.underlying 77 with | some (.struct fs) => fs.getD 1 default | _ => default
theorem Tryz.fd77_1t : Tryz.fd77_1.type = 5 := by kernel_rfl
theorem Tryz.fd77_1o : Tryz.fd77_1.offset = 1 := by kernel_rfl
theorem Tryz.fd77_1n : (Tryz.fd77_1.name = "_") = False := eq_false (by decide +kernel)
noncomputable def Tryz.fd77_2 : Field := match Tryz.prog.underlying 77 with | some (.struct fs) => fs.getD 2 default | _ => default
theorem Tryz.fd77_2t : Tryz.fd77_2.type = 5 := by kernel_rfl
theorem Tryz.fd77_2o : Tryz.fd77_2.offset = 2 := by kernel_rfl
theorem Tryz.fd77_2n : (Tryz.fd77_2.name = "_") = False := eq_false (by decide +kernel)
theorem Tryz.y77 : tyOf Tryz.prog 77 = some ⟨.struct #[Tryz.fd77_0, Tryz.fd77_1, Tryz.fd77_2], 3, 3, .agg #[.int .u8 0, .int .u8 0, .int .u8 0], true⟩ := by kernel_rfl
noncomputable def Tryz.fd111_0 : Field := match Tryz.prog.underlying 111 with | some (.struct fs) => fs.getD 0 default | _ => default
theorem Tryz.fd111_0t : Tryz.fd111_0.type = 108 := by kernel_rfl
theorem Tryz.fd111_0o : Tryz.fd111_0.offset = 0 := by kernel_rfl
theorem Tryz.fd111_0n : (Tryz.fd111_0.name = "_") = False := eq_false (by decide +kernel)
noncomputable def Tryz.fd111_1 : Field := match Tryz.prog.underlying 111 with | some (.struct fs) => fs.getD 1 default | _ => default
theorem Tryz.fd111_1t : Tryz.fd111_1.type = 26 := by kernel_rfl
theorem Tryz.fd111_1o : Tryz.fd111_1.offset = 1 := by kernel_rfl
theorem Tryz.fd111_1n : (Tryz.fd111_1.name = "_") = False := eq_false (by decide +kernel)
noncomputable def Tryz.fd111_2 : Field := match Tryz.prog.underlying 111 with | some (.struct fs) => fs.getD 2 default | _ => default
theorem Tryz.fd111_2t : Tryz.fd111_2.type = 110 := by kernel_rfl
theorem Tryz.fd111_2o : Tryz.fd111_2.offset = 2 := by kernel_rfl
theorem Tryz.fd111_2n : (Tryz.fd111_2.name = "_") = False := eq_false (by decide +kernel)
theorem Tryz.y111 : tyOf Tryz.prog 111 = some ⟨.struct #[Tryz.fd111_0, Tryz.fd111_1, Tryz.fd111_2], 3, 72, .agg #[.slice none 0 0, .slice none 0 0, .slice none 0 0], true⟩ := by kernel_rfl
noncomputable def Tryz.fd112_0 : Field := match Tryz.prog.underlying 112 with | some (.struct fs) => fs.getD 0 default | _ => default
theorem Tryz.fd112_0t : Tryz.fd112_0.type = 108 := by kernel_rfl
theorem Tryz.fd112_0o : Tryz.fd112_0.offset = 0 := by kernel_rfl
theorem Tryz.fd112_0n : (Tryz.fd112_0.name = "_") = False := eq_false (by decide +kernel)
noncomputable def Tryz.fd112_1 : Field := match Tryz.prog.underlying 112 with | some (.struct fs) => fs.getD 1 default | _ => default
theorem Tryz.fd112_1t : Tryz.fd112_1.type = 26 := by kernel_rfl
theorem Tryz.fd112_1o : Tryz.fd112_1.offset = 1 := by kernel_rfl
theorem Tryz.fd112_1n : (Tryz.fd112_1.name = "_") = False := eq_false (by decide +kernel)
noncomputable def Tryz.fd112_2 : Field := match Tryz.prog.underlying 112 with | some (.struct fs) => fs.getD 2 default | _ => default
theorem Tryz.fd112_2t : Tryz.fd112_2.type = 110 := by kernel_rfl
theorem Tryz.fd112_2o : Tryz.fd112_2.offset = 2 := by kernel_rfl
theorem Tryz.fd112_2n : (Tryz.fd112_2.name = "_") = False := eq_false (by decide +kernel)
theorem Tryz.y112 : tyOf Tryz.prog 112 = some ⟨.struct #[Tryz.fd112_0, Tryz.fd112_1, Tryz.fd112_2], 3, 72, .agg #[.slice none 0 0, .slice none 0 0, .slice none 0 0], true⟩ := by kernel_rfl
noncomputable def Tryz.fd113_0 : Field := match Tryz.prog.underlying 113 with | some (.struct fs) => fs.getD 0 default | _ => default
theorem Tryz.fd113_0t : Tryz.fd113_0.type = 61 := by kernel_rfl
theorem Tryz.fd113_0o : Tryz.fd113_0.offset = 0 := by kernel_rfl
theorem Tryz.fd113_0n : (Tryz.fd113_0.name = "_") = False := eq_false (by decide +kernel)
noncomputable def Tryz.fd113_1 : Field := match Tryz.prog.underlying 113 with | some (.struct fs) => fs.getD 1 default | _ => default
theorem Tryz.fd113_1t : Tryz.fd113_1.type = 31 := by kernel_rfl
theorem Tryz.fd113_1o : Tryz.fd113_1.offset = 3 := by kernel_rfl
theorem Tryz.fd113_1n : (Tryz.fd113_1.name = "_") = False := eq_false (by decide +kernel)
theorem Tryz.y113 : tyOf Tryz.prog 113 = some ⟨.struct #[Tryz.fd113_0, Tryz.fd113_1], 4, 64, .agg #[.string ⟨#[]⟩, .string ⟨#[]⟩, .string ⟨#[]⟩, .string ⟨#[]⟩], true⟩ := by kernel_rfl
noncomputable def Tryz.fd114_0 : Field := match Tryz.prog.underlying 114 with | some (.struct fs) => fs.getD 0 default | _ => default
theorem Tryz.fd114_0t : Tryz.fd114_0.type = 61 := by kernel_rfl
theorem Tryz.fd114_0o : Tryz.fd114_0.offset = 0 := by kernel_rfl
theorem Tryz.fd114_0n : (Tryz.fd114_0.name = "_") = False := eq_false (by decide +kernel)
noncomputable def Tryz.fd114_1 : Field := match Tryz.prog.underlying 114 with | some (.struct fs) => fs.getD 1 default | _ => default
theorem Tryz.fd114_1t : Tryz.fd114_1.type = 31 := by kernel_rfl
theorem Tryz.fd114_1o : Tryz.fd114_1.offset = 3 := by kernel_rfl
theorem Tryz.fd114_1n : (Tryz.fd114_1.name = "_") = False := eq_false (by decide +kernel)
theorem Tryz.y114 : tyOf Tryz.prog 114 = some ⟨.struct #[Tryz.fd114_0, Tryz.fd114_1], 4, 64, .agg #[.string ⟨#[]⟩, .string ⟨#[]⟩, .string ⟨#[]⟩, .string ⟨#[]⟩], true⟩ := by kernel_rfl
noncomputable def Tryz.fd115_0 : Field := match Tryz.prog.underlying 115 with | some (.struct fs) => fs.getD 0 default | _ => default
theorem Tryz.fd115_0t : Tryz.fd115_0.type = 114 := by kernel_rfl
theorem Tryz.fd115_0o : Tryz.fd115_0.offset = 0 := by kernel_rfl
theorem Tryz.fd115_0n : (Tryz.fd115_0.name = "_") = False := eq_false (by decide +kernel)
noncomputable def Tryz.fd115_1 : Field := match Tryz.prog.underlying 115 with | some (.struct fs) => fs.getD 1 default | _ => default
theorem Tryz.fd115_1t : Tryz.fd115_1.type = 61 := by kernel_rfl
theorem Tryz.fd115_1o : Tryz.fd115_1.offset = 4 := by kernel_rfl
theorem Tryz.fd115_1n : (Tryz.fd115_1.name = "_") = False := eq_false (by decide +kernel)
theorem Tryz.y115 : tyOf Tryz.prog 115 = some ⟨.struct #[Tryz.fd115_0, Tryz.fd115_1], 7, 112, .agg #[.string ⟨#[]⟩, .string ⟨#[]⟩, .string ⟨#[]⟩, .string ⟨#[]⟩, .string ⟨#[]⟩, .string ⟨#[]⟩, .string ⟨#[]⟩], true⟩ := by kernel_rfl
noncomputable def Tryz.fd116_0 : Field := match Tryz.prog.underlying 116 with | some (.struct fs) => fs.getD 0 default | _ => default
theorem Tryz.fd116_0t : Tryz.fd116_0.type = 114 := by kernel_rfl
theorem Tryz.fd116_0o : Tryz.fd116_0.offset = 0 := by kernel_rfl
theorem Tryz.fd116_0n : (Tryz.fd116_0.name = "_") = False := eq_false (by decide +kernel)
noncomputable def Tryz.fd116_1 : Field := match Tryz.prog.underlying 116 with | some (.struct fs) => fs.getD 1 default | _ => default
theorem Tryz.fd116_1t : Tryz.fd116_1.type = 61 := by kernel_rfl
theorem Tryz.fd116_1o : Tryz.fd116_1.offset = 4 := by kernel_rfl
theorem Tryz.fd116_1n : (Tryz.fd116_1.name = "_") = False := eq_false (by decide +kernel)
theorem Tryz.y116 : tyOf Tryz.prog 116 = some ⟨.struct #[Tryz.fd116_0, Tryz.fd116_1], 7, 112, .agg #[.string ⟨#[]⟩, .string ⟨#[]⟩, .string ⟨#[]⟩, .string ⟨#[]⟩, .string ⟨#[]⟩, .string ⟨#[]⟩, .string ⟨#[]⟩], true⟩ := by kernel_rfl
noncomputable def Tryz.fd118_0 : Field := match Tryz.prog.underlying 118 with | some (.struct fs) => fs.getD 0 default | _ => default
theorem Tryz.fd118_0t : Tryz.fd118_0.type = 61 := by kernel_rfl
theorem Tryz.fd118_0o : Tryz.fd118_0.offset = 0 := by kernel_rfl
theorem Tryz.fd118_0n : (Tryz.fd118_0.name = "_") = False := eq_false (by decide +kernel)
noncomputable def Tryz.fd118_1 : Field := match Tryz.prog.underlying 118 with | some (.struct fs) => fs.getD 1 default | _ => default
theorem Tryz.fd118_1t : Tryz.fd118_1.type = 117 := by kernel_rfl
theorem Tryz.fd118_1o : Tryz.fd118_1.offset = 3 := by kernel_rfl
theorem Tryz.fd118_1n : (Tryz.fd118_1.name = "_") = False := eq_false (by decide +kernel)
noncomputable def Tryz.fd118_2 : Field := match Tryz.prog.underlying 118 with | some (.struct fs) => fs.getD 2 default | _ => default
theorem Tryz.fd118_2t : Tryz.fd118_2.type = 61 := by kernel_rfl
theorem Tryz.fd118_2o : Tryz.fd118_2.offset = 4 := by kernel_rfl
theorem Tryz.fd118_2n : (Tryz.fd118_2.name = "_") = False := eq_false (by decide +kernel)
theorem Tryz.y118 : tyOf Tryz.prog 118 = some ⟨.struct #[Tryz.fd118_0, Tryz.fd118_1, Tryz.fd118_2], 7, 120, .agg #[.string ⟨#[]⟩, .string ⟨#[]⟩, .string ⟨#[]⟩, .slice none 0 0, .string ⟨#[]⟩, .string ⟨#[]⟩, .string ⟨#[]⟩], true⟩ := by kernel_rfl
noncomputable def Tryz.fd119_0 : Field := match Tryz.prog.underlying 119 with | some (.struct fs) => fs.getD 0 default | _ => default
theorem Tryz.fd119_0t : Tryz.fd119_0.type = 61 := by kernel_rfl
theorem Tryz.fd119_0o : Tryz.fd119_0.offset = 0 := by kernel_rfl
theorem Tryz.fd119_0n : (Tryz.fd119_0.name = "_") = False := eq_false (by decide +kernel)
noncomputable def Tryz.fd119_1 : Field := match Tryz.prog.underlying 119 with | some (.struct fs) => fs.getD 1 default | _ => default
theorem Tryz.fd119_1t : Tryz.fd119_1.type = 117 := by kernel_rfl
theorem Tryz.fd119_1o : Tryz.fd119_1.offset = 3 := by kernel_rfl
theorem Tryz.fd119_1n : (Tryz.fd119_1.name = "_") = False := eq_false (by decide +kernel)
noncomputable def Tryz.fd119_2 : Field := match Tryz.prog.underlying 119 with | some (.struct fs) => fs.getD 2 default | _ => default
theorem Tryz.fd119_2t : Tryz.fd119_2.type = 61 := by kernel_rfl
theorem Tryz.fd119_2o : Tryz.fd119_2.offset = 4 := by kernel_rfl
theorem Tryz.fd119_2n : (Tryz.fd119_2.name = "_") = False := eq_false (by decide +kernel)
theorem Tryz.y119 : tyOf Tryz.prog 119 = some ⟨.struct #[Tryz.fd119_0, Tryz.fd119_1, Tryz.fd119_2], 7, 120, .agg #[.string ⟨#[]⟩, .string ⟨#[]⟩, .string ⟨#[]⟩, .slice none 0 0, .string ⟨#[]⟩, .string ⟨#[]⟩, .string ⟨#[]⟩], true⟩ := by kernel_rfl
noncomputable def Tryz.fd120_0 : Field := match Tryz.prog.underlying 120 with | some (.struct fs) => fs.getD 0 default | _ => default
theorem Tryz.fd120_0t : Tryz.fd120_0.type = 114 := by kernel_rfl
theorem Tryz.fd120_0o : Tryz.fd120_0.offset = 0 := by kernel_rfl
theorem Tryz.fd120_0n : (Tryz.fd120_0.name = "_") = False := eq_false (by decide +kernel)
noncomputable def Tryz.fd120_1 : Field := match Tryz.prog.underlying 120 with | some (.struct fs) => fs.getD 1 default | _ => default
theorem Tryz.fd120_1t : Tryz.fd120_1.type = 31 := by kernel_rfl
theorem Tryz.fd120_1o : Tryz.fd120_1.offset = 4 := by kernel_rfl
theorem Tryz.fd120_1n : (Tryz.fd120_1.name = "_") = False := eq_false (by decide +kernel)
noncomputable def Tryz.fd120_2 : Field := match Tryz.prog.underlying 120 with | some (.struct fs) => fs.getD 2 default | _ => default
theorem Tryz.fd120_2t : Tryz.fd120_2.type = 9 := by kernel_rfl
theorem Tryz.fd120_2o : Tryz.fd120_2.offset = 5 := by kernel_rfl
theorem Tryz.fd120_2n : (Tryz.fd120_2.name = "_") = False := eq_false (by decide +kernel)
theorem Tryz.y120 : tyOf Tryz.prog 120 = some ⟨.struct #[Tryz.fd120_0, Tryz.fd120_1, Tryz.fd120_2], 6, 96, .agg #[.string ⟨#[]⟩, .string ⟨#[]⟩, .string ⟨#[]⟩, .string ⟨#[]⟩, .string ⟨#[]⟩, .string ⟨#[]⟩], true⟩ := by kernel_rfl
noncomputable def Tryz.fd121_0 : Field := match Tryz.prog.underlying 121 with | some (.struct fs) => fs.getD 0 default | _ => default
theorem Tryz.fd121_0t : Tryz.fd121_0.type = 114 := by kernel_rfl
theorem Tryz.fd121_0o : Tryz.fd121_0.offset = 0 := by kernel_rfl
theorem Tryz.fd121_0n : (Tryz.fd121_0.name = "_") = False := eq_false (by decide +kernel)
noncomputable def Tryz.fd121_1 : Field := match Tryz.prog.underlying 121 with | some (.struct fs) => fs.getD 1 default | _ => default
theorem Tryz.fd121_1t : Tryz.fd121_1.type = 31 := by kernel_rfl
theorem Tryz.fd121_1o : Tryz.fd121_1.offset = 4 := by kernel_rfl
theorem Tryz.fd121_1n : (Tryz.fd121_1.name = "_") = False := eq_false (by decide +kernel)
noncomputable def Tryz.fd121_2 : Field := match Tryz.prog.underlying 121 with | some (.struct fs) => fs.getD 2 default | _ => default
theorem Tryz.fd121_2t : Tryz.fd121_2.type = 9 := by kernel_rfl
theorem Tryz.fd121_2o : Tryz.fd121_2.offset = 5 := by kernel_rfl
theorem Tryz.fd121_2n : (Tryz.fd121_2.name = "_") = False := eq_false (by decide +kernel)
theorem Tryz.y121 : tyOf Tryz.prog 121 = some ⟨.struct #[Tryz.fd121_0, Tryz.fd121_1, Tryz.fd121_2], 6, 96, .agg #[.string ⟨#[]⟩, .string ⟨#[]⟩, .string ⟨#[]⟩, .string ⟨#[]⟩, .string ⟨#[]⟩, .string ⟨#[]⟩], true⟩ := by kernel_rfl
theorem Tryz.y122 : tyOf Tryz.prog 122 = some ⟨.array 4 3, 4, 32, .agg #[.int .i64 0, .int .i64 0, .int .i64 0, .int .i64 0], true⟩ := by kernel_rfl
noncomputable def Tryz.fd123_0 : Field := match Tryz.prog.underlying 123 with | some (.struct fs) => fs.getD 0 default | _ => default
theorem Tryz.fd123_0t : Tryz.fd123_0.type = 122 := by kernel_rfl
theorem Tryz.fd123_0o : Tryz.fd123_0.offset = 0 := by kernel_rfl
theorem Tryz.fd123_0n : (Tryz.fd123_0.name = "_") = False := eq_false (by decide +kernel)
noncomputable def Tryz.fd123_1 : Field := match Tryz.prog.underlying 123 with | some (.struct fs) => fs.getD 1 default | _ => default
theorem Tryz.fd123_1t : Tryz.fd123_1.type = 61 := by kernel_rfl
theorem Tryz.fd123_1o : Tryz.fd123_1.offset = 4 := by kernel_rfl
theorem Tryz.fd123_1n : (Tryz.fd123_1.name = "_") = False := eq_false (by decide +kernel)
theorem Tryz.y123 : tyOf Tryz.prog 123 = some ⟨.struct #[Tryz.fd123_0, Tryz.fd123_1], 7, 80, .agg #[.int .i64 0, .int .i64 0, .int .i64 0, .int .i64 0, .string ⟨#[]⟩, .string ⟨#[]⟩, .string ⟨#[]⟩], true⟩ := by kernel_rfl
noncomputable def Tryz.fd124_0 : Field := match Tryz.prog.underlying 124 with | some (.struct fs) => fs.getD 0 default | _ => default
theorem Tryz.fd124_0t : Tryz.fd124_0.type = 122 := by kernel_rfl
theorem Tryz.fd124_0o : Tryz.fd124_0.offset = 0 := by kernel_rfl
theorem Tryz.fd124_0n : (Tryz.fd124_0.name = "_") = False := eq_false (by decide +kernel)
noncomputable def Tryz.fd124_1 : Field := match Tryz.prog.underlying 124 with | some (.struct fs) => fs.getD 1 default | _ => default
theorem Tryz.fd124_1t : Tryz.fd124_1.type = 61 := by kernel_rfl
theorem Tryz.fd124_1o : Tryz.fd124_1.offset = 4 := by kernel_rfl
theorem Tryz.fd124_1n : (Tryz.fd124_1.name = "_") = False := eq_false (by decide +kernel)
theorem Tryz.y124 : tyOf Tryz.prog 124 = some ⟨.struct #[Tryz.fd124_0, Tryz.fd124_1], 7, 80, .agg #[.int .i64 0, .int .i64 0, .int .i64 0, .int .i64 0, .string ⟨#[]⟩, .string ⟨#[]⟩, .string ⟨#[]⟩], true⟩ := by kernel_rfl
noncomputable def Tryz.fd125_0 : Field := match Tryz.prog.underlying 125 with | some (.struct fs) => fs.getD 0 default | _ => default
theorem Tryz.fd125_0t : Tryz.fd125_0.type = 3 := by kernel_rfl
theorem Tryz.fd125_0o : Tryz.fd125_0.offset = 0 := by kernel_rfl
theorem Tryz.fd125_0n : (Tryz.fd125_0.name = "_") = False := eq_false (by decide +kernel)
noncomputable def Tryz.fd125_1 : Field := match Tryz.prog.underlying 125 with | some (.struct fs) => fs.getD 1 default | _ => default
theorem Tryz.fd125_1t : Tryz.fd125_1.type = 9 := by kernel_rfl
theorem Tryz.fd125_1o : Tryz.fd125_1.offset = 1 := by kernel_rfl
theorem Tryz.fd125_1n : (Tryz.fd125_1.name = "_") = False := eq_false (by decide +kernel)
noncomputable def Tryz.fd125_2 : Field := match Tryz.prog.underlying 125 with | some (.struct fs) => fs.getD 2 default | _ => default
theorem Tryz.fd125_2t : Tryz.fd125_2.type = 112 := by kernel_rfl
theorem Tryz.fd125_2o : Tryz.fd125_2.offset = 2 := by kernel_rfl
theorem Tryz.fd125_2n : (Tryz.fd125_2.name = "_") = False := eq_false (by decide +kernel)
noncomputable def Tryz.fd125_3 : Field := match Tryz.prog.underlying 125 with | some (.struct fs) => fs.getD 3 default | _ => default
theorem Tryz.fd125_3t : Tryz.fd125_3.type = 116 := by kernel_rfl
theorem Tryz.fd125_3o : Tryz.fd125_3.offset = 5 := by kernel_rfl
theorem Tryz.fd125_3n : (Tryz.fd125_3.name = "_") = False := eq_false (by decide +kernel)
noncomputable def Tryz.fd125_4 : Field := match Tryz.prog.underlying 125 with | some (.struct fs) => fs.getD 4 default | _ => default
theorem Tryz.fd125_4t : Tryz.fd125_4.type = 119 := by kernel_rfl
theorem Tryz.fd125_4o : Tryz.fd125_4.offset = 12 := by kernel_rfl
theorem Tryz.fd125_4n : (Tryz.fd125_4.name = "_") = False := eq_false (by decide +kernel)
noncomputable def Tryz.fd125_5 : Field := match Tryz.prog.underlying 125 with | some (.struct fs) => fs.getD 5 default | _ => default
theorem Tryz.fd125_5t : Tryz.fd125_5.type = 121 := by kernel_rfl
theorem Tryz.fd125_5o : Tryz.fd125_5.offset = 19 := by kernel_rfl
theorem Tryz.fd125_5n : (Tryz.fd125_5.name = "_") = False := eq_false (by decide +kernel)
noncomputable def Tryz.fd125_6 : Field := match Tryz.prog.underlying 125 with | some (.struct fs) => fs.getD 6 default | _ => default
theorem Tryz.fd125_6t : Tryz.fd125_6.type = 124 := by kernel_rfl
theorem Tryz.fd125_6o : Tryz.fd125_6.offset = 25 := by kernel_rfl
theorem Tryz.fd125_6n : (Tryz.fd125_6.name = "_") = False := eq_false (by decide +kernel)
theorem Tryz.y125 : tyOf Tryz.prog 125 = some ⟨.struct #[Tryz.fd125_0, Tryz.fd125_1, Tryz.fd125_2, Tryz.fd125_3, Tryz.fd125_4, Tryz.fd125_5, Tryz.fd125_6], 32, 504, .agg #[.int .i64 0, .string ⟨#[]⟩, .slice none 0 0, .slice none 0 0, .slice none 0 0, .string ⟨#[]⟩, .string ⟨#[]⟩, .string ⟨#[]⟩, .string ⟨#[]⟩, .string ⟨#[]⟩, .string ⟨#[]⟩, .string ⟨#[]⟩, .string ⟨#[]⟩, .string ⟨#[]⟩, .string ⟨#[]⟩, .slice none 0 0, .string ⟨#[]⟩, .string ⟨#[]⟩, .string ⟨#[]⟩, .string ⟨#[]⟩, .string ⟨#[]⟩, .string ⟨#[]⟩, .string ⟨#[]⟩, .string ⟨#[]⟩, .string ⟨#[]⟩, .int .i64 0, .int .i64 0, .int .i64 0, .int .i64 0, .string ⟨#[]⟩, .string ⟨#[]⟩, .string ⟨#[]⟩], true⟩ := by kernel_rfl
noncomputable def Tryz.fd126_0 : Field := match Tryz.prog.underlying 126 with | some (.struct fs) => fs.getD 0 default | _ => default
theorem Tryz.fd126_0t : Tryz.fd126_0.type = 3 := by kernel_rfl
theorem Tryz.fd126_0o : Tryz.fd126_0.offset = 0 := by kernel_rfl
theorem Tryz.fd126_0n : (Tryz.fd126_0.name = "_") = False := eq_false (by decide +kernel)
noncomputable def Tryz.fd126_1 : Field := match Tryz.prog.underlying 126 with | some (.struct fs) => fs.getD 1 default | _ => default
theorem Tryz.fd126_1t : Tryz.fd126_1.type = 9 := by kernel_rfl
theorem Tryz.fd126_1o : Tryz.fd126_1.offset = 1 := by kernel_rfl
theorem Tryz.fd126_1n : (Tryz.fd126_1.name = "_") = False := eq_false (by decide +kernel)
noncomputable def Tryz.fd126_2 : Field := match Tryz.prog.underlying 126 with | some (.struct fs) => fs.getD 2 default | _ => default
theorem Tryz.fd126_2t : Tryz.fd126_2.type = 112 := by kernel_rfl
theorem Tryz.fd126_2o : Tryz.fd126_2.offset = 2 := by kernel_rfl
theorem Tryz.fd126_2n : (Tryz.fd126_2.name = "_") = False := eq_false (by decide +kernel)
noncomputable def Tryz.fd126_3 : Field := match Tryz.prog.underlying 126 with | some (.struct fs) => fs.getD 3 default | _ => default
theorem Tryz.fd126_3t : Tryz.fd126_3.type = 116 := by kernel_rfl
theorem Tryz.fd126_3o : Tryz.fd126_3.offset = 5 := by kernel_rfl
theorem Tryz.fd126_3n : (Tryz.fd126_3.name = "_") = False := eq_false (by decide +kernel)
noncomputable def Tryz.fd126_4 : Field := match Tryz.prog.underlying 126 with | some (.struct fs) => fs.getD 4 default | _ => default
theorem Tryz.fd126_4t : Tryz.fd126_4.type = 119 := by kernel_rfl
theorem Tryz.fd126_4o : Tryz.fd126_4.offset = 12 := by kernel_rfl
theorem Tryz.fd126_4n : (Tryz.fd126_4.name = "_") = False := eq_false (by decide +kernel)
noncomputable def Tryz.fd126_5 : Field := match Tryz.prog.underlying 126 with | some (.struct fs) => fs.getD 5 default | _ => default
theorem Tryz.fd126_5t : Tryz.fd126_5.type = 121 := by kernel_rfl
theorem Tryz.fd126_5o : Tryz.fd126_5.offset = 19 := by kernel_rfl
theorem Tryz.fd126_5n : (Tryz.fd126_5.name = "_") = False := eq_false (by decide +kernel)
noncomputable def Tryz.fd126_6 : Field := match Tryz.prog.underlying 126 with | some (.struct fs) => fs.getD 6 default | _ => default
theorem Tryz.fd126_6t : Tryz.fd126_6.type = 124 := by kernel_rfl
theorem Tryz.fd126_6o : Tryz.fd126_6.offset = 25 := by kernel_rfl
theorem Tryz.fd126_6n : (Tryz.fd126_6.name = "_") = False := eq_false (by decide +kernel)
theorem Tryz.y126 : tyOf Tryz.prog 126 = some ⟨.struct #[Tryz.fd126_0, Tryz.fd126_1, Tryz.fd126_2, Tryz.fd126_3, Tryz.fd126_4, Tryz.fd126_5, Tryz.fd126_6], 32, 504, .agg #[.int .i64 0, .string ⟨#[]⟩, .slice none 0 0, .slice none 0 0, .slice none 0 0, .string ⟨#[]⟩, .string ⟨#[]⟩, .string ⟨#[]⟩, .string ⟨#[]⟩, .string ⟨#[]⟩, .string ⟨#[]⟩, .string ⟨#[]⟩, .string ⟨#[]⟩, .string ⟨#[]⟩, .string ⟨#[]⟩, .slice none 0 0, .string ⟨#[]⟩, .string ⟨#[]⟩, .string ⟨#[]⟩, .string ⟨#[]⟩, .string ⟨#[]⟩, .string ⟨#[]⟩, .string ⟨#[]⟩, .string ⟨#[]⟩, .string ⟨#[]⟩, .int .i64 0, .int .i64 0, .int .i64 0, .int .i64 0, .string ⟨#[]⟩, .string ⟨#[]⟩, .string ⟨#[]⟩], true⟩ := by kernel_rfl
noncomputable def Tryz.fd131_0 : Field := match Tryz.prog.underlying 131 with | some (.struct fs) => fs.getD 0 default | _ => default
theorem Tryz.fd131_0t : Tryz.fd131_0.type = 31 := by kernel_rfl
theorem Tryz.fd131_0o : Tryz.fd131_0.offset = 0 := by kernel_rfl
theorem Tryz.fd131_0n : (Tryz.fd131_0.name = "_") = False := eq_false (by decide +kernel)
noncomputable def Tryz.fd131_1 : Field := match Tryz.prog.underlying 131 with | some (.struct fs) => fs.getD 1 default | _ => default
theorem Tryz.fd131_1t : Tryz.fd131_1.type = 31 := by kernel_rfl
theorem Tryz.fd131_1o : Tryz.fd131_1.offset = 1 := by kernel_rfl
theorem Tryz.fd131_1n : (Tryz.fd131_1.name = "_") = False := eq_false (by decide +kernel)
noncomputable def Tryz.fd131_2 : Field := match Tryz.prog.underlying 131 with | some (.struct fs) => fs.getD 2 default | _ => default
theorem Tryz.fd131_2t : Tryz.fd131_2.type = 9 := by kernel_rfl
theorem Tryz.fd131_2o : Tryz.fd131_2.offset = 2 := by kernel_rfl
theorem Tryz.fd131_2n : (Tryz.fd131_2.name = "_") = False := eq_false (by decide +kernel)
theorem Tryz.y131 : tyOf Tryz.prog 131 = some ⟨.struct #[Tryz.fd131_0, Tryz.fd131_1, Tryz.fd131_2], 3, 48, .agg #[.string ⟨#[]⟩, .string ⟨#[]⟩, .string ⟨#[]⟩], true⟩ := by kernel_rfl
noncomputable def Tryz.fd132_0 : Field := match Tryz.prog.underlying 132 with | some (.struct fs) => fs.getD 0 default | _ => default
theorem Tryz.fd132_0t : Tryz.fd132_0.type = 31 := by kernel_rfl
theorem Tryz.fd132_0o : Tryz.fd132_0.offset = 0 := by kernel_rfl
theorem Tryz.fd132_0n : (Tryz.fd132_0.name = "_") = False := eq_false (by decide +kernel)
noncomputable def Tryz.fd132_1 : Field := match Tryz.prog.underlying 132 with | some (.struct fs) => fs.getD 1 default | _ => default
theorem Tryz.fd132_1t : Tryz.fd132_1.type = 31 := by kernel_rfl
theorem Tryz.fd132_1o : Tryz.fd132_1.offset = 1 := by kernel_rfl
theorem Tryz.fd132_1n : (Tryz.fd132_1.name = "_") = False := eq_false (by decide +kernel)
noncomputable def Tryz.fd132_2 : Field := match Tryz.prog.underlying 132 with | some (.struct fs) => fs.getD 2 default | _ => default
theorem Tryz.fd132_2t : Tryz.fd132_2.type = 9 := by kernel_rfl
theorem Tryz.fd132_2o : Tryz.fd132_2.offset = 2 := by kernel_rfl
theorem Tryz.fd132_2n : (Tryz.fd132_2.name = "_") = False := eq_false (by decide +kernel)
theorem Tryz.y132 : tyOf Tryz.prog 132 = some ⟨.struct #[Tryz.fd132_0, Tryz.fd132_1, Tryz.fd132_2], 3, 48, .agg #[.string ⟨#[]⟩, .string ⟨#[]⟩, .string ⟨#[]⟩], true⟩ := by kernel_rfl
noncomputable def Tryz.fd151_0 : Field := match Tryz.prog.underlying 151 with | some (.struct fs) => fs.getD 0 default | _ => default
theorem Tryz.fd151_0t : Tryz.fd151_0.type = 4 := by kernel_rfl
theorem Tryz.fd151_0o : Tryz.fd151_0.offset = 0 := by kernel_rfl
theorem Tryz.fd151_0n : (Tryz.fd151_0.name = "_") = False := eq_false (by decide +kernel)
noncomputable def Tryz.fd151_1 : Field := match Tryz.prog.underlying 151 with | some (.struct fs) => fs.getD 1 default | _ => default
theorem Tryz.fd151_1t : Tryz.fd151_1.type = 150 := by kernel_rfl
theorem Tryz.fd151_1o : Tryz.fd151_1.offset = 1 := by kernel_rfl
theorem Tryz.fd151_1n : (Tryz.fd151_1.name = "_") = False := eq_false (by decide +kernel)
theorem Tryz.y151 : tyOf Tryz.prog 151 = some ⟨.struct #[Tryz.fd151_0, Tryz.fd151_1], 2, 32, .agg #[.bool false, .slice none 0 0], true⟩ := by kernel_rfl
noncomputable def Tryz.fd152_0 : Field := match Tryz.prog.underlying 152 with | some (.struct fs) => fs.getD 0 default | _ => default
theorem Tryz.fd152_0t : Tryz.fd152_0.type = 4 := by kernel_rfl
theorem Tryz.fd152_0o : Tryz.fd152_0.offset = 0 := by kernel_rfl
theorem Tryz.fd152_0n : (Tryz.fd152_0.name = "_") = False := eq_false (by decide +kernel)
noncomputable def Tryz.fd152_1 : Field := match Tryz.prog.underlying 152 with | some (.struct fs) => fs.getD 1 default | _ => default
theorem Tryz.fd152_1t : Tryz.fd152_1.type = 150 := by kernel_rfl
theorem Tryz.fd152_1o : Tryz.fd152_1.offset = 1 := by kernel_rfl
theorem Tryz.fd152_1n : (Tryz.fd152_1.name = "_") = False := eq_false (by decide +kernel)
theorem Tryz.y152 : tyOf Tryz.prog 152 = some ⟨.struct #[Tryz.fd152_0, Tryz.fd152_1], 2, 32, .agg #[.bool false, .slice none 0 0], true⟩ := by kernel_rfl
noncomputable def Tryz.fd164_0 : Field := match Tryz.prog.underlying 164 with | some (.struct fs) => fs.getD 0 default | _ => default
theorem Tryz.fd164_0t : Tryz.fd164_0.type = 31 := by kernel_rfl
theorem Tryz.fd164_0o : Tryz.fd164_0.offset = 0 := by kernel_rfl
theorem Tryz.fd164_0n : (Tryz.fd164_0.name = "_") = False := eq_false (by decide +kernel)
noncomputable def Tryz.fd164_1 : Field := match Tryz.prog.underlying 164 with | some (.struct fs) => fs.getD 1 default | _ => default
theorem Tryz.fd164_1t : Tryz.fd164_1.type = 31 := by kernel_rfl
theorem Tryz.fd164_1o : Tryz.fd164_1.offset = 1 := by kernel_rfl
theorem Tryz.fd164_1n : (Tryz.fd164_1.name = "_") = False := eq_false (by decide +kernel)
theorem Tryz.y164 : tyOf Tryz.prog 164 = some ⟨.struct #[Tryz.fd164_0, Tryz.fd164_1], 2, 32, .agg #[.string ⟨#[]⟩, .string ⟨#[]⟩], true⟩ := by kernel_rfl
noncomputable def Tryz.fd165_0 : Field := match Tryz.prog.underlying 165 with | some (.struct fs) => fs.getD 0 default | _ => default
theorem Tryz.fd165_0t : Tryz.fd165_0.type = 31 := by kernel_rfl
theorem Tryz.fd165_0o : Tryz.fd165_0.offset = 0 := by kernel_rfl
theorem Tryz.fd165_0n : (Tryz.fd165_0.name = "_") = False := eq_false (by decide +kernel)
noncomputable def Tryz.fd165_1 : Field := match Tryz.prog.underlying 165 with | some (.struct fs) => fs.getD 1 default | _ => default
theorem Tryz.fd165_1t : Tryz.fd165_1.type = 31 := by kernel_rfl
theorem Tryz.fd165_1o : Tryz.fd165_1.offset = 1 := by kernel_rfl
theorem Tryz.fd165_1n : (Tryz.fd165_1.name = "_") = False := eq_false (by decide +kernel)
theorem Tryz.y165 : tyOf Tryz.prog 165 = some ⟨.struct #[Tryz.fd165_0, Tryz.fd165_1], 2, 32, .agg #[.string ⟨#[]⟩, .string ⟨#[]⟩], true⟩ := by kernel_rfl
theorem Tryz.y166 : tyOf Tryz.prog 166 = some ⟨.array 3 3, 3, 24, .agg #[.int .i64 0, .int .i64 0, .int .i64 0], true⟩ := by kernel_rfl
theorem Tryz.y167 : tyOf Tryz.prog 167 = some ⟨.array 3 3, 3, 24, .agg #[.int .i64 0, .int .i64 0, .int .i64 0], true⟩ := by kernel_rfl
noncomputable def Tryz.fd175_0 : Field := match Tryz.prog.underlying 175 with | some (.struct fs) => fs.getD 0 default | _ => default
theorem Tryz.fd175_0t : Tryz.fd175_0.type = 31 := by kernel_rfl
theorem Tryz.fd175_0o : Tryz.fd175_0.offset = 0 := by kernel_rfl
theorem Tryz.fd175_0n : (Tryz.fd175_0.name = "_") = False := eq_false (by decide +kernel)
noncomputable def Tryz.fd175_1 : Field := match Tryz.prog.underlying 175 with | some (.struct fs) => fs.getD 1 default | _ => default
theorem Tryz.fd175_1t : Tryz.fd175_1.type = 31 := by kernel_rfl
theorem Tryz.fd175_1o : Tryz.fd175_1.offset = 1 := by kernel_rfl
theorem Tryz.fd175_1n : (Tryz.fd175_1.name = "_") = False := eq_false (by decide +kernel)
noncomputable def Tryz.fd175_2 : Field := match Tryz.prog.underlying 175 with | some (.struct fs) => fs.getD 2 default | _ => default
theorem Tryz.fd175_2t : Tryz.fd175_2.type = 9 := by kernel_rfl
theorem Tryz.fd175_2o : Tryz.fd175_2.offset = 2 := by kernel_rfl
theorem Tryz.fd175_2n : (Tryz.fd175_2.name = "_") = False := eq_false (by decide +kernel)
noncomputable def Tryz.fd175_3 : Field := match Tryz.prog.underlying 175 with | some (.struct fs) => fs.getD 3 default | _ => default
theorem Tryz.fd175_3t : Tryz.fd175_3.type = 174 := by kernel_rfl
theorem Tryz.fd175_3o : Tryz.fd175_3.offset = 3 := by kernel_rfl
theorem Tryz.fd175_3n : (Tryz.fd175_3.name = "_") = False := eq_false (by decide +kernel)
theorem Tryz.y175 : tyOf Tryz.prog 175 = some ⟨.struct #[Tryz.fd175_0, Tryz.fd175_1, Tryz.fd175_2, Tryz.fd175_3], 4, 72, .agg #[.string ⟨#[]⟩, .string ⟨#[]⟩, .string ⟨#[]⟩, .slice none 0 0], true⟩ := by kernel_rfl
noncomputable def Tryz.fd176_0 : Field := match Tryz.prog.underlying 176 with | some (.struct fs) => fs.getD 0 default | _ => default
theorem Tryz.fd176_0t : Tryz.fd176_0.type = 31 := by kernel_rfl
theorem Tryz.fd176_0o : Tryz.fd176_0.offset = 0 := by kernel_rfl
theorem Tryz.fd176_0n : (Tryz.fd176_0.name = "_") = False := eq_false (by decide +kernel)
noncomputable def Tryz.fd176_1 : Field := match Tryz.prog.underlying 176 with | some (.struct fs) => fs.getD 1 default | _ => default
theorem Tryz.fd176_1t : Tryz.fd176_1.type = 31 := by kernel_rfl
theorem Tryz.fd176_1o : Tryz.fd176_1.offset = 1 := by kernel_rfl
theorem Tryz.fd176_1n : (Tryz.fd176_1.name = "_") = False := eq_false (by decide +kernel)
noncomputable def Tryz.fd176_2 : Field := match Tryz.prog.underlying 176 with | some (.struct fs) => fs.getD 2 default | _ => default
theorem Tryz.fd176_2t : Tryz.fd176_2.type = 9 := by kernel_rfl
theorem Tryz.fd176_2o : Tryz.fd176_2.offset = 2 := by kernel_rfl
theorem Tryz.fd176_2n : (Tryz.fd176_2.name = "_") = False := eq_false (by decide +kernel)
noncomputable def Tryz.fd176_3 : Field := match Tryz.prog.underlying 176 with | some (.struct fs) => fs.getD 3 default | _ => default
theorem Tryz.fd176_3t : Tryz.fd176_3.type = 174 := by kernel_rfl
theorem Tryz.fd176_3o : Tryz.fd176_3.offset = 3 := by kernel_rfl
theorem Tryz.fd176_3n : (Tryz.fd176_3.name = "_") = False := eq_false (by decide +kernel)
theorem Tryz.y176 : tyOf Tryz.prog 176 = some ⟨.struct #[Tryz.fd176_0, Tryz.fd176_1, Tryz.fd176_2, Tryz.fd176_3], 4, 72, .agg #[.string ⟨#[]⟩, .string ⟨#[]⟩, .string ⟨#[]⟩, .slice none 0 0], true⟩ := by kernel_rfl
noncomputable def Tryz.fd196_0 : Field := match Tryz.prog.underlying 196 with | some (.struct fs) => fs.getD 0 default | _ => default
theorem Tryz.fd196_0t : Tryz.fd196_0.type = 195 := by kernel_rfl
theorem Tryz.fd196_0o : Tryz.fd196_0.offset = 0 := by kernel_rfl
theorem Tryz.fd196_0n : (Tryz.fd196_0.name = "_") = False := eq_false (by decide +kernel)
noncomputable def Tryz.fd196_1 : Field := match Tryz.prog.underlying 196 with | some (.struct fs) => fs.getD 1 default | _ => default
theorem Tryz.fd196_1t : Tryz.fd196_1.type = 161 := by kernel_rfl
theorem Tryz.fd196_1o : Tryz.fd196_1.offset = 1 := by kernel_rfl
theorem Tryz.fd196_1n : (Tryz.fd196_1.name = "_") = False := eq_false (by decide +kernel)
theorem Tryz.y196 : tyOf Tryz.prog 196 = some ⟨.struct #[Tryz.fd196_0, Tryz.fd196_1], 2, 32, .agg #[.pointer none, .slice none 0 0], true⟩ := by kernel_rfl
noncomputable def Tryz.fd197_0 : Field := match Tryz.prog.underlying 197 with | some (.struct fs) => fs.getD 0 default | _ => default
theorem Tryz.fd197_0t : Tryz.fd197_0.type = 195 := by kernel_rfl
theorem Tryz.fd197_0o : Tryz.fd197_0.offset = 0 := by kernel_rfl
theorem Tryz.fd197_0n : (Tryz.fd197_0.name = "_") = False := eq_false (by decide +kernel)
noncomputable def Tryz.fd197_1 : Field := match Tryz.prog.underlying 197 with | some (.struct fs) => fs.getD 1 default | _ => default
theorem Tryz.fd197_1t : Tryz.fd197_1.type = 161 := by kernel_rfl
theorem Tryz.fd197_1o : Tryz.fd197_1.offset = 1 := by kernel_rfl
theorem Tryz.fd197_1n : (Tryz.fd197_1.name = "_") = False := eq_false (by decide +kernel)
theorem Tryz.y197 : tyOf Tryz.prog 197 = some ⟨.struct #[Tryz.fd197_0, Tryz.fd197_1], 2, 32, .agg #[.pointer none, .slice none 0 0], true⟩ := by kernel_rfl
noncomputable def Tryz.fd227_0 : Field := match Tryz.prog.underlying 227 with | some (.struct fs) => fs.getD 0 default | _ => default
theorem Tryz.fd227_0t : Tryz.fd227_0.type = 31 := by kernel_rfl
theorem Tryz.fd227_0o : Tryz.fd227_0.offset = 0 := by kernel_rfl
theorem Tryz.fd227_0n : (Tryz.fd227_0.name = "_") = False := eq_false (by decide +kernel)
noncomputable def Tryz.fd227_1 : Field := match Tryz.prog.underlying 227 with | some (.struct fs) => fs.getD 1 default | _ => default
theorem Tryz.fd227_1t : Tryz.fd227_1.type = 31 := by kernel_rfl
theorem Tryz.fd227_1o : Tryz.fd227_1.offset = 1 := by kernel_rfl
theorem Tryz.fd227_1n : (Tryz.fd227_1.name = "_") = False := eq_false (by decide +kernel)
noncomputable def Tryz.fd227_2 : Field := match Tryz.prog.underlying 227 with | some (.struct fs) => fs.getD 2 default | _ => default
theorem Tryz.fd227_2t : Tryz.fd227_2.type = 61 := by kernel_rfl
theorem Tryz.fd227_2o : Tryz.fd227_2.offset = 2 := by kernel_rfl
theorem Tryz.fd227_2n : (Tryz.fd227_2.name = "_") = False := eq_false (by decide +kernel)
noncomputable def Tryz.fd227_3 : Field := match Tryz.prog.underlying 227 with | some (.struct fs) => fs.getD 3 default | _ => default
theorem Tryz.fd227_3t : Tryz.fd227_3.type = 61 := by kernel_rfl
theorem Tryz.fd227_3o : Tryz.fd227_3.offset = 5 := by kernel_rfl
theorem Tryz.fd227_3n : (Tryz.fd227_3.name = "_") = False := eq_false (by decide +kernel)
theorem Tryz.y227 : tyOf Tryz.prog 227 = some ⟨.struct #[Tryz.fd227_0, Tryz.fd227_1, Tryz.fd227_2, Tryz.fd227_3], 8, 128, .agg #[.string ⟨#[]⟩, .string ⟨#[]⟩, .string ⟨#[]⟩, .string ⟨#[]⟩, .string ⟨#[]⟩, .string ⟨#[]⟩, .string ⟨#[]⟩, .string ⟨#[]⟩], true⟩ := by kernel_rfl
noncomputable def Tryz.fd228_0 : Field := match Tryz.prog.underlying 228 with | some (.struct fs) => fs.getD 0 default | _ => default
theorem Tryz.fd228_0t : Tryz.fd228_0.type = 31 := by kernel_rfl
theorem Tryz.fd228_0o : Tryz.fd228_0.offset = 0 := by kernel_rfl
theorem Tryz.fd228_0n : (Tryz.fd228_0.name = "_") = False := eq_false (by decide +kernel)
noncomputable def Tryz.fd228_1 : Field := match Tryz.prog.underlying 228 with | some (.struct fs) => fs.getD 1 default | _ => default
theorem Tryz.fd228_1t : Tryz.fd228_1.type = 31 := by kernel_rfl
theorem Tryz.fd228_1o : Tryz.fd228_1.offset = 1 := by kernel_rfl
theorem Tryz.fd228_1n : (Tryz.fd228_1.name = "_") = False := eq_false (by decide +kernel)
noncomputable def Tryz.fd228_2 : Field := match Tryz.prog.underlying 228 with | some (.struct fs) => fs.getD 2 default | _ => default
theorem Tryz.fd228_2t : Tryz.fd228_2.type = 61 := by kernel_rfl
theorem Tryz.fd228_2o : Tryz.fd228_2.offset = 2 := by kernel_rfl
theorem Tryz.fd228_2n : (Tryz.fd228_2.name = "_") = False := eq_false (by decide +kernel)
noncomputable def Tryz.fd228_3 : Field := match Tryz.prog.underlying 228 with | some (.struct fs) => fs.getD 3 default | _ => default
theorem Tryz.fd228_3t : Tryz.fd228_3.type = 61 := by kernel_rfl
theorem Tryz.fd228_3o : Tryz.fd228_3.offset = 5 := by kernel_rfl
theorem Tryz.fd228_3n : (Tryz.fd228_3.name = "_") = False := eq_false (by decide +kernel)
theorem Tryz.y228 : tyOf Tryz.prog 228 = some ⟨.struct #[Tryz.fd228_0, Tryz.fd228_1, Tryz.fd228_2, Tryz.fd228_3], 8, 128, .agg #[.string ⟨#[]⟩, .string ⟨#[]⟩, .string ⟨#[]⟩, .string ⟨#[]⟩, .string ⟨#[]⟩, .string ⟨#[]⟩, .string ⟨#[]⟩, .string ⟨#[]⟩], true⟩ := by kernel_rfl
theorem Tryz.y264 : tyOf Tryz.prog 264 = some ⟨.array 3 165, 6, 96, .agg #[.string ⟨#[]⟩, .string ⟨#[]⟩, .string ⟨#[]⟩, .string ⟨#[]⟩, .string ⟨#[]⟩, .string ⟨#[]⟩], true⟩ := by kernel_rfl
noncomputable def Tryz.fd274_0 : Field := match Tryz.prog.underlying 274 with | some (.struct fs) => fs.getD 0 default | _ => default
theorem Tryz.fd274_0t : Tryz.fd274_0.type = 31 := by kernel_rfl
theorem Tryz.fd274_0o : Tryz.fd274_0.offset = 0 := by kernel_rfl
theorem Tryz.fd274_0n : (Tryz.fd274_0.name = "_") = False := eq_false (by decide +kernel)
noncomputable def Tryz.fd274_1 : Field := match Tryz.prog.underlying 274 with | some (.struct fs) => fs.getD 1 default | _ => default
theorem Tryz.fd274_1t : Tryz.fd274_1.type = 31 := by kernel_rfl
theorem Tryz.fd274_1o : Tryz.fd274_1.offset = 1 := by kernel_rfl
theorem Tryz.fd274_1n : (Tryz.fd274_1.name = "_") = False := eq_false (by decide +kernel)
theorem Tryz.y274 : tyOf Tryz.prog 274 = some ⟨.struct #[Tryz.fd274_0, Tryz.fd274_1], 2, 32, .agg #[.string ⟨#[]⟩, .string ⟨#[]⟩], true⟩ := by kernel_rfl
noncomputable def Tryz.fd275_0 : Field := match Tryz.prog.underlying 275 with | some (.struct fs) => fs.getD 0 default | _ => default
theorem Tryz.fd275_0t : Tryz.fd275_0.type = 31 := by kernel_rfl
theorem Tryz.fd275_0o : Tryz.fd275_0.offset = 0 := by kernel_rfl
theorem Tryz.fd275_0n : (Tryz.fd275_0.name = "_") = False := eq_false (by decide +kernel)
noncomputable def Tryz.fd275_1 : Field := match Tryz.prog.underlying 275 with | some (.struct fs) => fs.getD 1 default | _ => default
theorem Tryz.fd275_1t : Tryz.fd275_1.type = 31 := by kernel_rfl
theorem Tryz.fd275_1o : Tryz.fd275_1.offset = 1 := by kernel_rfl
theorem Tryz.fd275_1n : (Tryz.fd275_1.name = "_") = False := eq_false (by decide +kernel)
theorem Tryz.y275 : tyOf Tryz.prog 275 = some ⟨.struct #[Tryz.fd275_0, Tryz.fd275_1], 2, 32, .agg #[.string ⟨#[]⟩, .string ⟨#[]⟩], true⟩ := by kernel_rfl
theorem Tryz.y288 : tyOf Tryz.prog 288 = some ⟨.array 24 5, 24, 24, .agg #[.int .u8 0, .int .u8 0, .int .u8 0, .int .u8 0, .int .u8 0, .int .u8 0, .int .u8 0, .int .u8 0, .int .u8 0, .int .u8 0, .int .u8 0, .int .u8 0, .int .u8 0, .int .u8 0, .int .u8 0, .int .u8 0, .int .u8 0, .int .u8 0, .int .u8 0, .int .u8 0, .int .u8 0, .int .u8 0, .int .u8 0, .int .u8 0], true⟩ := by kernel_rfl
theorem Tryz.y307 : tyOf Tryz.prog 307 = some ⟨.array 2 3, 2, 16, .agg #[.int .i64 0, .int .i64 0], true⟩ := by kernel_rfl
theorem Tryz.y323 : tyOf Tryz.prog 323 = some ⟨.array 3 61, 9, 144, .agg #[.string ⟨#[]⟩, .string ⟨#[]⟩, .string ⟨#[]⟩, .string ⟨#[]⟩, .string ⟨#[]⟩, .string ⟨#[]⟩, .string ⟨#[]⟩, .string ⟨#[]⟩, .string ⟨#[]⟩], true⟩ := by kernel_rfl
noncomputable def Tryz.fd324_0 : Field := match Tryz.prog.underlying 324 with | some (.struct fs) => fs.getD 0 default | _ => default
theorem Tryz.fd324_0t : Tryz.fd324_0.type = 323 := by kernel_rfl
theorem Tryz.fd324_0o : Tryz.fd324_0.offset = 0 := by kernel_rfl
theorem Tryz.fd324_0n : (Tryz.fd324_0.name = "_") = False := eq_false (by decide +kernel)
noncomputable def Tryz.fd324_1 : Field := match Tryz.prog.underlying 324 with | some (.struct fs) => fs.getD 1 default | _ => default
theorem Tryz.fd324_1t : Tryz.fd324_1.type = 61 := by kernel_rfl
theorem Tryz.fd324_1o : Tryz.fd324_1.offset = 9 := by kernel_rfl
theorem Tryz.fd324_1n : (Tryz.fd324_1.name = "_") = False := eq_false (by decide +kernel)
theorem Tryz.y324 : tyOf Tryz.prog 324 = some ⟨.struct #[Tryz.fd324_0, Tryz.fd324_1], 12, 192, .agg #[.string ⟨#[]⟩, .string ⟨#[]⟩, .string ⟨#[]⟩, .string ⟨#[]⟩, .string ⟨#[]⟩, .string ⟨#[]⟩, .string ⟨#[]⟩, .string ⟨#[]⟩, .string ⟨#[]⟩, .string ⟨#[]⟩, .string ⟨#[]⟩, .string ⟨#[]⟩], true⟩ := by kernel_rfl
noncomputable def Tryz.fd325_0 : Field := match Tryz.prog.underlying 325 with | some (.struct fs) => fs.getD 0 default | _ => default
theorem Tryz.fd325_0t : Tryz.fd325_0.type = 323 := by kernel_rfl
theorem Tryz.fd325_0o : Tryz.fd325_0.offset = 0 := by kernel_rfl
theorem Tryz.fd325_0n : (Tryz.fd325_0.name = "_") = False := eq_false (by decide +kernel)
noncomputable def Tryz.fd325_1 : Field := match Tryz.prog.underlying 325 with | some (.struct fs) => fs.getD 1 default | _ => default
theorem Tryz.fd325_1t : Tryz.fd325_1.type = 61 := by kernel_rfl
theorem Tryz.fd325_1o : Tryz.fd325_1.offset = 9 := by kernel_rfl
theorem Tryz.fd325_1n : (Tryz.fd325_1.name = "_") = False := eq_false (by decide +kernel)
theorem Tryz.y325 : tyOf Tryz.prog 325 = some ⟨.struct #[Tryz.fd325_0, Tryz.fd325_1], 12, 192, .agg #[.string ⟨#[]⟩, .string ⟨#[]⟩, .string ⟨#[]⟩, .string ⟨#[]⟩, .string ⟨#[]⟩, .string ⟨#[]⟩, .string ⟨#[]⟩, .string ⟨#[]⟩, .string ⟨#[]⟩, .string ⟨#[]⟩, .string ⟨#[]⟩, .string ⟨#[]⟩], true⟩ := by kernel_rfl
theorem Tryz.y335 : tyOf Tryz.prog 335 = some ⟨.array 20 187, 20, 160, .agg #[.int .u64 0, .int .u64 0, .int .u64 0, .int .u64 0, .int .u64 0, .int .u64 0, .int .u64 0, .int .u64 0, .int .u64 0, .int .u64 0, .int .u64 0, .int .u64 0, .int .u64 0, .int .u64 0, .int .u64 0, .int .u64 0, .int .u64 0, .int .u64 0, .int .u64 0, .int .u64 0], true⟩ := by kernel_rfl
theorem Tryz.y336 : tyOf Tryz.prog 336 = some ⟨.array 65 5, 65, 65, .agg #[.int .u8 0, .int .u8 0, .int .u8 0, .int .u8 0, .int .u8 0, .int .u8 0, .int .u8 0, .int .u8 0, .int .u8 0, .int .u8 0, .int .u8 0, .int .u8 0, .int .u8 0, .int .u8 0, .int .u8 0, .int .u8 0, .int .u8 0, .int .u8 0, .int .u8 0, .int .u8 0, .int .u8 0, .int .u8 0, .int .u8 0, .int .u8 0, .int .u8 0, .int .u8 0, .int .u8 0, .int .u8 0, .int .u8 0, .int .u8 0, .int .u8 0, .int .u8 0, .int .u8 0, .int .u8 0, .int .u8 0, .int .u8 0, .int .u8 0, .int .u8 0, .int .u8 0, .int .u8 0, .int .u8 0, .int .u8 0, .int .u8 0, .int .u8 0, .int .u8 0, .int .u8 0, .int .u8 0, .int .u8 0, .int .u8 0, .int .u8 0, .int .u8 0, .int .u8 0, .int .u8 0, .int .u8 0, .int .u8 0, .int .u8 0, .int .u8 0, .int .u8 0, .int .u8 0, .int .u8 0, .int .u8 0, .int .u8 0, .int .u8 0, .int .u8 0, .int .u8 0], true⟩ := by kernel_rfl
theorem Tryz.y362 : tyOf Tryz.prog 362 = some ⟨.array 3 31, 3, 48, .agg #[.string ⟨#[]⟩, .string ⟨#[]⟩, .string ⟨#[]⟩], true⟩ := by kernel_rfl
theorem Tryz.y367 : tyOf Tryz.prog 367 = some ⟨.array 3 31, 3, 48, .agg #[.string ⟨#[]⟩, .string ⟨#[]⟩, .string ⟨#[]⟩], true⟩ := by kernel_rfl
theorem Tryz.y368 : tyOf Tryz.prog 368 = some ⟨.array 3 367, 9, 144, .agg #[.string ⟨#[]⟩, .string ⟨#[]⟩, .string ⟨#[]⟩, .string ⟨#[]⟩, .string ⟨#[]⟩, .string ⟨#[]⟩, .string ⟨#[]⟩, .string ⟨#[]⟩, .string ⟨#[]⟩], true⟩ := by kernel_rfl
theorem Tryz.y369 : tyOf Tryz.prog 369 = some ⟨.array 3 367, 9, 144, .agg #[.string ⟨#[]⟩, .string ⟨#[]⟩, .string ⟨#[]⟩, .string ⟨#[]⟩, .string ⟨#[]⟩, .string ⟨#[]⟩, .string ⟨#[]⟩, .string ⟨#[]⟩, .string ⟨#[]⟩], true⟩ := by kernel_rfl
noncomputable def Tryz.fd374_0 : Field := match Tryz.prog.underlying 374 with | some (.struct fs) => fs.getD 0 default | _ => default
theorem Tryz.fd374_0t : Tryz.fd374_0.type = 9 := by kernel_rfl
theorem Tryz.fd374_0o : Tryz.fd374_0.offset = 0 := by kernel_rfl
theorem Tryz.fd374_0n : (Tryz.fd374_0.name = "_") = False := eq_false (by decide +kernel)
theorem Tryz.y374 : tyOf Tryz.prog 374 = some ⟨.struct #[Tryz.fd374_0], 1, 16, .agg #[.string ⟨#[]⟩], true⟩ := by kernel_rfl
noncomputable def Tryz.fd375_0 : Field := match Tryz.prog.underlying 375 with | some (.struct fs) => fs.getD 0 default | _ => default
theorem Tryz.fd375_0t : Tryz.fd375_0.type = 9 := by kernel_rfl
theorem Tryz.fd375_0o : Tryz.fd375_0.offset = 0 := by kernel_rfl
theorem Tryz.fd375_0n : (Tryz.fd375_0.name = "_") = False := eq_false (by decide +kernel)
theorem Tryz.y375 : tyOf Tryz.prog 375 = some ⟨.struct #[Tryz.fd375_0], 1, 16, .agg #[.string ⟨#[]⟩], true⟩ := by kernel_rfl
theorem Tryz.y391 : tyOf Tryz.prog 391 = some ⟨.array 32 5, 32, 32, .agg #[.int .u8 0, .int .u8 0, .int .u8 0, .int .u8 0, .int .u8 0, .int .u8 0, .int .u8 0, .int .u8 0, .int .u8 0, .int .u8 0, .int .u8 0, .int .u8 0, .int .u8 0, .int .u8 0, .int .u8 0, .int .u8 0, .int .u8 0, .int .u8 0, .int .u8 0, .int .u8 0, .int .u8 0, .int .u8 0, .int .u8 0, .int .u8 0, .int .u8 0, .int .u8 0, .int .u8 0, .int .u8 0, .int .u8 0, .int .u8 0, .int .u8 0, .int .u8 0], true⟩ := by kernel_rfl
theorem Tryz.y392 : tyOf Tryz.prog 392 = some ⟨.array 64 5, 64, 64, .agg #[.int .u8 0, .int .u8 0, .int .u8 0, .int .u8 0, .int .u8 0, .int .u8 0, .int .u8 0, .int .u8 0, .int .u8 0, .int .u8 0, .int .u8 0, .int .u8 0, .int .u8 0, .int .u8 0, .int .u8 0, .int .u8 0, .int .u8 0, .int .u8 0, .int .u8 0, .int .u8 0, .int .u8 0, .int .u8 0, .int .u8 0, .int .u8 0, .int .u8 0, .int .u8 0, .int .u8 0, .int .u8 0, .int .u8 0, .int .u8 0, .int .u8 0, .int .u8 0, .int .u8 0, .int .u8 0, .int .u8 0, .int .u8 0, .int .u8 0, .int .u8 0, .int .u8 0, .int .u8 0, .int .u8 0, .int .u8 0, .int .u8 0, .int .u8 0, .int .u8 0, .int .u8 0, .int .u8 0, .int .u8 0, .int .u8 0, .int .u8 0, .int .u8 0, .int .u8 0, .int .u8 0, .int .u8 0, .int .u8 0, .int .u8 0, .int .u8 0, .int .u8 0, .int .u8 0, .int .u8 0, .int .u8 0, .int .u8 0, .int .u8 0, .int .u8 0], true⟩ := by kernel_rfl
noncomputable def Tryz.fd405_0 : Field := match Tryz.prog.underlying 405 with | some (.struct fs) => fs.getD 0 default | _ => default
theorem Tryz.fd405_0t : Tryz.fd405_0.type = 165 := by kernel_rfl
theorem Tryz.fd405_0o : Tryz.fd405_0.offset = 0 := by kernel_rfl
theorem Tryz.fd405_0n : (Tryz.fd405_0.name = "_") = False := eq_false (by decide +kernel)
noncomputable def Tryz.fd405_1 : Field := match Tryz.prog.underlying 405 with | some (.struct fs) => fs.getD 1 default | _ => default
theorem Tryz.fd405_1t : Tryz.fd405_1.type = 31 := by kernel_rfl
theorem Tryz.fd405_1o : Tryz.fd405_1.offset = 2 := by kernel_rfl
theorem Tryz.fd405_1n : (Tryz.fd405_1.name = "_") = False := eq_false (by decide +kernel)
theorem Tryz.y405 : tyOf Tryz.prog 405 = some ⟨.struct #[Tryz.fd405_0, Tryz.fd405_1], 3, 48, .agg #[.string ⟨#[]⟩, .string ⟨#[]⟩, .string ⟨#[]⟩], true⟩ := by kernel_rfl
noncomputable def Tryz.fd406_0 : Field := match Tryz.prog.underlying 406 with | some (.struct fs) => fs.getD 0 default | _ => default
theorem Tryz.fd406_0t : Tryz.fd406_0.type = 165 := by kernel_rfl
theorem Tryz.fd406_0o : Tryz.fd406_0.offset = 0 := by kernel_rfl
theorem Tryz.fd406_0n : (Tryz.fd406_0.name = "_") = False := eq_false (by decide +kernel)
noncomputable def Tryz.fd406_1 : Field := match Tryz.prog.underlying 406 with | some (.struct fs) => fs.getD 1 default | _ => default
theorem Tryz.fd406_1t : Tryz.fd406_1.type = 31 := by kernel_rfl
theorem Tryz.fd406_1o : Tryz.fd406_1.offset = 2 := by kernel_rfl
theorem Tryz.fd406_1n : (Tryz.fd406_1.name = "_") = False := eq_false (by decide +kernel)
theorem Tryz.y406 : tyOf Tryz.prog 406 = some ⟨.struct #[Tryz.fd406_0, Tryz.fd406_1], 3, 48, .agg #[.string ⟨#[]⟩, .string ⟨#[]⟩, .string ⟨#[]⟩], true⟩ := by kernel_rfl
theorem Tryz.y407 : tyOf Tryz.prog 407 = some ⟨.array 3 406, 9, 144, .agg #[.string ⟨#[]⟩, .string ⟨#[]⟩, .string ⟨#[]⟩, .string ⟨#[]⟩, .string ⟨#[]⟩, .string ⟨#[]⟩, .string ⟨#[]⟩, .string ⟨#[]⟩, .string ⟨#[]⟩], true⟩ := by kernel_rfl
noncomputable def Tryz.fd414_0 : Field := match Tryz.prog.underlying 414 with | some (.struct fs) => fs.getD 0 default | _ => default
theorem Tryz.fd414_0t : Tryz.fd414_0.type = 17 := by kernel_rfl
theorem Tryz.fd414_0o : Tryz.fd414_0.offset = 0 := by kernel_rfl
theorem Tryz.fd414_0n : (Tryz.fd414_0.name = "_") = False := eq_false (by decide +kernel)
noncomputable def Tryz.fd414_1 : Field := match Tryz.prog.underlying 414 with | some (.struct fs) => fs.getD 1 default | _ => default
theorem Tryz.fd414_1t : Tryz.fd414_1.type = 17 := by kernel_rfl
theorem Tryz.fd414_1o : Tryz.fd414_1.offset = 1 := by kernel_rfl
theorem Tryz.fd414_1n : (Tryz.fd414_1.name = "_") = False := eq_false (by decide +kernel)
noncomputable def Tryz.fd414_2 : Field := match Tryz.prog.underlying 414 with | some (.struct fs) => fs.getD 2 default | _ => default
theorem Tryz.fd414_2t : Tryz.fd414_2.type = 17 := by kernel_rfl
theorem Tryz.fd414_2o : Tryz.fd414_2.offset = 2 := by kernel_rfl
theorem Tryz.fd414_2n : (Tryz.fd414_2.name = "_") = False := eq_false (by decide +kernel)
noncomputable def Tryz.fd414_3 : Field := match Tryz.prog.underlying 414 with | some (.struct fs) => fs.getD 3 default | _ => default
theorem Tryz.fd414_3t : Tryz.fd414_3.type = 9 := by kernel_rfl
theorem Tryz.fd414_3o : Tryz.fd414_3.offset = 3 := by kernel_rfl
theorem Tryz.fd414_3n : (Tryz.fd414_3.name = "_") = False := eq_false (by decide +kernel)
theorem Tryz.y414 : tyOf Tryz.prog 414 = some ⟨.struct #[Tryz.fd414_0, Tryz.fd414_1, Tryz.fd414_2, Tryz.fd414_3], 4, 40, .agg #[.pointer none, .pointer none, .pointer none, .string ⟨#[]⟩], false⟩ := by kernel_rfl
noncomputable def Tryz.fd415_0 : Field := match Tryz.prog.underlying 415 with | some (.struct fs) => fs.getD 0 default | _ => default
theorem Tryz.fd415_0t : Tryz.fd415_0.type = 17 := by kernel_rfl
theorem Tryz.fd415_0o : Tryz.fd415_0.offset = 0 := by kernel_rfl
theorem Tryz.fd415_0n : (Tryz.fd415_0.name = "_") = False := eq_false (by decide +kernel)
noncomputable def Tryz.fd415_1 : Field := match Tryz.prog.underlying 415 with | some (.struct fs) => fs.getD 1 default | _ => default
theorem Tryz.fd415_1t : Tryz.fd415_1.type = 17 := by kernel_rfl
theorem Tryz.fd415_1o : Tryz.fd415_1.offset = 1 := by kernel_rfl
theorem Tryz.fd415_1n : (Tryz.fd415_1.name = "_") = False := eq_false (by decide +kernel)
noncomputable def Tryz.fd415_2 : Field := match Tryz.prog.underlying 415 with | some (.struct fs) => fs.getD 2 default | _ => default
theorem Tryz.fd415_2t : Tryz.fd415_2.type = 17 := by kernel_rfl
theorem Tryz.fd415_2o : Tryz.fd415_2.offset = 2 := by kernel_rfl
theorem Tryz.fd415_2n : (Tryz.fd415_2.name = "_") = False := eq_false (by decide +kernel)
noncomputable def Tryz.fd415_3 : Field := match Tryz.prog.underlying 415 with | some (.struct fs) => fs.getD 3 default | _ => default
theorem Tryz.fd415_3t : Tryz.fd415_3.type = 9 := by kernel_rfl
theorem Tryz.fd415_3o : Tryz.fd415_3.offset = 3 := by kernel_rfl
theorem Tryz.fd415_3n : (Tryz.fd415_3.name = "_") = False := eq_false (by decide +kernel)
theorem Tryz.y415 : tyOf Tryz.prog 415 = some ⟨.struct #[Tryz.fd415_0, Tryz.fd415_1, Tryz.fd415_2, Tryz.fd415_3], 4, 40, .agg #[.pointer none, .pointer none, .pointer none, .string ⟨#[]⟩], false⟩ := by kernel_rfl
theorem Tryz.y416 : tyOf Tryz.prog 416 = some ⟨.array 0 16, 0, 0, .agg #[], true⟩ := by kernel_rfl
noncomputable def Tryz.fd417_0 : Field := match Tryz.prog.underlying 417 with | some (.struct fs) => fs.getD 0 default | _ => default
theorem Tryz.fd417_0t : Tryz.fd417_0.type = 416 := by kernel_rfl
theorem Tryz.fd417_0o : Tryz.fd417_0.offset = 0 := by kernel_rfl
theorem Tryz.y417 : tyOf Tryz.prog 417 = some ⟨.struct #[Tryz.fd417_0], 0, 0, .agg #[], false⟩ := by kernel_rfl
noncomputable def Tryz.fd418_0 : Field := match Tryz.prog.underlying 418 with | some (.struct fs) => fs.getD 0 default | _ => default
theorem Tryz.fd418_0t : Tryz.fd418_0.type = 416 := by kernel_rfl
theorem Tryz.fd418_0o : Tryz.fd418_0.offset = 0 := by kernel_rfl
theorem Tryz.y418 : tyOf Tryz.prog 418 = some ⟨.struct #[Tryz.fd418_0], 0, 0, .agg #[], false⟩ := by kernel_rfl
attribute [simp] Tryz.fd7_0t Tryz.fd7_0o Tryz.fd7_0n Tryz.fd7_1t Tryz.fd7_1o Tryz.fd7_1n Tryz.fd7_2t Tryz.fd7_2o Tryz.fd7_2n Tryz.fd7_3t Tryz.fd7_3o Tryz.fd7_3n Tryz.y7 Tryz.fd8_0t Tryz.fd8_0o Tryz.fd8_0n Tryz.fd8_1t Tryz.fd8_1o Tryz.fd8_1n Tryz.fd8_2t
attribute [simp] Tryz.fd8_2o Tryz.fd8_2n Tryz.fd8_3t Tryz.fd8_3o Tryz.fd8_3n Tryz.y8 Tryz.fd13_0t Tryz.fd13_0o Tryz.fd13_0n Tryz.fd13_1t Tryz.fd13_1o Tryz.fd13_1n Tryz.y13 Tryz.fd14_0t Tryz.fd14_0o Tryz.fd14_0n Tryz.fd14_1t Tryz.fd14_1o Tryz.fd14_1n Tryz.y14
attribute [simp] Tryz.fd18_0t Tryz.fd18_0o Tryz.fd18_0n Tryz.y18 Tryz.fd19_0t Tryz.fd19_0o Tryz.fd19_0n Tryz.y19 Tryz.fd32_0t Tryz.fd32_0o Tryz.fd32_0n Tryz.fd32_1t Tryz.fd32_1o Tryz.fd32_1n Tryz.fd32_2t Tryz.fd32_2o Tryz.fd32_2n Tryz.y32 Tryz.fd33_0t Tryz.fd33_0o
attribute [simp] Tryz.fd33_0n Tryz.fd33_1t Tryz.fd33_1o Tryz.fd33_1n Tryz.fd33_2t Tryz.fd33_2o Tryz.fd33_2n Tryz.y33 Tryz.fd43_0t Tryz.fd43_0o Tryz.fd43_0n Tryz.fd43_1t Tryz.fd43_1o Tryz.fd43_1n Tryz.fd43_2t Tryz.fd43_2o Tryz.fd43_2n Tryz.fd43_3t Tryz.fd43_3o Tryz.fd43_3n
attribute [simp] Tryz.y43 Tryz.fd44_0t Tryz.fd44_0o Tryz.fd44_0n Tryz.fd44_1t Tryz.fd44_1o Tryz.fd44_1n Tryz.fd44_2t Tryz.fd44_2o Tryz.fd44_2n Tryz.fd44_3t Tryz.fd44_3o Tryz.fd44_3n Tryz.y44 Tryz.fd60_0t Tryz.fd60_0o Tryz.fd60_0n Tryz.fd60_1t Tryz.fd60_1o Tryz.fd60_1n
attribute [simp] Tryz.fd60_2t Tryz.fd60_2o Tryz.fd60_2n Tryz.y60 Tryz.fd61_0t Tryz.fd61_0o Tryz.fd61_0n Tryz.fd61_1t Tryz.fd61_1o Tryz.fd61_1n Tryz.fd61_2t Tryz.fd61_2o Tryz.fd61_2n Tryz.y61 Tryz.fd69_0t Tryz.fd69_0o Tryz.fd69_0n Tryz.fd69_1t Tryz.fd69_1o Tryz.fd69_1n
attribute [simp] Tryz.y69 Tryz.fd70_0t Tryz.fd70_0o Tryz.fd70_0n Tryz.fd70_1t Tryz.fd70_1o Tryz.fd70_1n Tryz.y70 Tryz.fd72_0t Tryz.fd72_0o Tryz.fd72_0n Tryz.fd72_1t Tryz.fd72_1o Tryz.fd72_1n Tryz.fd72_2t Tryz.fd72_2o Tryz.fd72_2n Tryz.y72 Tryz.fd73_0t Tryz.fd73_0o
attribute [simp] Tryz.fd73_0n Tryz.fd73_1t Tryz.fd73_1o Tryz.fd73_1n Tryz.fd73_2t Tryz.fd73_2o Tryz.fd73_2n Tryz.y73 Tryz.fd76_0t Tryz.fd76_0o Tryz.fd76_0n Tryz.fd76_1t Tryz.fd76_1o Tryz.fd76_1n Tryz.fd76_2t Tryz.fd76_2o Tryz.fd76_2n Tryz.y76 Tryz.fd77_0t Tryz.fd77_0o
attribute [simp] Tryz.fd77_0n Tryz.fd77_1t Tryz.fd77_1o Tryz.fd77_1n Tryz.fd77_2t Tryz.fd77_2o Tryz.fd77_2n Tryz.y77 Tryz.fd111_0t Tryz.fd111_0o Tryz.fd111_0n Tryz.fd111_1t Tryz.fd111_1o Tryz.fd111_1n Tryz.fd111_2t Tryz.fd111_2o Tryz.fd111_2n Tryz.y111 Tryz.fd112_0t Tryz.fd112_0o
attribute [simp] Tryz.fd112_0n Tryz.fd112_1t Tryz.fd112_1o Tryz.fd112_1n Tryz.fd112_2t Tryz.fd112_2o Tryz.fd112_2n Tryz.y112 Tryz.fd113_0t Tryz.fd113_0o Tryz.fd113_0n Tryz.fd113_1t Tryz.fd113_1o Tryz.fd113_1n Tryz.y113 Tryz.fd114_0t Tryz.fd114_0o Tryz.fd114_0n Tryz.fd114_1t Tryz.fd114_1o
attribute [simp] Tryz.fd114_1n Tryz.y114 Tryz.fd115_0t Tryz.fd115_0o Tryz.fd115_0n Tryz.fd115_1t Tryz.fd115_1o Tryz.fd115_1n Tryz.y115 Tryz.fd116_0t Tryz.fd116_0o Tryz.fd116_0n Tryz.fd116_1t Tryz.fd116_1o Tryz.fd116_1n Tryz.y116 Tryz.fd118_0t Tryz.fd118_0o Tryz.fd118_0n Tryz.fd118_1t
attribute [simp] Tryz.fd118_1o Tryz.fd118_1n Tryz.fd118_2t Tryz.fd118_2o Tryz.fd118_2n Tryz.y118 Tryz.fd119_0t Tryz.fd119_0o Tryz.fd119_0n Tryz.fd119_1t Tryz.fd119_1o Tryz.fd119_1n Tryz.fd119_2t Tryz.fd119_2o Tryz.fd119_2n Tryz.y119 Tryz.fd120_0t Tryz.fd120_0o Tryz.fd120_0n Tryz.fd120_1t
attribute [simp] Tryz.fd120_1o Tryz.fd120_1n Tryz.fd120_2t Tryz.fd120_2o Tryz.fd120_2n Tryz.y120 Tryz.fd121_0t Tryz.fd121_0o Tryz.fd121_0n Tryz.fd121_1t Tryz.fd121_1o Tryz.fd121_1n Tryz.fd121_2t Tryz.fd121_2o Tryz.fd121_2n Tryz.y121 Tryz.y122 Tryz.fd123_0t Tryz.fd123_0o Tryz.fd123_0n
attribute [simp] Tryz.fd123_1t Tryz.fd123_1o Tryz.fd123_1n Tryz.y123 Tryz.fd124_0t Tryz.fd124_0o Tryz.fd124_0n Tryz.fd124_1t Tryz.fd124_1o Tryz.fd124_1n Tryz.y124 Tryz.fd125_0t Tryz.fd125_0o Tryz.fd125_0n Tryz.fd125_1t Tryz.fd125_1o Tryz.fd125_1n Tryz.fd125_2t Tryz.fd125_2o Tryz.fd125_2n
attribute [simp] Tryz.fd125_3t Tryz.fd125_3o Tryz.fd125_3n Tryz.fd125_4t Tryz.fd125_4o Tryz.fd125_4n Tryz.fd125_5t Tryz.fd125_5o Tryz.fd125_5n Tryz.fd125_6t Tryz.fd125_6o Tryz.fd125_6n Tryz.y125 Tryz.fd126_0t Tryz.fd126_0o Tryz.fd126_0n Tryz.fd126_1t Tryz.fd126_1o Tryz.fd126_1n Tryz.fd126_2t
attribute [simp] Tryz.fd126_2o Tryz.fd126_2n Tryz.fd126_3t Tryz.fd126_3o Tryz.fd126_3n Tryz.fd126_4t Tryz.fd126_4o Tryz.fd126_4n Tryz.fd126_5t Tryz.fd126_5o Tryz.fd126_5n Tryz.fd126_6t Tryz.fd126_6o Tryz.fd126_6n Tryz.y126 Tryz.fd131_0t Tryz.fd131_0o Tryz.fd131_0n Tryz.fd131_1t Tryz.fd131_1o
attribute [simp] Tryz.fd131_1n Tryz.fd131_2t Tryz.fd131_2o Tryz.fd131_2n Tryz.y131 Tryz.fd132_0t Tryz.fd132_0o Tryz.fd132_0n Tryz.fd132_1t Tryz.fd132_1o Tryz.fd132_1n Tryz.fd132_2t Tryz.fd132_2o Tryz.fd132_2n Tryz.y132 Tryz.fd151_0t Tryz.fd151_0o Tryz.fd151_0n Tryz.fd151_1t Tryz.fd151_1o
attribute [simp] Tryz.fd151_1n Tryz.y151 Tryz.fd152_0t Tryz.fd152_0o Tryz.fd152_0n Tryz.fd152_1t Tryz.fd152_1o Tryz.fd152_1n Tryz.y152 Tryz.fd164_0t Tryz.fd164_0o Tryz.fd164_0n Tryz.fd164_1t Tryz.fd164_1o Tryz.fd164_1n Tryz.y164 Tryz.fd165_0t Tryz.fd165_0o Tryz.fd165_0n Tryz.fd165_1t
attribute [simp] Tryz.fd165_1o Tryz.fd165_1n Tryz.y165 Tryz.y166 Tryz.y167 Tryz.fd175_0t Tryz.fd175_0o Tryz.fd175_0n Tryz.fd175_1t Tryz.fd175_1o Tryz.fd175_1n Tryz.fd175_2t Tryz.fd175_2o Tryz.fd175_2n Tryz.fd175_3t Tryz.fd175_3o Tryz.fd175_3n Tryz.y175 Tryz.fd176_0t Tryz.fd176_0o
attribute [simp] Tryz.fd176_0n Tryz.fd176_1t Tryz.fd176_1o Tryz.fd176_1n Tryz.fd176_2t Tryz.fd176_2o Tryz.fd176_2n Tryz.fd176_3t Tryz.fd176_3o Tryz.fd176_3n Tryz.y176 Tryz.fd196_0t Tryz.fd196_0o Tryz.fd196_0n Tryz.fd196_1t Tryz.fd196_1o Tryz.fd196_1n Tryz.y196 Tryz.fd197_0t Tryz.fd197_0o
attribute [simp] Tryz.fd197_0n Tryz.fd197_1t Tryz.fd197_1o Tryz.fd197_1n Tryz.y197 Tryz.fd227_0t Tryz.fd227_0o Tryz.fd227_0n Tryz.fd227_1t Tryz.fd227_1o Tryz.fd227_1n Tryz.fd227_2t Tryz.fd227_2o Tryz.fd227_2n Tryz.fd227_3t Tryz.fd227_3o Tryz.fd227_3n Tryz.y227 Tryz.fd228_0t Tryz.fd228_0o
attribute [simp] Tryz.fd228_0n Tryz.fd228_1t Tryz.fd228_1o Tryz.fd228_1n Tryz.fd228_2t Tryz.fd228_2o Tryz.fd228_2n Tryz.fd228_3t Tryz.fd228_3o Tryz.fd228_3n Tryz.y228 Tryz.y264 Tryz.fd274_0t Tryz.fd274_0o Tryz.fd274_0n Tryz.fd274_1t Tryz.fd274_1o Tryz.fd274_1n Tryz.y274 Tryz.fd275_0t
attribute [simp] Tryz.fd275_0o Tryz.fd275_0n Tryz.fd275_1t Tryz.fd275_1o Tryz.fd275_1n Tryz.y275 Tryz.y288 Tryz.y307 Tryz.y323 Tryz.fd324_0t Tryz.fd324_0o Tryz.fd324_0n Tryz.fd324_1t Tryz.fd324_1o Tryz.fd324_1n Tryz.y324 Tryz.fd325_0t Tryz.fd325_0o Tryz.fd325_0n Tryz.fd325_1t
attribute [simp] Tryz.fd325_1o Tryz.fd325_1n Tryz.y325 Tryz.y335 Tryz.y336 Tryz.y362 Tryz.y367 Tryz.y368 Tryz.y369 Tryz.fd374_0t Tryz.fd374_0o Tryz.fd374_0n Tryz.y374 Tryz.fd375_0t Tryz.fd375_0o Tryz.fd375_0n Tryz.y375 Tryz.y391 Tryz.y392 Tryz.fd405_0t
attribute [simp] Tryz.fd405_0o Tryz.fd405_0n Tryz.fd405_1t Tryz.fd405_1o Tryz.fd405_1n Tryz.y405 Tryz.fd406_0t Tryz.fd406_0o Tryz.fd406_0n Tryz.fd406_1t Tryz.fd406_1o Tryz.fd406_1n Tryz.y406 Tryz.y407 Tryz.fd414_0t Tryz.fd414_0o Tryz.fd414_0n Tryz.fd414_1t Tryz.fd414_1o Tryz.fd414_1n
attribute [simp] Tryz.fd414_2t Tryz.fd414_2o Tryz.fd414_2n Tryz.fd414_3t Tryz.fd414_3o Tryz.fd414_3n Tryz.y414 Tryz.fd415_0t Tryz.fd415_0o Tryz.fd415_0n Tryz.fd415_1t Tryz.fd415_1o Tryz.fd415_1n Tryz.fd415_2t Tryz.fd415_2o Tryz.fd415_2n Tryz.fd415_3t Tryz.fd415_3o Tryz.fd415_3n Tryz.y415
attribute [simp] Tryz.y416 Tryz.fd417_0t Tryz.fd417_0o Tryz.y417 Tryz.fd418_0t Tryz.fd418_0o Tryz.y418
end Go.Proofs
