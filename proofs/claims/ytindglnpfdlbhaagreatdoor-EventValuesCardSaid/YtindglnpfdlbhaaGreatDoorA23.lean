/- Part A23 of a proof: see its last part, YtindglnpfdlbhaaGreatDoorA51.lean. -/
import Derived.Test.YtindglnpfdlbhaaGreatDoorA12
set_option linter.all false
namespace Go.Proofs
open Go.Eng
noncomputable def Tryz.fd7_0 : Field := match Tryz.prog.underlying 7 with | some (.struct fs) => fs.getD 0 default | _ => default
theorem Tryz.fd7_0t : Tryz.fd7_0.type = 2 := by kernel_rfl
theorem Tryz.fd7_0o : Tryz.fd7_0.offset = 0 := by kernel_rfl
theorem Tryz.fd7_0n : (Tryz.fd7_0.name = "_") = False := eq_false (by decide +kernel)
noncomputable def Tryz.fd7_1 : Field := match Tryz.prog.underlying 7 with | some (.struct fs) => fs.getD 1 default | _ => default
theorem Tryz.fd7_1t : Tryz.fd7_1.type = 3 := by kernel_rfl
theorem Tryz.fd7_1o : Tryz.fd7_1.offset = 1 := by kernel_rfl
theorem Tryz.fd7_1n : (Tryz.fd7_1.name = "_") = False := eq_false (by decide +kernel)
noncomputable def Tryz.fd7_2 : Field := match Tryz.prog.underlying 7 with | some (.struct fs) => fs.getD 2 default | _ => default
theorem Tryz.fd7_2t : Tryz.fd7_2.type = 4 := by kernel_rfl
theorem Tryz.fd7_2o : Tryz.fd7_2.offset = 2 := by kernel_rfl
theorem Tryz.fd7_2n : (Tryz.fd7_2.name = "_") = False := eq_false (by decide +kernel)
noncomputable def Tryz.fd7_3 : Field := match Tryz.prog.underlying 7 with | some (.struct fs) => fs.getD 3 default | _ => default
theorem Tryz.fd7_3t : Tryz.fd7_3.type = 6 := by kernel_rfl
theorem Tryz.fd7_3o : Tryz.fd7_3.offset = 3 := by kernel_rfl
theorem Tryz.fd7_3n : (Tryz.fd7_3.name = "_") = False := eq_false (by decide +kernel)
theorem Tryz.y7 : tyOf Tryz.prog 7 = some ⟨.struct #[Tryz.fd7_0, Tryz.fd7_1, Tryz.fd7_2, Tryz.fd7_3], 4, 24, .agg #[.int .i64 0, .int .i64 0, .bool false, .int .u8 0], true⟩ := by kernel_rfl
noncomputable def Tryz.fd8_0 : Field := match Tryz.prog.underlying 8 with | some (.struct fs) => fs.getD 0 default | _ => default
theorem Tryz.fd8_0t : Tryz.fd8_0.type = 2 := by kernel_rfl
theorem Tryz.fd8_0o : Tryz.fd8_0.offset = 0 := by kernel_rfl
theorem Tryz.fd8_0n : (Tryz.fd8_0.name = "_") = False := eq_false (by decide +kernel)
noncomputable def Tryz.fd8_1 : Field := match Tryz.prog.underlying 8 with | some (.struct fs) => fs.getD 1 default | _ => default
theorem Tryz.fd8_1t : Tryz.fd8_1.type = 3 := by kernel_rfl
theorem Tryz.fd8_1o : Tryz.fd8_1.offset = 1 := by kernel_rfl
theorem Tryz.fd8_1n : (Tryz.fd8_1.name = "_") = False := eq_false (by decide +kernel)
noncomputable def Tryz.fd8_2 : Field := match Tryz.prog.underlying 8 with | some (.struct fs) => fs.getD 2 default | _ => default
theorem Tryz.fd8_2t : Tryz.fd8_2.type = 4 := by kernel_rfl
theorem Tryz.fd8_2o : Tryz.fd8_2.offset = 2 := by kernel_rfl
theorem Tryz.fd8_2n : (Tryz.fd8_2.name = "_") = False := eq_false (by decide +kernel)
noncomputable def Tryz.fd8_3 : Field := match Tryz.prog.underlying 8 with | some (.struct fs) => fs.getD 3 default | _ => default
theorem Tryz.fd8_3t : Tryz.fd8_3.type = 6 := by kernel_rfl
theorem Tryz.fd8_3o : Tryz.fd8_3.offset = 3 := by kernel_rfl
theorem Tryz.fd8_3n : (Tryz.fd8_3.name = "_") = False := eq_false (by decide +kernel)
theorem Tryz.y8 : tyOf Tryz.prog 8 = some ⟨.struct #[Tryz.fd8_0, Tryz.fd8_1, Tryz.fd8_2, Tryz.fd8_3], 4, 24, .agg #[.int .i64 0, .int .i64 0, .bool false, .int .u8 0], true⟩ := by kernel_rfl
noncomputable def Tryz.fd13_0 : Field := match Tryz.prog.underlying 13 with | some (.struct fs) => fs.getD 0 default | _ => default
theorem Tryz.fd13_0t : Tryz.fd13_0.type = 9 := by kernel_rfl
theorem Tryz.fd13_0o : Tryz.fd13_0.offset = 0 := by kernel_rfl
theorem Tryz.fd13_0n : (Tryz.fd13_0.name = "_") = False := eq_false (by decide +kernel)
noncomputable def Tryz.fd13_1 : Field := match Tryz.prog.underlying 13 with | some (.struct fs) => fs.getD 1 default | _ => default
theorem Tryz.fd13_1t : Tryz.fd13_1.type = 12 := by kernel_rfl
theorem Tryz.fd13_1o : Tryz.fd13_1.offset = 1 := by kernel_rfl
theorem Tryz.fd13_1n : (Tryz.fd13_1.name = "_") = False := eq_false (by decide +kernel)
theorem Tryz.y13 : tyOf Tryz.prog 13 = some ⟨.struct #[Tryz.fd13_0, Tryz.fd13_1], 2, 24, .agg #[.string ⟨#[]⟩, .int .u64 0], false⟩ := by kernel_rfl
noncomputable def Tryz.fd14_0 : Field := match Tryz.prog.underlying 14 with | some (.struct fs) => fs.getD 0 default | _ => default
theorem Tryz.fd14_0t : Tryz.fd14_0.type = 9 := by kernel_rfl
theorem Tryz.fd14_0o : Tryz.fd14_0.offset = 0 := by kernel_rfl
theorem Tryz.fd14_0n : (Tryz.fd14_0.name = "_") = False := eq_false (by decide +kernel)
noncomputable def Tryz.fd14_1 : Field := match Tryz.prog.underlying 14 with | some (.struct fs) => fs.getD 1 default | _ => default
theorem Tryz.fd14_1t : Tryz.fd14_1.type = 12 := by kernel_rfl
theorem Tryz.fd14_1o : Tryz.fd14_1.offset = 1 := by kernel_rfl
theorem Tryz.fd14_1n : (Tryz.fd14_1.name = "_") = False := eq_false (by decide +kernel)
theorem Tryz.y14 : tyOf Tryz.prog 14 = some ⟨.struct #[Tryz.fd14_0, Tryz.fd14_1], 2, 24, .agg #[.string ⟨#[]⟩, .int .u64 0], false⟩ := by kernel_rfl
noncomputable def Tryz.fd18_0 : Field := match Tryz.prog.underlying 18 with | some (.struct fs) => fs.getD 0 default | _ => default
theorem Tryz.fd18_0t : Tryz.fd18_0.type = 17 := by kernel_rfl
theorem Tryz.fd18_0o : Tryz.fd18_0.offset = 0 := by kernel_rfl
theorem Tryz.fd18_0n : (Tryz.fd18_0.name = "_") = False := eq_false (by decide +kernel)
theorem Tryz.y18 : tyOf Tryz.prog 18 = some ⟨.struct #[Tryz.fd18_0], 1, 8, .agg #[.pointer none], false⟩ := by kernel_rfl
noncomputable def Tryz.fd19_0 : Field := match Tryz.prog.underlying 19 with | some (.struct fs) => fs.getD 0 default | _ => default
theorem Tryz.fd19_0t : Tryz.fd19_0.type = 17 := by kernel_rfl
theorem Tryz.fd19_0o : Tryz.fd19_0.offset = 0 := by kernel_rfl
theorem Tryz.fd19_0n : (Tryz.fd19_0.name = "_") = False := eq_false (by decide +kernel)
theorem Tryz.y19 : tyOf Tryz.prog 19 = some ⟨.struct #[Tryz.fd19_0], 1, 8, .agg #[.pointer none], false⟩ := by kernel_rfl
noncomputable def Tryz.fd25_0 : Field := match Tryz.prog.underlying 25 with | some (.struct fs) => fs.getD 0 default | _ => default
theorem Tryz.fd25_0t : Tryz.fd25_0.type = 23 := by kernel_rfl
theorem Tryz.fd25_0o : Tryz.fd25_0.offset = 0 := by kernel_rfl
theorem Tryz.fd25_0n : (Tryz.fd25_0.name = "_") = False := eq_false (by decide +kernel)
noncomputable def Tryz.fd25_1 : Field := match Tryz.prog.underlying 25 with | some (.struct fs) => fs.getD 1 default | _ => default
theorem Tryz.fd25_1t : Tryz.fd25_1.type = 23 := by kernel_rfl
theorem Tryz.fd25_1o : Tryz.fd25_1.offset = 1 := by kernel_rfl
theorem Tryz.fd25_1n : (Tryz.fd25_1.name = "_") = False := eq_false (by decide +kernel)
theorem Tryz.y25 : tyOf Tryz.prog 25 = some ⟨.struct #[Tryz.fd25_0, Tryz.fd25_1], 2, 32, .agg #[.string ⟨#[]⟩, .string ⟨#[]⟩], true⟩ := by kernel_rfl
noncomputable def Tryz.fd26_0 : Field := match Tryz.prog.underlying 26 with | some (.struct fs) => fs.getD 0 default | _ => default
theorem Tryz.fd26_0t : Tryz.fd26_0.type = 23 := by kernel_rfl
theorem Tryz.fd26_0o : Tryz.fd26_0.offset = 0 := by kernel_rfl
theorem Tryz.fd26_0n : (Tryz.fd26_0.name = "_") = False := eq_false (by decide +kernel)
noncomputable def Tryz.fd26_1 : Field := match Tryz.prog.underlying 26 with | some (.struct fs) => fs.getD 1 default | _ => default
theorem Tryz.fd26_1t : Tryz.fd26_1.type = 23 := by kernel_rfl
theorem Tryz.fd26_1o : Tryz.fd26_1.offset = 1 := by kernel_rfl
theorem Tryz.fd26_1n : (Tryz.fd26_1.name = "_") = False := eq_false (by decide +kernel)
theorem Tryz.y26 : tyOf Tryz.prog 26 = some ⟨.struct #[Tryz.fd26_0, Tryz.fd26_1], 2, 32, .agg #[.string ⟨#[]⟩, .string ⟨#[]⟩], true⟩ := by kernel_rfl
theorem Tryz.y35 : tyOf Tryz.prog 35 = some ⟨.array 2 34, 2, 2, .agg #[.int .i8 0, .int .i8 0], true⟩ := by kernel_rfl
noncomputable def Tryz.fd36_0 : Field := match Tryz.prog.underlying 36 with | some (.struct fs) => fs.getD 0 default | _ => default
theorem Tryz.fd36_0t : Tryz.fd36_0.type = 5 := by kernel_rfl
theorem Tryz.fd36_0o : Tryz.fd36_0.offset = 0 := by kernel_rfl
theorem Tryz.fd36_0n : (Tryz.fd36_0.name = "_") = False := eq_false (by decide +kernel)
noncomputable def Tryz.fd36_1 : Field := match Tryz.prog.underlying 36 with | some (.struct fs) => fs.getD 1 default | _ => default
theorem Tryz.fd36_1t : Tryz.fd36_1.type = 35 := by kernel_rfl
theorem Tryz.fd36_1o : Tryz.fd36_1.offset = 1 := by kernel_rfl
theorem Tryz.fd36_1n : (Tryz.fd36_1.name = "_") = False := eq_false (by decide +kernel)
noncomputable def Tryz.fd36_2 : Field := match Tryz.prog.underlying 36 with | some (.struct fs) => fs.getD 2 default | _ => default
theorem Tryz.fd36_2t : Tryz.fd36_2.type = 4 := by kernel_rfl
theorem Tryz.fd36_2o : Tryz.fd36_2.offset = 3 := by kernel_rfl
theorem Tryz.fd36_2n : (Tryz.fd36_2.name = "_") = False := eq_false (by decide +kernel)
theorem Tryz.y36 : tyOf Tryz.prog 36 = some ⟨.struct #[Tryz.fd36_0, Tryz.fd36_1, Tryz.fd36_2], 4, 4, .agg #[.int .u8 0, .int .i8 0, .int .i8 0, .bool false], true⟩ := by kernel_rfl
noncomputable def Tryz.fd37_0 : Field := match Tryz.prog.underlying 37 with | some (.struct fs) => fs.getD 0 default | _ => default
theorem Tryz.fd37_0t : Tryz.fd37_0.type = 5 := by kernel_rfl
theorem Tryz.fd37_0o : Tryz.fd37_0.offset = 0 := by kernel_rfl
theorem Tryz.fd37_0n : (Tryz.fd37_0.name = "_") = False := eq_false (by decide +kernel)
noncomputable def Tryz.fd37_1 : Field := match Tryz.prog.underlying 37 with | some (.struct fs) => fs.getD 1 default | _ => default
theorem Tryz.fd37_1t : Tryz.fd37_1.type = 35 := by kernel_rfl
theorem Tryz.fd37_1o : Tryz.fd37_1.offset = 1 := by kernel_rfl
theorem Tryz.fd37_1n : (Tryz.fd37_1.name = "_") = False := eq_false (by decide +kernel)
noncomputable def Tryz.fd37_2 : Field := match Tryz.prog.underlying 37 with | some (.struct fs) => fs.getD 2 default | _ => default
theorem Tryz.fd37_2t : Tryz.fd37_2.type = 4 := by kernel_rfl
theorem Tryz.fd37_2o : Tryz.fd37_2.offset = 3 := by kernel_rfl
theorem Tryz.fd37_2n : (Tryz.fd37_2.name = "_") = False := eq_false (by decide +kernel)
theorem Tryz.y37 : tyOf Tryz.prog 37 = some ⟨.struct #[Tryz.fd37_0, Tryz.fd37_1, Tryz.fd37_2], 4, 4, .agg #[.int .u8 0, .int .i8 0, .int .i8 0, .bool false], true⟩ := by kernel_rfl
theorem Tryz.y38 : tyOf Tryz.prog 38 = some ⟨.array 6 34, 6, 6, .agg #[.int .i8 0, .int .i8 0, .int .i8 0, .int .i8 0, .int .i8 0, .int .i8 0], true⟩ := by kernel_rfl
noncomputable def Tryz.fd39_0 : Field := match Tryz.prog.underlying 39 with | some (.struct fs) => fs.getD 0 default | _ => default
theorem Tryz.fd39_0t : Tryz.fd39_0.type = 38 := by kernel_rfl
theorem Tryz.fd39_0o : Tryz.fd39_0.offset = 0 := by kernel_rfl
theorem Tryz.fd39_0n : (Tryz.fd39_0.name = "_") = False := eq_false (by decide +kernel)
noncomputable def Tryz.fd39_1 : Field := match Tryz.prog.underlying 39 with | some (.struct fs) => fs.getD 1 default | _ => default
theorem Tryz.fd39_1t : Tryz.fd39_1.type = 4 := by kernel_rfl
theorem Tryz.fd39_1o : Tryz.fd39_1.offset = 6 := by kernel_rfl
theorem Tryz.fd39_1n : (Tryz.fd39_1.name = "_") = False := eq_false (by decide +kernel)
theorem Tryz.y39 : tyOf Tryz.prog 39 = some ⟨.struct #[Tryz.fd39_0, Tryz.fd39_1], 7, 7, .agg #[.int .i8 0, .int .i8 0, .int .i8 0, .int .i8 0, .int .i8 0, .int .i8 0, .bool false], true⟩ := by kernel_rfl
noncomputable def Tryz.fd40_0 : Field := match Tryz.prog.underlying 40 with | some (.struct fs) => fs.getD 0 default | _ => default
theorem Tryz.fd40_0t : Tryz.fd40_0.type = 38 := by kernel_rfl
theorem Tryz.fd40_0o : Tryz.fd40_0.offset = 0 := by kernel_rfl
theorem Tryz.fd40_0n : (Tryz.fd40_0.name = "_") = False := eq_false (by decide +kernel)
noncomputable def Tryz.fd40_1 : Field := match Tryz.prog.underlying 40 with | some (.struct fs) => fs.getD 1 default | _ => default
theorem Tryz.fd40_1t : Tryz.fd40_1.type = 4 := by kernel_rfl
theorem Tryz.fd40_1o : Tryz.fd40_1.offset = 6 := by kernel_rfl
theorem Tryz.fd40_1n : (Tryz.fd40_1.name = "_") = False := eq_false (by decide +kernel)
theorem Tryz.y40 : tyOf Tryz.prog 40 = some ⟨.struct #[Tryz.fd40_0, Tryz.fd40_1], 7, 7, .agg #[.int .i8 0, .int .i8 0, .int .i8 0, .int .i8 0, .int .i8 0, .int .i8 0, .bool false], true⟩ := by kernel_rfl
theorem Tryz.y41 : tyOf Tryz.prog 41 = some ⟨.array 2 40, 14, 14, .agg #[.int .i8 0, .int .i8 0, .int .i8 0, .int .i8 0, .int .i8 0, .int .i8 0, .bool false, .int .i8 0, .int .i8 0, .int .i8 0, .int .i8 0, .int .i8 0, .int .i8 0, .bool false], true⟩ := by kernel_rfl
theorem Tryz.y42 : tyOf Tryz.prog 42 = some ⟨.array 8 34, 8, 8, .agg #[.int .i8 0, .int .i8 0, .int .i8 0, .int .i8 0, .int .i8 0, .int .i8 0, .int .i8 0, .int .i8 0], true⟩ := by kernel_rfl
theorem Tryz.y43 : tyOf Tryz.prog 43 = some ⟨.array 4 34, 4, 4, .agg #[.int .i8 0, .int .i8 0, .int .i8 0, .int .i8 0], true⟩ := by kernel_rfl
theorem Tryz.y44 : tyOf Tryz.prog 44 = some ⟨.array 4 34, 4, 4, .agg #[.int .i8 0, .int .i8 0, .int .i8 0, .int .i8 0], true⟩ := by kernel_rfl
noncomputable def Tryz.fd45_0 : Field := match Tryz.prog.underlying 45 with | some (.struct fs) => fs.getD 0 default | _ => default
theorem Tryz.fd45_0t : Tryz.fd45_0.type = 5 := by kernel_rfl
theorem Tryz.fd45_0o : Tryz.fd45_0.offset = 0 := by kernel_rfl
theorem Tryz.fd45_0n : (Tryz.fd45_0.name = "_") = False := eq_false (by decide +kernel)
noncomputable def Tryz.fd45_1 : Field := match Tryz.prog.underlying 45 with | some (.struct fs) => fs.getD 1 default | _ => default
theorem Tryz.fd45_1t : Tryz.fd45_1.type = 40 := by kernel_rfl
theorem Tryz.fd45_1o : Tryz.fd45_1.offset = 1 := by kernel_rfl
theorem Tryz.fd45_1n : (Tryz.fd45_1.name = "_") = False := eq_false (by decide +kernel)
noncomputable def Tryz.fd45_2 : Field := match Tryz.prog.underlying 45 with | some (.struct fs) => fs.getD 2 default | _ => default
theorem Tryz.fd45_2t : Tryz.fd45_2.type = 41 := by kernel_rfl
theorem Tryz.fd45_2o : Tryz.fd45_2.offset = 8 := by kernel_rfl
theorem Tryz.fd45_2n : (Tryz.fd45_2.name = "_") = False := eq_false (by decide +kernel)
noncomputable def Tryz.fd45_3 : Field := match Tryz.prog.underlying 45 with | some (.struct fs) => fs.getD 3 default | _ => default
theorem Tryz.fd45_3t : Tryz.fd45_3.type = 42 := by kernel_rfl
theorem Tryz.fd45_3o : Tryz.fd45_3.offset = 22 := by kernel_rfl
theorem Tryz.fd45_3n : (Tryz.fd45_3.name = "_") = False := eq_false (by decide +kernel)
noncomputable def Tryz.fd45_4 : Field := match Tryz.prog.underlying 45 with | some (.struct fs) => fs.getD 4 default | _ => default
theorem Tryz.fd45_4t : Tryz.fd45_4.type = 44 := by kernel_rfl
theorem Tryz.fd45_4o : Tryz.fd45_4.offset = 30 := by kernel_rfl
theorem Tryz.fd45_4n : (Tryz.fd45_4.name = "_") = False := eq_false (by decide +kernel)
theorem Tryz.y45 : tyOf Tryz.prog 45 = some ⟨.struct #[Tryz.fd45_0, Tryz.fd45_1, Tryz.fd45_2, Tryz.fd45_3, Tryz.fd45_4], 34, 34, .agg #[.int .u8 0, .int .i8 0, .int .i8 0, .int .i8 0, .int .i8 0, .int .i8 0, .int .i8 0, .bool false, .int .i8 0, .int .i8 0, .int .i8 0, .int .i8 0, .int .i8 0, .int .i8 0, .bool false, .int .i8 0, .int .i8 0, .int .i8 0, .int .i8 0, .int .i8 0, .int .i8 0, .bool false, .int .i8 0, .int .i8 0, .int .i8 0, .int .i8 0, .int .i8 0, .int .i8 0, .int .i8 0, .int .i8 0, .int .i8 0, .int .i8 0, .int .i8 0, .int .i8 0], true⟩ := by kernel_rfl
noncomputable def Tryz.fd46_0 : Field := match Tryz.prog.underlying 46 with | some (.struct fs) => fs.getD 0 default | _ => default
theorem Tryz.fd46_0t : Tryz.fd46_0.type = 5 := by kernel_rfl
theorem Tryz.fd46_0o : Tryz.fd46_0.offset = 0 := by kernel_rfl
theorem Tryz.fd46_0n : (Tryz.fd46_0.name = "_") = False := eq_false (by decide +kernel)
noncomputable def Tryz.fd46_1 : Field := match Tryz.prog.underlying 46 with | some (.struct fs) => fs.getD 1 default | _ => default
theorem Tryz.fd46_1t : Tryz.fd46_1.type = 40 := by kernel_rfl
theorem Tryz.fd46_1o : Tryz.fd46_1.offset = 1 := by kernel_rfl
theorem Tryz.fd46_1n : (Tryz.fd46_1.name = "_") = False := eq_false (by decide +kernel)
noncomputable def Tryz.fd46_2 : Field := match Tryz.prog.underlying 46 with | some (.struct fs) => fs.getD 2 default | _ => default
theorem Tryz.fd46_2t : Tryz.fd46_2.type = 41 := by kernel_rfl
theorem Tryz.fd46_2o : Tryz.fd46_2.offset = 8 := by kernel_rfl
theorem Tryz.fd46_2n : (Tryz.fd46_2.name = "_") = False := eq_false (by decide +kernel)
noncomputable def Tryz.fd46_3 : Field := match Tryz.prog.underlying 46 with | some (.struct fs) => fs.getD 3 default | _ => default
theorem Tryz.fd46_3t : Tryz.fd46_3.type = 42 := by kernel_rfl
theorem Tryz.fd46_3o : Tryz.fd46_3.offset = 22 := by kernel_rfl
theorem Tryz.fd46_3n : (Tryz.fd46_3.name = "_") = False := eq_false (by decide +kernel)
noncomputable def Tryz.fd46_4 : Field := match Tryz.prog.underlying 46 with | some (.struct fs) => fs.getD 4 default | _ => default
theorem Tryz.fd46_4t : Tryz.fd46_4.type = 44 := by kernel_rfl
theorem Tryz.fd46_4o : Tryz.fd46_4.offset = 30 := by kernel_rfl
theorem Tryz.fd46_4n : (Tryz.fd46_4.name = "_") = False := eq_false (by decide +kernel)
theorem Tryz.y46 : tyOf Tryz.prog 46 = some ⟨.struct #[Tryz.fd46_0, Tryz.fd46_1, Tryz.fd46_2, Tryz.fd46_3, Tryz.fd46_4], 34, 34, .agg #[.int .u8 0, .int .i8 0, .int .i8 0, .int .i8 0, .int .i8 0, .int .i8 0, .int .i8 0, .bool false, .int .i8 0, .int .i8 0, .int .i8 0, .int .i8 0, .int .i8 0, .int .i8 0, .bool false, .int .i8 0, .int .i8 0, .int .i8 0, .int .i8 0, .int .i8 0, .int .i8 0, .bool false, .int .i8 0, .int .i8 0, .int .i8 0, .int .i8 0, .int .i8 0, .int .i8 0, .int .i8 0, .int .i8 0, .int .i8 0, .int .i8 0, .int .i8 0, .int .i8 0], true⟩ := by kernel_rfl
noncomputable def Tryz.fd48_0 : Field := match Tryz.prog.underlying 48 with | some (.struct fs) => fs.getD 0 default | _ => default
theorem Tryz.fd48_0t : Tryz.fd48_0.type = 47 := by kernel_rfl
theorem Tryz.fd48_0o : Tryz.fd48_0.offset = 0 := by kernel_rfl
theorem Tryz.fd48_0n : (Tryz.fd48_0.name = "_") = False := eq_false (by decide +kernel)
noncomputable def Tryz.fd48_1 : Field := match Tryz.prog.underlying 48 with | some (.struct fs) => fs.getD 1 default | _ => default
theorem Tryz.fd48_1t : Tryz.fd48_1.type = 5 := by kernel_rfl
theorem Tryz.fd48_1o : Tryz.fd48_1.offset = 1 := by kernel_rfl
theorem Tryz.fd48_1n : (Tryz.fd48_1.name = "_") = False := eq_false (by decide +kernel)
theorem Tryz.y48 : tyOf Tryz.prog 48 = some ⟨.struct #[Tryz.fd48_0, Tryz.fd48_1], 2, 4, .agg #[.int .i16 0, .int .u8 0], true⟩ := by kernel_rfl
noncomputable def Tryz.fd49_0 : Field := match Tryz.prog.underlying 49 with | some (.struct fs) => fs.getD 0 default | _ => default
theorem Tryz.fd49_0t : Tryz.fd49_0.type = 47 := by kernel_rfl
theorem Tryz.fd49_0o : Tryz.fd49_0.offset = 0 := by kernel_rfl
theorem Tryz.fd49_0n : (Tryz.fd49_0.name = "_") = False := eq_false (by decide +kernel)
noncomputable def Tryz.fd49_1 : Field := match Tryz.prog.underlying 49 with | some (.struct fs) => fs.getD 1 default | _ => default
theorem Tryz.fd49_1t : Tryz.fd49_1.type = 5 := by kernel_rfl
theorem Tryz.fd49_1o : Tryz.fd49_1.offset = 1 := by kernel_rfl
theorem Tryz.fd49_1n : (Tryz.fd49_1.name = "_") = False := eq_false (by decide +kernel)
theorem Tryz.y49 : tyOf Tryz.prog 49 = some ⟨.struct #[Tryz.fd49_0, Tryz.fd49_1], 2, 4, .agg #[.int .i16 0, .int .u8 0], true⟩ := by kernel_rfl
theorem Tryz.y50 : tyOf Tryz.prog 50 = some ⟨.array 3 49, 6, 12, .agg #[.int .i16 0, .int .u8 0, .int .i16 0, .int .u8 0, .int .i16 0, .int .u8 0], true⟩ := by kernel_rfl
theorem Tryz.y51 : tyOf Tryz.prog 51 = some ⟨.array 3 49, 6, 12, .agg #[.int .i16 0, .int .u8 0, .int .i16 0, .int .u8 0, .int .i16 0, .int .u8 0], true⟩ := by kernel_rfl
noncomputable def Tryz.fd54_0 : Field := match Tryz.prog.underlying 54 with | some (.struct fs) => fs.getD 0 default | _ => default
theorem Tryz.fd54_0t : Tryz.fd54_0.type = 52 := by kernel_rfl
theorem Tryz.fd54_0o : Tryz.fd54_0.offset = 0 := by kernel_rfl
theorem Tryz.fd54_0n : (Tryz.fd54_0.name = "_") = False := eq_false (by decide +kernel)
noncomputable def Tryz.fd54_1 : Field := match Tryz.prog.underlying 54 with | some (.struct fs) => fs.getD 1 default | _ => default
theorem Tryz.fd54_1t : Tryz.fd54_1.type = 53 := by kernel_rfl
theorem Tryz.fd54_1o : Tryz.fd54_1.offset = 1 := by kernel_rfl
theorem Tryz.fd54_1n : (Tryz.fd54_1.name = "_") = False := eq_false (by decide +kernel)
theorem Tryz.y54 : tyOf Tryz.prog 54 = some ⟨.struct #[Tryz.fd54_0, Tryz.fd54_1], 2, 48, .agg #[.slice none 0 0, .slice none 0 0], true⟩ := by kernel_rfl
noncomputable def Tryz.fd55_0 : Field := match Tryz.prog.underlying 55 with | some (.struct fs) => fs.getD 0 default | _ => default
theorem Tryz.fd55_0t : Tryz.fd55_0.type = 52 := by kernel_rfl
theorem Tryz.fd55_0o : Tryz.fd55_0.offset = 0 := by kernel_rfl
theorem Tryz.fd55_0n : (Tryz.fd55_0.name = "_") = False := eq_false (by decide +kernel)
noncomputable def Tryz.fd55_1 : Field := match Tryz.prog.underlying 55 with | some (.struct fs) => fs.getD 1 default | _ => default
theorem Tryz.fd55_1t : Tryz.fd55_1.type = 53 := by kernel_rfl
theorem Tryz.fd55_1o : Tryz.fd55_1.offset = 1 := by kernel_rfl
theorem Tryz.fd55_1n : (Tryz.fd55_1.name = "_") = False := eq_false (by decide +kernel)
theorem Tryz.y55 : tyOf Tryz.prog 55 = some ⟨.struct #[Tryz.fd55_0, Tryz.fd55_1], 2, 48, .agg #[.slice none 0 0, .slice none 0 0], true⟩ := by kernel_rfl
noncomputable def Tryz.fd61_0 : Field := match Tryz.prog.underlying 61 with | some (.struct fs) => fs.getD 0 default | _ => default
theorem Tryz.fd61_0t : Tryz.fd61_0.type = 58 := by kernel_rfl
theorem Tryz.fd61_0o : Tryz.fd61_0.offset = 0 := by kernel_rfl
theorem Tryz.fd61_0n : (Tryz.fd61_0.name = "_") = False := eq_false (by decide +kernel)
noncomputable def Tryz.fd61_1 : Field := match Tryz.prog.underlying 61 with | some (.struct fs) => fs.getD 1 default | _ => default
theorem Tryz.fd61_1t : Tryz.fd61_1.type = 59 := by kernel_rfl
theorem Tryz.fd61_1o : Tryz.fd61_1.offset = 1 := by kernel_rfl
theorem Tryz.fd61_1n : (Tryz.fd61_1.name = "_") = False := eq_false (by decide +kernel)
noncomputable def Tryz.fd61_2 : Field := match Tryz.prog.underlying 61 with | some (.struct fs) => fs.getD 2 default | _ => default
theorem Tryz.fd61_2t : Tryz.fd61_2.type = 60 := by kernel_rfl
theorem Tryz.fd61_2o : Tryz.fd61_2.offset = 2 := by kernel_rfl
theorem Tryz.fd61_2n : (Tryz.fd61_2.name = "_") = False := eq_false (by decide +kernel)
theorem Tryz.y61 : tyOf Tryz.prog 61 = some ⟨.struct #[Tryz.fd61_0, Tryz.fd61_1, Tryz.fd61_2], 3, 72, .agg #[.slice none 0 0, .slice none 0 0, .slice none 0 0], true⟩ := by kernel_rfl
noncomputable def Tryz.fd62_0 : Field := match Tryz.prog.underlying 62 with | some (.struct fs) => fs.getD 0 default | _ => default
theorem Tryz.fd62_0t : Tryz.fd62_0.type = 58 := by kernel_rfl
theorem Tryz.fd62_0o : Tryz.fd62_0.offset = 0 := by kernel_rfl
theorem Tryz.fd62_0n : (Tryz.fd62_0.name = "_") = False := eq_false (by decide +kernel)
noncomputable def Tryz.fd62_1 : Field := match Tryz.prog.underlying 62 with | some (.struct fs) => fs.getD 1 default | _ => default
theorem Tryz.fd62_1t : Tryz.fd62_1.type = 59 := by kernel_rfl
theorem Tryz.fd62_1o : Tryz.fd62_1.offset = 1 := by kernel_rfl
theorem Tryz.fd62_1n : (Tryz.fd62_1.name = "_") = False := eq_false (by decide +kernel)
noncomputable def Tryz.fd62_2 : Field := match Tryz.prog.underlying 62 with | some (.struct fs) => fs.getD 2 default | _ => default
theorem Tryz.fd62_2t : Tryz.fd62_2.type = 60 := by kernel_rfl
theorem Tryz.fd62_2o : Tryz.fd62_2.offset = 2 := by kernel_rfl
theorem Tryz.fd62_2n : (Tryz.fd62_2.name = "_") = False := eq_false (by decide +kernel)
theorem Tryz.y62 : tyOf Tryz.prog 62 = some ⟨.struct #[Tryz.fd62_0, Tryz.fd62_1, Tryz.fd62_2], 3, 72, .agg #[.slice none 0 0, .slice none 0 0, .slice none 0 0], true⟩ := by kernel_rfl
noncomputable def Tryz.fd63_0 : Field := match Tryz.prog.underlying 63 with | some (.struct fs) => fs.getD 0 default | _ => default
theorem Tryz.fd63_0t : Tryz.fd63_0.type = 23 := by kernel_rfl
theorem Tryz.fd63_0o : Tryz.fd63_0.offset = 0 := by kernel_rfl
theorem Tryz.fd63_0n : (Tryz.fd63_0.name = "_") = False := eq_false (by decide +kernel)
noncomputable def Tryz.fd63_1 : Field := match Tryz.prog.underlying 63 with | some (.struct fs) => fs.getD 1 default | _ => default
theorem Tryz.fd63_1t : Tryz.fd63_1.type = 23 := by kernel_rfl
theorem Tryz.fd63_1o : Tryz.fd63_1.offset = 1 := by kernel_rfl
theorem Tryz.fd63_1n : (Tryz.fd63_1.name = "_") = False := eq_false (by decide +kernel)
noncomputable def Tryz.fd63_2 : Field := match Tryz.prog.underlying 63 with | some (.struct fs) => fs.getD 2 default | _ => default
theorem Tryz.fd63_2t : Tryz.fd63_2.type = 23 := by kernel_rfl
theorem Tryz.fd63_2o : Tryz.fd63_2.offset = 2 := by kernel_rfl
theorem Tryz.fd63_2n : (Tryz.fd63_2.name = "_") = False := eq_false (by decide +kernel)
theorem Tryz.y63 : tyOf Tryz.prog 63 = some ⟨.struct #[Tryz.fd63_0, Tryz.fd63_1, Tryz.fd63_2], 3, 48, .agg #[.string ⟨#[]⟩, .string ⟨#[]⟩, .string ⟨#[]⟩], true⟩ := by kernel_rfl
noncomputable def Tryz.fd64_0 : Field := match Tryz.prog.underlying 64 with | some (.struct fs) => fs.getD 0 default | _ => default
theorem Tryz.fd64_0t : Tryz.fd64_0.type = 23 := by kernel_rfl
theorem Tryz.fd64_0o : Tryz.fd64_0.offset = 0 := by kernel_rfl
theorem Tryz.fd64_0n : (Tryz.fd64_0.name = "_") = False := eq_false (by decide +kernel)
noncomputable def Tryz.fd64_1 : Field := match Tryz.prog.underlying 64 with | some (.struct fs) => fs.getD 1 default | _ => default
theorem Tryz.fd64_1t : Tryz.fd64_1.type = 23 := by kernel_rfl
theorem Tryz.fd64_1o : Tryz.fd64_1.offset = 1 := by kernel_rfl
theorem Tryz.fd64_1n : (Tryz.fd64_1.name = "_") = False := eq_false (by decide +kernel)
noncomputable def Tryz.fd64_2 : Field := match Tryz.prog.underlying 64 with | some (.struct fs) => fs.getD 2 default | _ => default
theorem Tryz.fd64_2t : Tryz.fd64_2.type = 23 := by kernel_rfl
theorem Tryz.fd64_2o : Tryz.fd64_2.offset = 2 := by kernel_rfl
theorem Tryz.fd64_2n : (Tryz.fd64_2.name = "_") = False := eq_false (by decide +kernel)
theorem Tryz.y64 : tyOf Tryz.prog 64 = some ⟨.struct #[Tryz.fd64_0, Tryz.fd64_1, Tryz.fd64_2], 3, 48, .agg #[.string ⟨#[]⟩, .string ⟨#[]⟩, .string ⟨#[]⟩], true⟩ := by kernel_rfl
noncomputable def Tryz.fd65_0 : Field := match Tryz.prog.underlying 65 with | some (.struct fs) => fs.getD 0 default | _ => default
theorem Tryz.fd65_0t : Tryz.fd65_0.type = 64 := by kernel_rfl
theorem Tryz.fd65_0o : Tryz.fd65_0.offset = 0 := by kernel_rfl
theorem Tryz.fd65_0n : (Tryz.fd65_0.name = "_") = False := eq_false (by decide +kernel)
noncomputable def Tryz.fd65_1 : Field := match Tryz.prog.underlying 65 with | some (.struct fs) => fs.getD 1 default | _ => default
theorem Tryz.fd65_1t : Tryz.fd65_1.type = 23 := by kernel_rfl
theorem Tryz.fd65_1o : Tryz.fd65_1.offset = 3 := by kernel_rfl
theorem Tryz.fd65_1n : (Tryz.fd65_1.name = "_") = False := eq_false (by decide +kernel)
theorem Tryz.y65 : tyOf Tryz.prog 65 = some ⟨.struct #[Tryz.fd65_0, Tryz.fd65_1], 4, 64, .agg #[.string ⟨#[]⟩, .string ⟨#[]⟩, .string ⟨#[]⟩, .string ⟨#[]⟩], true⟩ := by kernel_rfl
noncomputable def Tryz.fd66_0 : Field := match Tryz.prog.underlying 66 with | some (.struct fs) => fs.getD 0 default | _ => default
theorem Tryz.fd66_0t : Tryz.fd66_0.type = 64 := by kernel_rfl
theorem Tryz.fd66_0o : Tryz.fd66_0.offset = 0 := by kernel_rfl
theorem Tryz.fd66_0n : (Tryz.fd66_0.name = "_") = False := eq_false (by decide +kernel)
noncomputable def Tryz.fd66_1 : Field := match Tryz.prog.underlying 66 with | some (.struct fs) => fs.getD 1 default | _ => default
theorem Tryz.fd66_1t : Tryz.fd66_1.type = 23 := by kernel_rfl
theorem Tryz.fd66_1o : Tryz.fd66_1.offset = 3 := by kernel_rfl
theorem Tryz.fd66_1n : (Tryz.fd66_1.name = "_") = False := eq_false (by decide +kernel)
theorem Tryz.y66 : tyOf Tryz.prog 66 = some ⟨.struct #[Tryz.fd66_0, Tryz.fd66_1], 4, 64, .agg #[.string ⟨#[]⟩, .string ⟨#[]⟩, .string ⟨#[]⟩, .string ⟨#[]⟩], true⟩ := by kernel_rfl
noncomputable def Tryz.fd67_0 : Field := match Tryz.prog.underlying 67 with | some (.struct fs) => fs.getD 0 default | _ => default
theorem Tryz.fd67_0t : Tryz.fd67_0.type = 66 := by kernel_rfl
theorem Tryz.fd67_0o : Tryz.fd67_0.offset = 0 := by kernel_rfl
theorem Tryz.fd67_0n : (Tryz.fd67_0.name = "_") = False := eq_false (by decide +kernel)
noncomputable def Tryz.fd67_1 : Field := match Tryz.prog.underlying 67 with | some (.struct fs) => fs.getD 1 default | _ => default
theorem Tryz.fd67_1t : Tryz.fd67_1.type = 64 := by kernel_rfl
theorem Tryz.fd67_1o : Tryz.fd67_1.offset = 4 := by kernel_rfl
theorem Tryz.fd67_1n : (Tryz.fd67_1.name = "_") = False := eq_false (by decide +kernel)
theorem Tryz.y67 : tyOf Tryz.prog 67 = some ⟨.struct #[Tryz.fd67_0, Tryz.fd67_1], 7, 112, .agg #[.string ⟨#[]⟩, .string ⟨#[]⟩, .string ⟨#[]⟩, .string ⟨#[]⟩, .string ⟨#[]⟩, .string ⟨#[]⟩, .string ⟨#[]⟩], true⟩ := by kernel_rfl
noncomputable def Tryz.fd68_0 : Field := match Tryz.prog.underlying 68 with | some (.struct fs) => fs.getD 0 default | _ => default
theorem Tryz.fd68_0t : Tryz.fd68_0.type = 66 := by kernel_rfl
theorem Tryz.fd68_0o : Tryz.fd68_0.offset = 0 := by kernel_rfl
theorem Tryz.fd68_0n : (Tryz.fd68_0.name = "_") = False := eq_false (by decide +kernel)
noncomputable def Tryz.fd68_1 : Field := match Tryz.prog.underlying 68 with | some (.struct fs) => fs.getD 1 default | _ => default
theorem Tryz.fd68_1t : Tryz.fd68_1.type = 64 := by kernel_rfl
theorem Tryz.fd68_1o : Tryz.fd68_1.offset = 4 := by kernel_rfl
theorem Tryz.fd68_1n : (Tryz.fd68_1.name = "_") = False := eq_false (by decide +kernel)
theorem Tryz.y68 : tyOf Tryz.prog 68 = some ⟨.struct #[Tryz.fd68_0, Tryz.fd68_1], 7, 112, .agg #[.string ⟨#[]⟩, .string ⟨#[]⟩, .string ⟨#[]⟩, .string ⟨#[]⟩, .string ⟨#[]⟩, .string ⟨#[]⟩, .string ⟨#[]⟩], true⟩ := by kernel_rfl
noncomputable def Tryz.fd69_0 : Field := match Tryz.prog.underlying 69 with | some (.struct fs) => fs.getD 0 default | _ => default
theorem Tryz.fd69_0t : Tryz.fd69_0.type = 64 := by kernel_rfl
theorem Tryz.fd69_0o : Tryz.fd69_0.offset = 0 := by kernel_rfl
theorem Tryz.fd69_0n : (Tryz.fd69_0.name = "_") = False := eq_false (by decide +kernel)
noncomputable def Tryz.fd69_1 : Field := match Tryz.prog.underlying 69 with | some (.struct fs) => fs.getD 1 default | _ => default
theorem Tryz.fd69_1t : Tryz.fd69_1.type = 22 := by kernel_rfl
theorem Tryz.fd69_1o : Tryz.fd69_1.offset = 3 := by kernel_rfl
theorem Tryz.fd69_1n : (Tryz.fd69_1.name = "_") = False := eq_false (by decide +kernel)
noncomputable def Tryz.fd69_2 : Field := match Tryz.prog.underlying 69 with | some (.struct fs) => fs.getD 2 default | _ => default
theorem Tryz.fd69_2t : Tryz.fd69_2.type = 64 := by kernel_rfl
theorem Tryz.fd69_2o : Tryz.fd69_2.offset = 4 := by kernel_rfl
theorem Tryz.fd69_2n : (Tryz.fd69_2.name = "_") = False := eq_false (by decide +kernel)
theorem Tryz.y69 : tyOf Tryz.prog 69 = some ⟨.struct #[Tryz.fd69_0, Tryz.fd69_1, Tryz.fd69_2], 7, 120, .agg #[.string ⟨#[]⟩, .string ⟨#[]⟩, .string ⟨#[]⟩, .slice none 0 0, .string ⟨#[]⟩, .string ⟨#[]⟩, .string ⟨#[]⟩], true⟩ := by kernel_rfl
noncomputable def Tryz.fd70_0 : Field := match Tryz.prog.underlying 70 with | some (.struct fs) => fs.getD 0 default | _ => default
theorem Tryz.fd70_0t : Tryz.fd70_0.type = 64 := by kernel_rfl
theorem Tryz.fd70_0o : Tryz.fd70_0.offset = 0 := by kernel_rfl
theorem Tryz.fd70_0n : (Tryz.fd70_0.name = "_") = False := eq_false (by decide +kernel)
noncomputable def Tryz.fd70_1 : Field := match Tryz.prog.underlying 70 with | some (.struct fs) => fs.getD 1 default | _ => default
theorem Tryz.fd70_1t : Tryz.fd70_1.type = 22 := by kernel_rfl
theorem Tryz.fd70_1o : Tryz.fd70_1.offset = 3 := by kernel_rfl
theorem Tryz.fd70_1n : (Tryz.fd70_1.name = "_") = False := eq_false (by decide +kernel)
noncomputable def Tryz.fd70_2 : Field := match Tryz.prog.underlying 70 with | some (.struct fs) => fs.getD 2 default | _ => default
theorem Tryz.fd70_2t : Tryz.fd70_2.type = 64 := by kernel_rfl
theorem Tryz.fd70_2o : Tryz.fd70_2.offset = 4 := by kernel_rfl
theorem Tryz.fd70_2n : (Tryz.fd70_2.name = "_") = False := eq_false (by decide +kernel)
theorem Tryz.y70 : tyOf Tryz.prog 70 = some ⟨.struct #[Tryz.fd70_0, Tryz.fd70_1, Tryz.fd70_2], 7, 120, .agg #[.string ⟨#[]⟩, .string ⟨#[]⟩, .string ⟨#[]⟩, .slice none 0 0, .string ⟨#[]⟩, .string ⟨#[]⟩, .string ⟨#[]⟩], true⟩ := by kernel_rfl
noncomputable def Tryz.fd71_0 : Field := match Tryz.prog.underlying 71 with | some (.struct fs) => fs.getD 0 default | _ => default
theorem Tryz.fd71_0t : Tryz.fd71_0.type = 66 := by kernel_rfl
theorem Tryz.fd71_0o : Tryz.fd71_0.offset = 0 := by kernel_rfl
theorem Tryz.fd71_0n : (Tryz.fd71_0.name = "_") = False := eq_false (by decide +kernel)
noncomputable def Tryz.fd71_1 : Field := match Tryz.prog.underlying 71 with | some (.struct fs) => fs.getD 1 default | _ => default
theorem Tryz.fd71_1t : Tryz.fd71_1.type = 23 := by kernel_rfl
theorem Tryz.fd71_1o : Tryz.fd71_1.offset = 4 := by kernel_rfl
theorem Tryz.fd71_1n : (Tryz.fd71_1.name = "_") = False := eq_false (by decide +kernel)
noncomputable def Tryz.fd71_2 : Field := match Tryz.prog.underlying 71 with | some (.struct fs) => fs.getD 2 default | _ => default
theorem Tryz.fd71_2t : Tryz.fd71_2.type = 9 := by kernel_rfl
theorem Tryz.fd71_2o : Tryz.fd71_2.offset = 5 := by kernel_rfl
theorem Tryz.fd71_2n : (Tryz.fd71_2.name = "_") = False := eq_false (by decide +kernel)
theorem Tryz.y71 : tyOf Tryz.prog 71 = some ⟨.struct #[Tryz.fd71_0, Tryz.fd71_1, Tryz.fd71_2], 6, 96, .agg #[.string ⟨#[]⟩, .string ⟨#[]⟩, .string ⟨#[]⟩, .string ⟨#[]⟩, .string ⟨#[]⟩, .string ⟨#[]⟩], true⟩ := by kernel_rfl
noncomputable def Tryz.fd72_0 : Field := match Tryz.prog.underlying 72 with | some (.struct fs) => fs.getD 0 default | _ => default
theorem Tryz.fd72_0t : Tryz.fd72_0.type = 66 := by kernel_rfl
theorem Tryz.fd72_0o : Tryz.fd72_0.offset = 0 := by kernel_rfl
theorem Tryz.fd72_0n : (Tryz.fd72_0.name = "_") = False := eq_false (by decide +kernel)
noncomputable def Tryz.fd72_1 : Field := match Tryz.prog.underlying 72 with | some (.struct fs) => fs.getD 1 default | _ => default
theorem Tryz.fd72_1t : Tryz.fd72_1.type = 23 := by kernel_rfl
theorem Tryz.fd72_1o : Tryz.fd72_1.offset = 4 := by kernel_rfl
theorem Tryz.fd72_1n : (Tryz.fd72_1.name = "_") = False := eq_false (by decide +kernel)
noncomputable def Tryz.fd72_2 : Field := match Tryz.prog.underlying 72 with | some (.struct fs) => fs.getD 2 default | _ => default
theorem Tryz.fd72_2t : Tryz.fd72_2.type = 9 := by kernel_rfl
theorem Tryz.fd72_2o : Tryz.fd72_2.offset = 5 := by kernel_rfl
theorem Tryz.fd72_2n : (Tryz.fd72_2.name = "_") = False := eq_false (by decide +kernel)
theorem Tryz.y72 : tyOf Tryz.prog 72 = some ⟨.struct #[Tryz.fd72_0, Tryz.fd72_1, Tryz.fd72_2], 6, 96, .agg #[.string ⟨#[]⟩, .string ⟨#[]⟩, .string ⟨#[]⟩, .string ⟨#[]⟩, .string ⟨#[]⟩, .string ⟨#[]⟩], true⟩ := by kernel_rfl
theorem Tryz.y73 : tyOf Tryz.prog 73 = some ⟨.array 4 3, 4, 32, .agg #[.int .i64 0, .int .i64 0, .int .i64 0, .int .i64 0], true⟩ := by kernel_rfl
noncomputable def Tryz.fd74_0 : Field := match Tryz.prog.underlying 74 with | some (.struct fs) => fs.getD 0 default | _ => default
theorem Tryz.fd74_0t : Tryz.fd74_0.type = 73 := by kernel_rfl
theorem Tryz.fd74_0o : Tryz.fd74_0.offset = 0 := by kernel_rfl
theorem Tryz.fd74_0n : (Tryz.fd74_0.name = "_") = False := eq_false (by decide +kernel)
noncomputable def Tryz.fd74_1 : Field := match Tryz.prog.underlying 74 with | some (.struct fs) => fs.getD 1 default | _ => default
theorem Tryz.fd74_1t : Tryz.fd74_1.type = 64 := by kernel_rfl
theorem Tryz.fd74_1o : Tryz.fd74_1.offset = 4 := by kernel_rfl
theorem Tryz.fd74_1n : (Tryz.fd74_1.name = "_") = False := eq_false (by decide +kernel)
theorem Tryz.y74 : tyOf Tryz.prog 74 = some ⟨.struct #[Tryz.fd74_0, Tryz.fd74_1], 7, 80, .agg #[.int .i64 0, .int .i64 0, .int .i64 0, .int .i64 0, .string ⟨#[]⟩, .string ⟨#[]⟩, .string ⟨#[]⟩], true⟩ := by kernel_rfl
noncomputable def Tryz.fd75_0 : Field := match Tryz.prog.underlying 75 with | some (.struct fs) => fs.getD 0 default | _ => default
theorem Tryz.fd75_0t : Tryz.fd75_0.type = 73 := by kernel_rfl
theorem Tryz.fd75_0o : Tryz.fd75_0.offset = 0 := by kernel_rfl
theorem Tryz.fd75_0n : (Tryz.fd75_0.name = "_") = False := eq_false (by decide +kernel)
noncomputable def Tryz.fd75_1 : Field := match Tryz.prog.underlying 75 with | some (.struct fs) => fs.getD 1 default | _ => default
theorem Tryz.fd75_1t : Tryz.fd75_1.type = 64 := by kernel_rfl
theorem Tryz.fd75_1o : Tryz.fd75_1.offset = 4 := by kernel_rfl
theorem Tryz.fd75_1n : (Tryz.fd75_1.name = "_") = False := eq_false (by decide +kernel)
theorem Tryz.y75 : tyOf Tryz.prog 75 = some ⟨.struct #[Tryz.fd75_0, Tryz.fd75_1], 7, 80, .agg #[.int .i64 0, .int .i64 0, .int .i64 0, .int .i64 0, .string ⟨#[]⟩, .string ⟨#[]⟩, .string ⟨#[]⟩], true⟩ := by kernel_rfl
noncomputable def Tryz.fd76_0 : Field := match Tryz.prog.underlying 76 with | some (.struct fs) => fs.getD 0 default | _ => default
theorem Tryz.fd76_0t : Tryz.fd76_0.type = 3 := by kernel_rfl
theorem Tryz.fd76_0o : Tryz.fd76_0.offset = 0 := by kernel_rfl
theorem Tryz.fd76_0n : (Tryz.fd76_0.name = "_") = False := eq_false (by decide +kernel)
noncomputable def Tryz.fd76_1 : Field := match Tryz.prog.underlying 76 with | some (.struct fs) => fs.getD 1 default | _ => default
theorem Tryz.fd76_1t : Tryz.fd76_1.type = 9 := by kernel_rfl
theorem Tryz.fd76_1o : Tryz.fd76_1.offset = 1 := by kernel_rfl
theorem Tryz.fd76_1n : (Tryz.fd76_1.name = "_") = False := eq_false (by decide +kernel)
noncomputable def Tryz.fd76_2 : Field := match Tryz.prog.underlying 76 with | some (.struct fs) => fs.getD 2 default | _ => default
theorem Tryz.fd76_2t : Tryz.fd76_2.type = 62 := by kernel_rfl
theorem Tryz.fd76_2o : Tryz.fd76_2.offset = 2 := by kernel_rfl
theorem Tryz.fd76_2n : (Tryz.fd76_2.name = "_") = False := eq_false (by decide +kernel)
noncomputable def Tryz.fd76_3 : Field := match Tryz.prog.underlying 76 with | some (.struct fs) => fs.getD 3 default | _ => default
theorem Tryz.fd76_3t : Tryz.fd76_3.type = 68 := by kernel_rfl
theorem Tryz.fd76_3o : Tryz.fd76_3.offset = 5 := by kernel_rfl
theorem Tryz.fd76_3n : (Tryz.fd76_3.name = "_") = False := eq_false (by decide +kernel)
noncomputable def Tryz.fd76_4 : Field := match Tryz.prog.underlying 76 with | some (.struct fs) => fs.getD 4 default | _ => default
theorem Tryz.fd76_4t : Tryz.fd76_4.type = 70 := by kernel_rfl
theorem Tryz.fd76_4o : Tryz.fd76_4.offset = 12 := by kernel_rfl
theorem Tryz.fd76_4n : (Tryz.fd76_4.name = "_") = False := eq_false (by decide +kernel)
noncomputable def Tryz.fd76_5 : Field := match Tryz.prog.underlying 76 with | some (.struct fs) => fs.getD 5 default | _ => default
theorem Tryz.fd76_5t : Tryz.fd76_5.type = 72 := by kernel_rfl
theorem Tryz.fd76_5o : Tryz.fd76_5.offset = 19 := by kernel_rfl
theorem Tryz.fd76_5n : (Tryz.fd76_5.name = "_") = False := eq_false (by decide +kernel)
noncomputable def Tryz.fd76_6 : Field := match Tryz.prog.underlying 76 with | some (.struct fs) => fs.getD 6 default | _ => default
theorem Tryz.fd76_6t : Tryz.fd76_6.type = 75 := by kernel_rfl
theorem Tryz.fd76_6o : Tryz.fd76_6.offset = 25 := by kernel_rfl
theorem Tryz.fd76_6n : (Tryz.fd76_6.name = "_") = False := eq_false (by decide +kernel)
theorem Tryz.y76 : tyOf Tryz.prog 76 = some ⟨.struct #[Tryz.fd76_0, Tryz.fd76_1, Tryz.fd76_2, Tryz.fd76_3, Tryz.fd76_4, Tryz.fd76_5, Tryz.fd76_6], 32, 504, .agg #[.int .i64 0, .string ⟨#[]⟩, .slice none 0 0, .slice none 0 0, .slice none 0 0, .string ⟨#[]⟩, .string ⟨#[]⟩, .string ⟨#[]⟩, .string ⟨#[]⟩, .string ⟨#[]⟩, .string ⟨#[]⟩, .string ⟨#[]⟩, .string ⟨#[]⟩, .string ⟨#[]⟩, .string ⟨#[]⟩, .slice none 0 0, .string ⟨#[]⟩, .string ⟨#[]⟩, .string ⟨#[]⟩, .string ⟨#[]⟩, .string ⟨#[]⟩, .string ⟨#[]⟩, .string ⟨#[]⟩, .string ⟨#[]⟩, .string ⟨#[]⟩, .int .i64 0, .int .i64 0, .int .i64 0, .int .i64 0, .string ⟨#[]⟩, .string ⟨#[]⟩, .string ⟨#[]⟩], true⟩ := by kernel_rfl
noncomputable def Tryz.fd77_0 : Field := match Tryz.prog.underlying 77 with | some (.struct fs) => fs.getD 0 default | _ => default
theorem Tryz.fd77_0t : Tryz.fd77_0.type = 3 := by kernel_rfl
theorem Tryz.fd77_0o : Tryz.fd77_0.offset = 0 := by kernel_rfl
theorem Tryz.fd77_0n : (Tryz.fd77_0.name = "_") = False := eq_false (by decide +kernel)
noncomputable def Tryz.fd77_1 : Field := match Tryz.prog.underlying 77 with | some (.struct fs) => fs.getD 1 default | _ => default
theorem Tryz.fd77_1t : Tryz.fd77_1.type = 9 := by kernel_rfl
theorem Tryz.fd77_1o : Tryz.fd77_1.offset = 1 := by kernel_rfl
theorem Tryz.fd77_1n : (Tryz.fd77_1.name = "_") = False := eq_false (by decide +kernel)
noncomputable def Tryz.fd77_2 : Field := match Tryz.prog.underlying 77 with | some (.struct fs) => fs.getD 2 default | _ => default
theorem Tryz.fd77_2t : Tryz.fd77_2.type = 62 := by kernel_rfl
theorem Tryz.fd77_2o : Tryz.fd77_2.offset = 2 := by kernel_rfl
theorem Tryz.fd77_2n : (Tryz.fd77_2.name = "_") = False := eq_false (by decide +kernel)
noncomputable def Tryz.fd77_3 : Field := match Tryz.prog.underlying 77 with | some (.struct fs) => fs.getD 3 default | _ => default
theorem Tryz.fd77_3t : Tryz.fd77_3.type = 68 := by kernel_rfl
theorem Tryz.fd77_3o : Tryz.fd77_3.offset = 5 := by kernel_rfl
theorem Tryz.fd77_3n : (Tryz.fd77_3.name = "_") = False := eq_false (by decide +kernel)
noncomputable def Tryz.fd77_4 : Field := match Tryz.prog.underlying 77 with | some (.struct fs) => fs.getD 4 default | _ => default
theorem Tryz.fd77_4t : Tryz.fd77_4.type = 70 := by kernel_rfl
theorem Tryz.fd77_4o : Tryz.fd77_4.offset = 12 := by kernel_rfl
theorem Tryz.fd77_4n : (Tryz.fd77_4.name = "_") = False := eq_false (by decide +kernel)
noncomputable def Tryz.fd77_5 : Field := match Tryz.prog.underlying 77 with | some (.struct fs) => fs.getD 5 default | _ => default
theorem Tryz.fd77_5t : Tryz.fd77_5.type = 72 := by kernel_rfl
theorem Tryz.fd77_5o : Tryz.fd77_5.offset = 19 := by kernel_rfl
theorem Tryz.fd77_5n : (Tryz.fd77_5.name = "_") = False := eq_false (by decide +kernel)
noncomputable def Tryz.fd77_6 : Field := match Tryz.prog.underlying 77 with | some (.struct fs) => fs.getD 6 default | _ => default
theorem Tryz.fd77_6t : Tryz.fd77_6.type = 75 := by kernel_rfl
theorem Tryz.fd77_6o : Tryz.fd77_6.offset = 25 := by kernel_rfl
theorem Tryz.fd77_6n : (Tryz.fd77_6.name = "_") = False := eq_false (by decide +kernel)
theorem Tryz.y77 : tyOf Tryz.prog 77 = some ⟨.struct #[Tryz.fd77_0, Tryz.fd77_1, Tryz.fd77_2, Tryz.fd77_3, Tryz.fd77_4, Tryz.fd77_5, Tryz.fd77_6], 32, 504, .agg #[.int .i64 0, .string ⟨#[]⟩, .slice none 0 0, .slice none 0 0, .slice none 0 0, .string ⟨#[]⟩, .string ⟨#[]⟩, .string ⟨#[]⟩, .string ⟨#[]⟩, .string ⟨#[]⟩, .string ⟨#[]⟩, .string ⟨#[]⟩, .string ⟨#[]⟩, .string ⟨#[]⟩, .string ⟨#[]⟩, .slice none 0 0, .string ⟨#[]⟩, .string ⟨#[]⟩, .string ⟨#[]⟩, .string ⟨#[]⟩, .string ⟨#[]⟩, .string ⟨#[]⟩, .string ⟨#[]⟩, .string ⟨#[]⟩, .string ⟨#[]⟩, .int .i64 0, .int .i64 0, .int .i64 0, .int .i64 0, .string ⟨#[]⟩, .string ⟨#[]⟩, .string ⟨#[]⟩], true⟩ := by kernel_rfl
noncomputable def Tryz.fd90_0 : Field := match Tryz.prog.underlying 90 with | some (.struct fs) => fs.getD 0 default | _ => default
theorem Tryz.fd90_0t : Tryz.fd90_0.type = 23 := by kernel_rfl
theorem Tryz.fd90_0o : Tryz.fd90_0.offset = 0 := by kernel_rfl
theorem Tryz.fd90_0n : (Tryz.fd90_0.name = "_") = False := eq_false (by decide +kernel)
noncomputable def Tryz.fd90_1 : Field := match Tryz.prog.underlying 90 with | some (.struct fs) => fs.getD 1 default | _ => default
theorem Tryz.fd90_1t : Tryz.fd90_1.type = 23 := by kernel_rfl
theorem Tryz.fd90_1o : Tryz.fd90_1.offset = 1 := by kernel_rfl
theorem Tryz.fd90_1n : (Tryz.fd90_1.name = "_") = False := eq_false (by decide +kernel)
theorem Tryz.y90 : tyOf Tryz.prog 90 = some ⟨.struct #[Tryz.fd90_0, Tryz.fd90_1], 2, 32, .agg #[.string ⟨#[]⟩, .string ⟨#[]⟩], true⟩ := by kernel_rfl
noncomputable def Tryz.fd91_0 : Field := match Tryz.prog.underlying 91 with | some (.struct fs) => fs.getD 0 default | _ => default
theorem Tryz.fd91_0t : Tryz.fd91_0.type = 23 := by kernel_rfl
theorem Tryz.fd91_0o : Tryz.fd91_0.offset = 0 := by kernel_rfl
theorem Tryz.fd91_0n : (Tryz.fd91_0.name = "_") = False := eq_false (by decide +kernel)
noncomputable def Tryz.fd91_1 : Field := match Tryz.prog.underlying 91 with | some (.struct fs) => fs.getD 1 default | _ => default
theorem Tryz.fd91_1t : Tryz.fd91_1.type = 23 := by kernel_rfl
theorem Tryz.fd91_1o : Tryz.fd91_1.offset = 1 := by kernel_rfl
theorem Tryz.fd91_1n : (Tryz.fd91_1.name = "_") = False := eq_false (by decide +kernel)
theorem Tryz.y91 : tyOf Tryz.prog 91 = some ⟨.struct #[Tryz.fd91_0, Tryz.fd91_1], 2, 32, .agg #[.string ⟨#[]⟩, .string ⟨#[]⟩], true⟩ := by kernel_rfl
theorem Tryz.y102 : tyOf Tryz.prog 102 = some ⟨.array 3 64, 9, 144, .agg #[.string ⟨#[]⟩, .string ⟨#[]⟩, .string ⟨#[]⟩, .string ⟨#[]⟩, .string ⟨#[]⟩, .string ⟨#[]⟩, .string ⟨#[]⟩, .string ⟨#[]⟩, .string ⟨#[]⟩], true⟩ := by kernel_rfl
noncomputable def Tryz.fd103_0 : Field := match Tryz.prog.underlying 103 with | some (.struct fs) => fs.getD 0 default | _ => default
theorem Tryz.fd103_0t : Tryz.fd103_0.type = 102 := by kernel_rfl
theorem Tryz.fd103_0o : Tryz.fd103_0.offset = 0 := by kernel_rfl
theorem Tryz.fd103_0n : (Tryz.fd103_0.name = "_") = False := eq_false (by decide +kernel)
noncomputable def Tryz.fd103_1 : Field := match Tryz.prog.underlying 103 with | some (.struct fs) => fs.getD 1 default | _ => default
theorem Tryz.fd103_1t : Tryz.fd103_1.type = 64 := by kernel_rfl
theorem Tryz.fd103_1o : Tryz.fd103_1.offset = 9 := by kernel_rfl
theorem Tryz.fd103_1n : (Tryz.fd103_1.name = "_") = False := eq_false (by decide +kernel)
theorem Tryz.y103 : tyOf Tryz.prog 103 = some ⟨.struct #[Tryz.fd103_0, Tryz.fd103_1], 12, 192, .agg #[.string ⟨#[]⟩, .string ⟨#[]⟩, .string ⟨#[]⟩, .string ⟨#[]⟩, .string ⟨#[]⟩, .string ⟨#[]⟩, .string ⟨#[]⟩, .string ⟨#[]⟩, .string ⟨#[]⟩, .string ⟨#[]⟩, .string ⟨#[]⟩, .string ⟨#[]⟩], true⟩ := by kernel_rfl
noncomputable def Tryz.fd104_0 : Field := match Tryz.prog.underlying 104 with | some (.struct fs) => fs.getD 0 default | _ => default
theorem Tryz.fd104_0t : Tryz.fd104_0.type = 102 := by kernel_rfl
theorem Tryz.fd104_0o : Tryz.fd104_0.offset = 0 := by kernel_rfl
theorem Tryz.fd104_0n : (Tryz.fd104_0.name = "_") = False := eq_false (by decide +kernel)
noncomputable def Tryz.fd104_1 : Field := match Tryz.prog.underlying 104 with | some (.struct fs) => fs.getD 1 default | _ => default
theorem Tryz.fd104_1t : Tryz.fd104_1.type = 64 := by kernel_rfl
theorem Tryz.fd104_1o : Tryz.fd104_1.offset = 9 := by kernel_rfl
theorem Tryz.fd104_1n : (Tryz.fd104_1.name = "_") = False := eq_false (by decide +kernel)
theorem Tryz.y104 : tyOf Tryz.prog 104 = some ⟨.struct #[Tryz.fd104_0, Tryz.fd104_1], 12, 192, .agg #[.string ⟨#[]⟩, .string ⟨#[]⟩, .string ⟨#[]⟩, .string ⟨#[]⟩, .string ⟨#[]⟩, .string ⟨#[]⟩, .string ⟨#[]⟩, .string ⟨#[]⟩, .string ⟨#[]⟩, .string ⟨#[]⟩, .string ⟨#[]⟩, .string ⟨#[]⟩], true⟩ := by kernel_rfl
noncomputable def Tryz.fd111_0 : Field := match Tryz.prog.underlying 111 with | some (.struct fs) => fs.getD 0 default | _ => default
theorem Tryz.fd111_0t : Tryz.fd111_0.type = 5 := by kernel_rfl
theorem Tryz.fd111_0o : Tryz.fd111_0.offset = 0 := by kernel_rfl
theorem Tryz.fd111_0n : (Tryz.fd111_0.name = "_") = False := eq_false (by decide +kernel)
noncomputable def Tryz.fd111_1 : Field := match Tryz.prog.underlying 111 with | some (.struct fs) => fs.getD 1 default | _ => default
theorem Tryz.fd111_1t : Tryz.fd111_1.type = 3 := by kernel_rfl
theorem Tryz.fd111_1o : Tryz.fd111_1.offset = 1 := by kernel_rfl
theorem Tryz.fd111_1n : (Tryz.fd111_1.name = "_") = False := eq_false (by decide +kernel)
noncomputable def Tryz.fd111_2 : Field := match Tryz.prog.underlying 111 with | some (.struct fs) => fs.getD 2 default | _ => default
theorem Tryz.fd111_2t : Tryz.fd111_2.type = 9 := by kernel_rfl
theorem Tryz.fd111_2o : Tryz.fd111_2.offset = 2 := by kernel_rfl
theorem Tryz.fd111_2n : (Tryz.fd111_2.name = "_") = False := eq_false (by decide +kernel)
noncomputable def Tryz.fd111_3 : Field := match Tryz.prog.underlying 111 with | some (.struct fs) => fs.getD 3 default | _ => default
theorem Tryz.fd111_3t : Tryz.fd111_3.type = 23 := by kernel_rfl
theorem Tryz.fd111_3o : Tryz.fd111_3.offset = 3 := by kernel_rfl
theorem Tryz.fd111_3n : (Tryz.fd111_3.name = "_") = False := eq_false (by decide +kernel)
theorem Tryz.y111 : tyOf Tryz.prog 111 = some ⟨.struct #[Tryz.fd111_0, Tryz.fd111_1, Tryz.fd111_2, Tryz.fd111_3], 4, 48, .agg #[.int .u8 0, .int .i64 0, .string ⟨#[]⟩, .string ⟨#[]⟩], true⟩ := by kernel_rfl
noncomputable def Tryz.fd112_0 : Field := match Tryz.prog.underlying 112 with | some (.struct fs) => fs.getD 0 default | _ => default
theorem Tryz.fd112_0t : Tryz.fd112_0.type = 5 := by kernel_rfl
theorem Tryz.fd112_0o : Tryz.fd112_0.offset = 0 := by kernel_rfl
theorem Tryz.fd112_0n : (Tryz.fd112_0.name = "_") = False := eq_false (by decide +kernel)
noncomputable def Tryz.fd112_1 : Field := match Tryz.prog.underlying 112 with | some (.struct fs) => fs.getD 1 default | _ => default
theorem Tryz.fd112_1t : Tryz.fd112_1.type = 3 := by kernel_rfl
theorem Tryz.fd112_1o : Tryz.fd112_1.offset = 1 := by kernel_rfl
theorem Tryz.fd112_1n : (Tryz.fd112_1.name = "_") = False := eq_false (by decide +kernel)
noncomputable def Tryz.fd112_2 : Field := match Tryz.prog.underlying 112 with | some (.struct fs) => fs.getD 2 default | _ => default
theorem Tryz.fd112_2t : Tryz.fd112_2.type = 9 := by kernel_rfl
theorem Tryz.fd112_2o : Tryz.fd112_2.offset = 2 := by kernel_rfl
theorem Tryz.fd112_2n : (Tryz.fd112_2.name = "_") = False := eq_false (by decide +kernel)
noncomputable def Tryz.fd112_3 : Field := match Tryz.prog.underlying 112 with | some (.struct fs) => fs.getD 3 default | _ => default
theorem Tryz.fd112_3t : Tryz.fd112_3.type = 23 := by kernel_rfl
theorem Tryz.fd112_3o : Tryz.fd112_3.offset = 3 := by kernel_rfl
theorem Tryz.fd112_3n : (Tryz.fd112_3.name = "_") = False := eq_false (by decide +kernel)
theorem Tryz.y112 : tyOf Tryz.prog 112 = some ⟨.struct #[Tryz.fd112_0, Tryz.fd112_1, Tryz.fd112_2, Tryz.fd112_3], 4, 48, .agg #[.int .u8 0, .int .i64 0, .string ⟨#[]⟩, .string ⟨#[]⟩], true⟩ := by kernel_rfl
theorem Tryz.y134 : tyOf Tryz.prog 134 = some ⟨.array 2 3, 2, 16, .agg #[.int .i64 0, .int .i64 0], true⟩ := by kernel_rfl
theorem Tryz.y154 : tyOf Tryz.prog 154 = some ⟨.array 3 91, 6, 96, .agg #[.string ⟨#[]⟩, .string ⟨#[]⟩, .string ⟨#[]⟩, .string ⟨#[]⟩, .string ⟨#[]⟩, .string ⟨#[]⟩], true⟩ := by kernel_rfl
theorem Tryz.y167 : tyOf Tryz.prog 167 = some ⟨.array 3 23, 3, 48, .agg #[.string ⟨#[]⟩, .string ⟨#[]⟩, .string ⟨#[]⟩], true⟩ := by kernel_rfl
theorem Tryz.y173 : tyOf Tryz.prog 173 = some ⟨.array 3 23, 3, 48, .agg #[.string ⟨#[]⟩, .string ⟨#[]⟩, .string ⟨#[]⟩], true⟩ := by kernel_rfl
theorem Tryz.y174 : tyOf Tryz.prog 174 = some ⟨.array 3 173, 9, 144, .agg #[.string ⟨#[]⟩, .string ⟨#[]⟩, .string ⟨#[]⟩, .string ⟨#[]⟩, .string ⟨#[]⟩, .string ⟨#[]⟩, .string ⟨#[]⟩, .string ⟨#[]⟩, .string ⟨#[]⟩], true⟩ := by kernel_rfl
theorem Tryz.y175 : tyOf Tryz.prog 175 = some ⟨.array 3 173, 9, 144, .agg #[.string ⟨#[]⟩, .string ⟨#[]⟩, .string ⟨#[]⟩, .string ⟨#[]⟩, .string ⟨#[]⟩, .string ⟨#[]⟩, .string ⟨#[]⟩, .string ⟨#[]⟩, .string ⟨#[]⟩], true⟩ := by kernel_rfl
theorem Tryz.y208 : tyOf Tryz.prog 208 = some ⟨.array 3 3, 3, 24, .agg #[.int .i64 0, .int .i64 0, .int .i64 0], true⟩ := by kernel_rfl
theorem Tryz.y209 : tyOf Tryz.prog 209 = some ⟨.array 3 3, 3, 24, .agg #[.int .i64 0, .int .i64 0, .int .i64 0], true⟩ := by kernel_rfl
theorem Tryz.y225 : tyOf Tryz.prog 225 = some ⟨.array 3 23, 3, 48, .agg #[.string ⟨#[]⟩, .string ⟨#[]⟩, .string ⟨#[]⟩], true⟩ := by kernel_rfl
noncomputable def Tryz.fd247_0 : Field := match Tryz.prog.underlying 247 with | some (.struct fs) => fs.getD 0 default | _ => default
theorem Tryz.fd247_0t : Tryz.fd247_0.type = 4 := by kernel_rfl
theorem Tryz.fd247_0o : Tryz.fd247_0.offset = 0 := by kernel_rfl
theorem Tryz.fd247_0n : (Tryz.fd247_0.name = "_") = False := eq_false (by decide +kernel)
noncomputable def Tryz.fd247_1 : Field := match Tryz.prog.underlying 247 with | some (.struct fs) => fs.getD 1 default | _ => default
theorem Tryz.fd247_1t : Tryz.fd247_1.type = 246 := by kernel_rfl
theorem Tryz.fd247_1o : Tryz.fd247_1.offset = 1 := by kernel_rfl
theorem Tryz.fd247_1n : (Tryz.fd247_1.name = "_") = False := eq_false (by decide +kernel)
theorem Tryz.y247 : tyOf Tryz.prog 247 = some ⟨.struct #[Tryz.fd247_0, Tryz.fd247_1], 2, 32, .agg #[.bool false, .slice none 0 0], true⟩ := by kernel_rfl
noncomputable def Tryz.fd248_0 : Field := match Tryz.prog.underlying 248 with | some (.struct fs) => fs.getD 0 default | _ => default
theorem Tryz.fd248_0t : Tryz.fd248_0.type = 4 := by kernel_rfl
theorem Tryz.fd248_0o : Tryz.fd248_0.offset = 0 := by kernel_rfl
theorem Tryz.fd248_0n : (Tryz.fd248_0.name = "_") = False := eq_false (by decide +kernel)
noncomputable def Tryz.fd248_1 : Field := match Tryz.prog.underlying 248 with | some (.struct fs) => fs.getD 1 default | _ => default
theorem Tryz.fd248_1t : Tryz.fd248_1.type = 246 := by kernel_rfl
theorem Tryz.fd248_1o : Tryz.fd248_1.offset = 1 := by kernel_rfl
theorem Tryz.fd248_1n : (Tryz.fd248_1.name = "_") = False := eq_false (by decide +kernel)
theorem Tryz.y248 : tyOf Tryz.prog 248 = some ⟨.struct #[Tryz.fd248_0, Tryz.fd248_1], 2, 32, .agg #[.bool false, .slice none 0 0], true⟩ := by kernel_rfl
noncomputable def Tryz.fd299_0 : Field := match Tryz.prog.underlying 299 with | some (.struct fs) => fs.getD 0 default | _ => default
theorem Tryz.fd299_0t : Tryz.fd299_0.type = 297 := by kernel_rfl
theorem Tryz.fd299_0o : Tryz.fd299_0.offset = 0 := by kernel_rfl
theorem Tryz.fd299_0n : (Tryz.fd299_0.name = "_") = False := eq_false (by decide +kernel)
noncomputable def Tryz.fd299_1 : Field := match Tryz.prog.underlying 299 with | some (.struct fs) => fs.getD 1 default | _ => default
theorem Tryz.fd299_1t : Tryz.fd299_1.type = 298 := by kernel_rfl
theorem Tryz.fd299_1o : Tryz.fd299_1.offset = 1 := by kernel_rfl
theorem Tryz.fd299_1n : (Tryz.fd299_1.name = "_") = False := eq_false (by decide +kernel)
theorem Tryz.y299 : tyOf Tryz.prog 299 = some ⟨.struct #[Tryz.fd299_0, Tryz.fd299_1], 2, 32, .agg #[.pointer none, .slice none 0 0], true⟩ := by kernel_rfl
noncomputable def Tryz.fd300_0 : Field := match Tryz.prog.underlying 300 with | some (.struct fs) => fs.getD 0 default | _ => default
theorem Tryz.fd300_0t : Tryz.fd300_0.type = 297 := by kernel_rfl
theorem Tryz.fd300_0o : Tryz.fd300_0.offset = 0 := by kernel_rfl
theorem Tryz.fd300_0n : (Tryz.fd300_0.name = "_") = False := eq_false (by decide +kernel)
noncomputable def Tryz.fd300_1 : Field := match Tryz.prog.underlying 300 with | some (.struct fs) => fs.getD 1 default | _ => default
theorem Tryz.fd300_1t : Tryz.fd300_1.type = 298 := by kernel_rfl
theorem Tryz.fd300_1o : Tryz.fd300_1.offset = 1 := by kernel_rfl
theorem Tryz.fd300_1n : (Tryz.fd300_1.name = "_") = False := eq_false (by decide +kernel)
theorem Tryz.y300 : tyOf Tryz.prog 300 = some ⟨.struct #[Tryz.fd300_0, Tryz.fd300_1], 2, 32, .agg #[.pointer none, .slice none 0 0], true⟩ := by kernel_rfl
theorem Tryz.y340 : tyOf Tryz.prog 340 = some ⟨.array 24 5, 24, 24, .agg #[.int .u8 0, .int .u8 0, .int .u8 0, .int .u8 0, .int .u8 0, .int .u8 0, .int .u8 0, .int .u8 0, .int .u8 0, .int .u8 0, .int .u8 0, .int .u8 0, .int .u8 0, .int .u8 0, .int .u8 0, .int .u8 0, .int .u8 0, .int .u8 0, .int .u8 0, .int .u8 0, .int .u8 0, .int .u8 0, .int .u8 0, .int .u8 0], true⟩ := by kernel_rfl
theorem Tryz.y351 : tyOf Tryz.prog 351 = some ⟨.array 20 288, 20, 160, .agg #[.int .u64 0, .int .u64 0, .int .u64 0, .int .u64 0, .int .u64 0, .int .u64 0, .int .u64 0, .int .u64 0, .int .u64 0, .int .u64 0, .int .u64 0, .int .u64 0, .int .u64 0, .int .u64 0, .int .u64 0, .int .u64 0, .int .u64 0, .int .u64 0, .int .u64 0, .int .u64 0], true⟩ := by kernel_rfl
theorem Tryz.y352 : tyOf Tryz.prog 352 = some ⟨.array 65 5, 65, 65, .agg #[.int .u8 0, .int .u8 0, .int .u8 0, .int .u8 0, .int .u8 0, .int .u8 0, .int .u8 0, .int .u8 0, .int .u8 0, .int .u8 0, .int .u8 0, .int .u8 0, .int .u8 0, .int .u8 0, .int .u8 0, .int .u8 0, .int .u8 0, .int .u8 0, .int .u8 0, .int .u8 0, .int .u8 0, .int .u8 0, .int .u8 0, .int .u8 0, .int .u8 0, .int .u8 0, .int .u8 0, .int .u8 0, .int .u8 0, .int .u8 0, .int .u8 0, .int .u8 0, .int .u8 0, .int .u8 0, .int .u8 0, .int .u8 0, .int .u8 0, .int .u8 0, .int .u8 0, .int .u8 0, .int .u8 0, .int .u8 0, .int .u8 0, .int .u8 0, .int .u8 0, .int .u8 0, .int .u8 0, .int .u8 0, .int .u8 0, .int .u8 0, .int .u8 0, .int .u8 0, .int .u8 0, .int .u8 0, .int .u8 0, .int .u8 0, .int .u8 0, .int .u8 0, .int .u8 0, .int .u8 0, .int .u8 0, .int .u8 0, .int .u8 0, .int .u8 0, .int .u8 0], true⟩ := by kernel_rfl
noncomputable def Tryz.fd354_0 : Field := match Tryz.prog.underlying 354 with | some (.struct fs) => fs.getD 0 default | _ => default
theorem Tryz.fd354_0t : Tryz.fd354_0.type = 91 := by kernel_rfl
theorem Tryz.fd354_0o : Tryz.fd354_0.offset = 0 := by kernel_rfl
theorem Tryz.fd354_0n : (Tryz.fd354_0.name = "_") = False := eq_false (by decide +kernel)
noncomputable def Tryz.fd354_1 : Field := match Tryz.prog.underlying 354 with | some (.struct fs) => fs.getD 1 default | _ => default
theorem Tryz.fd354_1t : Tryz.fd354_1.type = 23 := by kernel_rfl
theorem Tryz.fd354_1o : Tryz.fd354_1.offset = 2 := by kernel_rfl
theorem Tryz.fd354_1n : (Tryz.fd354_1.name = "_") = False := eq_false (by decide +kernel)
theorem Tryz.y354 : tyOf Tryz.prog 354 = some ⟨.struct #[Tryz.fd354_0, Tryz.fd354_1], 3, 48, .agg #[.string ⟨#[]⟩, .string ⟨#[]⟩, .string ⟨#[]⟩], true⟩ := by kernel_rfl
noncomputable def Tryz.fd355_0 : Field := match Tryz.prog.underlying 355 with | some (.struct fs) => fs.getD 0 default | _ => default
theorem Tryz.fd355_0t : Tryz.fd355_0.type = 91 := by kernel_rfl
theorem Tryz.fd355_0o : Tryz.fd355_0.offset = 0 := by kernel_rfl
theorem Tryz.fd355_0n : (Tryz.fd355_0.name = "_") = False := eq_false (by decide +kernel)
noncomputable def Tryz.fd355_1 : Field := match Tryz.prog.underlying 355 with | some (.struct fs) => fs.getD 1 default | _ => default
theorem Tryz.fd355_1t : Tryz.fd355_1.type = 23 := by kernel_rfl
theorem Tryz.fd355_1o : Tryz.fd355_1.offset = 2 := by kernel_rfl
theorem Tryz.fd355_1n : (Tryz.fd355_1.name = "_") = False := eq_false (by decide +kernel)
theorem Tryz.y355 : tyOf Tryz.prog 355 = some ⟨.struct #[Tryz.fd355_0, Tryz.fd355_1], 3, 48, .agg #[.string ⟨#[]⟩, .string ⟨#[]⟩, .string ⟨#[]⟩], true⟩ := by kernel_rfl
theorem Tryz.y356 : tyOf Tryz.prog 356 = some ⟨.array 3 355, 9, 144, .agg #[.string ⟨#[]⟩, .string ⟨#[]⟩, .string ⟨#[]⟩, .string ⟨#[]⟩, .string ⟨#[]⟩, .string ⟨#[]⟩, .string ⟨#[]⟩, .string ⟨#[]⟩, .string ⟨#[]⟩], true⟩ := by kernel_rfl
noncomputable def Tryz.fd359_0 : Field := match Tryz.prog.underlying 359 with | some (.struct fs) => fs.getD 0 default | _ => default
theorem Tryz.fd359_0t : Tryz.fd359_0.type = 9 := by kernel_rfl
theorem Tryz.fd359_0o : Tryz.fd359_0.offset = 0 := by kernel_rfl
theorem Tryz.fd359_0n : (Tryz.fd359_0.name = "_") = False := eq_false (by decide +kernel)
theorem Tryz.y359 : tyOf Tryz.prog 359 = some ⟨.struct #[Tryz.fd359_0], 1, 16, .agg #[.string ⟨#[]⟩], true⟩ := by kernel_rfl
noncomputable def Tryz.fd360_0 : Field := match Tryz.prog.underlying 360 with | some (.struct fs) => fs.getD 0 default | _ => default
theorem Tryz.fd360_0t : Tryz.fd360_0.type = 9 := by kernel_rfl
theorem Tryz.fd360_0o : Tryz.fd360_0.offset = 0 := by kernel_rfl
theorem Tryz.fd360_0n : (Tryz.fd360_0.name = "_") = False := eq_false (by decide +kernel)
theorem Tryz.y360 : tyOf Tryz.prog 360 = some ⟨.struct #[Tryz.fd360_0], 1, 16, .agg #[.string ⟨#[]⟩], true⟩ := by kernel_rfl
theorem Tryz.y362 : tyOf Tryz.prog 362 = some ⟨.array 32 5, 32, 32, .agg #[.int .u8 0, .int .u8 0, .int .u8 0, .int .u8 0, .int .u8 0, .int .u8 0, .int .u8 0, .int .u8 0, .int .u8 0, .int .u8 0, .int .u8 0, .int .u8 0, .int .u8 0, .int .u8 0, .int .u8 0, .int .u8 0, .int .u8 0, .int .u8 0, .int .u8 0, .int .u8 0, .int .u8 0, .int .u8 0, .int .u8 0, .int .u8 0, .int .u8 0, .int .u8 0, .int .u8 0, .int .u8 0, .int .u8 0, .int .u8 0, .int .u8 0, .int .u8 0], true⟩ := by kernel_rfl
theorem Tryz.y363 : tyOf Tryz.prog 363 = some ⟨.array 64 5, 64, 64, .agg #[.int .u8 0, .int .u8 0, .int .u8 0, .int .u8 0, .int .u8 0, .int .u8 0, .int .u8 0, .int .u8 0, .int .u8 0, .int .u8 0, .int .u8 0, .int .u8 0, .int .u8 0, .int .u8 0, .int .u8 0, .int .u8 0, .int .u8 0, .int .u8 0, .int .u8 0, .int .u8 0, .int .u8 0, .int .u8 0, .int .u8 0, .int .u8 0, .int .u8 0, .int .u8 0, .int .u8 0, .int .u8 0, .int .u8 0, .int .u8 0, .int .u8 0, .int .u8 0, .int .u8 0, .int .u8 0, .int .u8 0, .int .u8 0, .int .u8 0, .int .u8 0, .int .u8 0, .int .u8 0, .int .u8 0, .int .u8 0, .int .u8 0, .int .u8 0, .int .u8 0, .int .u8 0, .int .u8 0, .int .u8 0, .int .u8 0, .int .u8 0, .int .u8 0, .int .u8 0, .int .u8 0, .int .u8 0, .int .u8 0, .int .u8 0, .int .u8 0, .int .u8 0, .int .u8 0, .int .u8 0, .int .u8 0, .int .u8 0, .int .u8 0, .int .u8 0], true⟩ := by kernel_rfl
noncomputable def Tryz.fd364_0 : Field := match Tryz.prog.underlying 364 with | some (.struct fs) => fs.getD 0 default | _ => default
theorem Tryz.fd364_0t : Tryz.fd364_0.type = 17 := by kernel_rfl
theorem Tryz.fd364_0o : Tryz.fd364_0.offset = 0 := by kernel_rfl
theorem Tryz.fd364_0n : (Tryz.fd364_0.name = "_") = False := eq_false (by decide +kernel)
noncomputable def Tryz.fd364_1 : Field := match Tryz.prog.underlying 364 with | some (.struct fs) => fs.getD 1 default | _ => default
theorem Tryz.fd364_1t : Tryz.fd364_1.type = 17 := by kernel_rfl
theorem Tryz.fd364_1o : Tryz.fd364_1.offset = 1 := by kernel_rfl
theorem Tryz.fd364_1n : (Tryz.fd364_1.name = "_") = False := eq_false (by decide +kernel)
noncomputable def Tryz.fd364_2 : Field := match Tryz.prog.underlying 364 with | some (.struct fs) => fs.getD 2 default | _ => default
theorem Tryz.fd364_2t : Tryz.fd364_2.type = 17 := by kernel_rfl
theorem Tryz.fd364_2o : Tryz.fd364_2.offset = 2 := by kernel_rfl
theorem Tryz.fd364_2n : (Tryz.fd364_2.name = "_") = False := eq_false (by decide +kernel)
noncomputable def Tryz.fd364_3 : Field := match Tryz.prog.underlying 364 with | some (.struct fs) => fs.getD 3 default | _ => default
theorem Tryz.fd364_3t : Tryz.fd364_3.type = 9 := by kernel_rfl
theorem Tryz.fd364_3o : Tryz.fd364_3.offset = 3 := by kernel_rfl
theorem Tryz.fd364_3n : (Tryz.fd364_3.name = "_") = False := eq_false (by decide +kernel)
theorem Tryz.y364 : tyOf Tryz.prog 364 = some ⟨.struct #[Tryz.fd364_0, Tryz.fd364_1, Tryz.fd364_2, Tryz.fd364_3], 4, 40, .agg #[.pointer none, .pointer none, .pointer none, .string ⟨#[]⟩], false⟩ := by kernel_rfl
noncomputable def Tryz.fd365_0 : Field := match Tryz.prog.underlying 365 with | some (.struct fs) => fs.getD 0 default | _ => default
theorem Tryz.fd365_0t : Tryz.fd365_0.type = 17 := by kernel_rfl
theorem Tryz.fd365_0o : Tryz.fd365_0.offset = 0 := by kernel_rfl
theorem Tryz.fd365_0n : (Tryz.fd365_0.name = "_") = False := eq_false (by decide +kernel)
noncomputable def Tryz.fd365_1 : Field := match Tryz.prog.underlying 365 with | some (.struct fs) => fs.getD 1 default | _ => default
theorem Tryz.fd365_1t : Tryz.fd365_1.type = 17 := by kernel_rfl
theorem Tryz.fd365_1o : Tryz.fd365_1.offset = 1 := by kernel_rfl
theorem Tryz.fd365_1n : (Tryz.fd365_1.name = "_") = False := eq_false (by decide +kernel)
noncomputable def Tryz.fd365_2 : Field := match Tryz.prog.underlying 365 with | some (.struct fs) => fs.getD 2 default | _ => default
theorem Tryz.fd365_2t : Tryz.fd365_2.type = 17 := by kernel_rfl
theorem Tryz.fd365_2o : Tryz.fd365_2.offset = 2 := by kernel_rfl
theorem Tryz.fd365_2n : (Tryz.fd365_2.name = "_") = False := eq_false (by decide +kernel)
noncomputable def Tryz.fd365_3 : Field := match Tryz.prog.underlying 365 with | some (.struct fs) => fs.getD 3 default | _ => default
theorem Tryz.fd365_3t : Tryz.fd365_3.type = 9 := by kernel_rfl
theorem Tryz.fd365_3o : Tryz.fd365_3.offset = 3 := by kernel_rfl
theorem Tryz.fd365_3n : (Tryz.fd365_3.name = "_") = False := eq_false (by decide +kernel)
theorem Tryz.y365 : tyOf Tryz.prog 365 = some ⟨.struct #[Tryz.fd365_0, Tryz.fd365_1, Tryz.fd365_2, Tryz.fd365_3], 4, 40, .agg #[.pointer none, .pointer none, .pointer none, .string ⟨#[]⟩], false⟩ := by kernel_rfl
theorem Tryz.y366 : tyOf Tryz.prog 366 = some ⟨.array 0 16, 0, 0, .agg #[], true⟩ := by kernel_rfl
noncomputable def Tryz.fd367_0 : Field := match Tryz.prog.underlying 367 with | some (.struct fs) => fs.getD 0 default | _ => default
theorem Tryz.fd367_0t : Tryz.fd367_0.type = 366 := by kernel_rfl
theorem Tryz.fd367_0o : Tryz.fd367_0.offset = 0 := by kernel_rfl
theorem Tryz.y367 : tyOf Tryz.prog 367 = some ⟨.struct #[Tryz.fd367_0], 0, 0, .agg #[], false⟩ := by kernel_rfl
noncomputable def Tryz.fd368_0 : Field := match Tryz.prog.underlying 368 with | some (.struct fs) => fs.getD 0 default | _ => default
theorem Tryz.fd368_0t : Tryz.fd368_0.type = 366 := by kernel_rfl
theorem Tryz.fd368_0o : Tryz.fd368_0.offset = 0 := by kernel_rfl
theorem Tryz.y368 : tyOf Tryz.prog 368 = some ⟨.struct #[Tryz.fd368_0], 0, 0, .agg #[], false⟩ := by kernel_rfl
attribute [simp] Tryz.fd7_0t Tryz.fd7_0o Tryz.fd7_0n Tryz.fd7_1t Tryz.fd7_1o Tryz.fd7_1n Tryz.fd7_2t Tryz.fd7_2o Tryz.fd7_2n Tryz.fd7_3t Tryz.fd7_3o Tryz.fd7_3n Tryz.y7 Tryz.fd8_0t Tryz.fd8_0o Tryz.fd8_0n Tryz.fd8_1t Tryz.fd8_1o Tryz.fd8_1n Tryz.fd8_2t
attribute [simp] Tryz.fd8_2o Tryz.fd8_2n Tryz.fd8_3t Tryz.fd8_3o Tryz.fd8_3n Tryz.y8 Tryz.fd13_0t Tryz.fd13_0o Tryz.fd13_0n Tryz.fd13_1t Tryz.fd13_1o Tryz.fd13_1n Tryz.y13 Tryz.fd14_0t Tryz.fd14_0o Tryz.fd14_0n Tryz.fd14_1t Tryz.fd14_1o Tryz.fd14_1n Tryz.y14
attribute [simp] Tryz.fd18_0t Tryz.fd18_0o Tryz.fd18_0n Tryz.y18 Tryz.fd19_0t Tryz.fd19_0o Tryz.fd19_0n Tryz.y19 Tryz.fd25_0t Tryz.fd25_0o Tryz.fd25_0n Tryz.fd25_1t Tryz.fd25_1o Tryz.fd25_1n Tryz.y25 Tryz.fd26_0t Tryz.fd26_0o Tryz.fd26_0n Tryz.fd26_1t Tryz.fd26_1o
attribute [simp] Tryz.fd26_1n Tryz.y26 Tryz.y35 Tryz.fd36_0t Tryz.fd36_0o Tryz.fd36_0n Tryz.fd36_1t Tryz.fd36_1o Tryz.fd36_1n Tryz.fd36_2t Tryz.fd36_2o Tryz.fd36_2n Tryz.y36 Tryz.fd37_0t Tryz.fd37_0o Tryz.fd37_0n Tryz.fd37_1t Tryz.fd37_1o Tryz.fd37_1n Tryz.fd37_2t
attribute [simp] Tryz.fd37_2o Tryz.fd37_2n Tryz.y37 Tryz.y38 Tryz.fd39_0t Tryz.fd39_0o Tryz.fd39_0n Tryz.fd39_1t Tryz.fd39_1o Tryz.fd39_1n Tryz.y39 Tryz.fd40_0t Tryz.fd40_0o Tryz.fd40_0n Tryz.fd40_1t Tryz.fd40_1o Tryz.fd40_1n Tryz.y40 Tryz.y41 Tryz.y42
attribute [simp] Tryz.y43 Tryz.y44 Tryz.fd45_0t Tryz.fd45_0o Tryz.fd45_0n Tryz.fd45_1t Tryz.fd45_1o Tryz.fd45_1n Tryz.fd45_2t Tryz.fd45_2o Tryz.fd45_2n Tryz.fd45_3t Tryz.fd45_3o Tryz.fd45_3n Tryz.fd45_4t Tryz.fd45_4o Tryz.fd45_4n Tryz.y45 Tryz.fd46_0t Tryz.fd46_0o
attribute [simp] Tryz.fd46_0n Tryz.fd46_1t Tryz.fd46_1o Tryz.fd46_1n Tryz.fd46_2t Tryz.fd46_2o Tryz.fd46_2n Tryz.fd46_3t Tryz.fd46_3o Tryz.fd46_3n Tryz.fd46_4t Tryz.fd46_4o Tryz.fd46_4n Tryz.y46 Tryz.fd48_0t Tryz.fd48_0o Tryz.fd48_0n Tryz.fd48_1t Tryz.fd48_1o Tryz.fd48_1n
attribute [simp] Tryz.y48 Tryz.fd49_0t Tryz.fd49_0o Tryz.fd49_0n Tryz.fd49_1t Tryz.fd49_1o Tryz.fd49_1n Tryz.y49 Tryz.y50 Tryz.y51 Tryz.fd54_0t Tryz.fd54_0o Tryz.fd54_0n Tryz.fd54_1t Tryz.fd54_1o Tryz.fd54_1n Tryz.y54 Tryz.fd55_0t Tryz.fd55_0o Tryz.fd55_0n
attribute [simp] Tryz.fd55_1t Tryz.fd55_1o Tryz.fd55_1n Tryz.y55 Tryz.fd61_0t Tryz.fd61_0o Tryz.fd61_0n Tryz.fd61_1t Tryz.fd61_1o Tryz.fd61_1n Tryz.fd61_2t Tryz.fd61_2o Tryz.fd61_2n Tryz.y61 Tryz.fd62_0t Tryz.fd62_0o Tryz.fd62_0n Tryz.fd62_1t Tryz.fd62_1o Tryz.fd62_1n
attribute [simp] Tryz.fd62_2t Tryz.fd62_2o Tryz.fd62_2n Tryz.y62 Tryz.fd63_0t Tryz.fd63_0o Tryz.fd63_0n Tryz.fd63_1t Tryz.fd63_1o Tryz.fd63_1n Tryz.fd63_2t Tryz.fd63_2o Tryz.fd63_2n Tryz.y63 Tryz.fd64_0t Tryz.fd64_0o Tryz.fd64_0n Tryz.fd64_1t Tryz.fd64_1o Tryz.fd64_1n
attribute [simp] Tryz.fd64_2t Tryz.fd64_2o Tryz.fd64_2n Tryz.y64 Tryz.fd65_0t Tryz.fd65_0o Tryz.fd65_0n Tryz.fd65_1t Tryz.fd65_1o Tryz.fd65_1n Tryz.y65 Tryz.fd66_0t Tryz.fd66_0o Tryz.fd66_0n Tryz.fd66_1t Tryz.fd66_1o Tryz.fd66_1n Tryz.y66 Tryz.fd67_0t Tryz.fd67_0o
attribute [simp] Tryz.fd67_0n Tryz.fd67_1t Tryz.fd67_1o Tryz.fd67_1n Tryz.y67 Tryz.fd68_0t Tryz.fd68_0o Tryz.fd68_0n Tryz.fd68_1t Tryz.fd68_1o Tryz.fd68_1n Tryz.y68 Tryz.fd69_0t Tryz.fd69_0o Tryz.fd69_0n Tryz.fd69_1t Tryz.fd69_1o Tryz.fd69_1n Tryz.fd69_2t Tryz.fd69_2o
attribute [simp] Tryz.fd69_2n Tryz.y69 Tryz.fd70_0t Tryz.fd70_0o Tryz.fd70_0n Tryz.fd70_1t Tryz.fd70_1o Tryz.fd70_1n Tryz.fd70_2t Tryz.fd70_2o Tryz.fd70_2n Tryz.y70 Tryz.fd71_0t Tryz.fd71_0o Tryz.fd71_0n Tryz.fd71_1t Tryz.fd71_1o Tryz.fd71_1n Tryz.fd71_2t Tryz.fd71_2o
attribute [simp] Tryz.fd71_2n Tryz.y71 Tryz.fd72_0t Tryz.fd72_0o Tryz.fd72_0n Tryz.fd72_1t Tryz.fd72_1o Tryz.fd72_1n Tryz.fd72_2t Tryz.fd72_2o Tryz.fd72_2n Tryz.y72 Tryz.y73 Tryz.fd74_0t Tryz.fd74_0o Tryz.fd74_0n Tryz.fd74_1t Tryz.fd74_1o Tryz.fd74_1n Tryz.y74
attribute [simp] Tryz.fd75_0t Tryz.fd75_0o Tryz.fd75_0n Tryz.fd75_1t Tryz.fd75_1o Tryz.fd75_1n Tryz.y75 Tryz.fd76_0t Tryz.fd76_0o Tryz.fd76_0n Tryz.fd76_1t Tryz.fd76_1o Tryz.fd76_1n Tryz.fd76_2t Tryz.fd76_2o Tryz.fd76_2n Tryz.fd76_3t Tryz.fd76_3o Tryz.fd76_3n Tryz.fd76_4t
attribute [simp] Tryz.fd76_4o Tryz.fd76_4n Tryz.fd76_5t Tryz.fd76_5o Tryz.fd76_5n Tryz.fd76_6t Tryz.fd76_6o Tryz.fd76_6n Tryz.y76 Tryz.fd77_0t Tryz.fd77_0o Tryz.fd77_0n Tryz.fd77_1t Tryz.fd77_1o Tryz.fd77_1n Tryz.fd77_2t Tryz.fd77_2o Tryz.fd77_2n Tryz.fd77_3t Tryz.fd77_3o
attribute [simp] Tryz.fd77_3n Tryz.fd77_4t Tryz.fd77_4o Tryz.fd77_4n Tryz.fd77_5t Tryz.fd77_5o Tryz.fd77_5n Tryz.fd77_6t Tryz.fd77_6o Tryz.fd77_6n Tryz.y77 Tryz.fd90_0t Tryz.fd90_0o Tryz.fd90_0n Tryz.fd90_1t Tryz.fd90_1o Tryz.fd90_1n Tryz.y90 Tryz.fd91_0t Tryz.fd91_0o
attribute [simp] Tryz.fd91_0n Tryz.fd91_1t Tryz.fd91_1o Tryz.fd91_1n Tryz.y91 Tryz.y102 Tryz.fd103_0t Tryz.fd103_0o Tryz.fd103_0n Tryz.fd103_1t Tryz.fd103_1o Tryz.fd103_1n Tryz.y103 Tryz.fd104_0t Tryz.fd104_0o Tryz.fd104_0n Tryz.fd104_1t Tryz.fd104_1o Tryz.fd104_1n Tryz.y104
attribute [simp] Tryz.fd111_0t Tryz.fd111_0o Tryz.fd111_0n Tryz.fd111_1t Tryz.fd111_1o Tryz.fd111_1n Tryz.fd111_2t Tryz.fd111_2o Tryz.fd111_2n Tryz.fd111_3t Tryz.fd111_3o Tryz.fd111_3n Tryz.y111 Tryz.fd112_0t Tryz.fd112_0o Tryz.fd112_0n Tryz.fd112_1t Tryz.fd112_1o Tryz.fd112_1n Tryz.fd112_2t
attribute [simp] Tryz.fd112_2o Tryz.fd112_2n Tryz.fd112_3t Tryz.fd112_3o Tryz.fd112_3n Tryz.y112 Tryz.y134 Tryz.y154 Tryz.y167 Tryz.y173 Tryz.y174 Tryz.y175 Tryz.y208 Tryz.y209 Tryz.y225 Tryz.fd247_0t Tryz.fd247_0o Tryz.fd247_0n Tryz.fd247_1t Tryz.fd247_1o
attribute [simp] Tryz.fd247_1n Tryz.y247 Tryz.fd248_0t Tryz.fd248_0o Tryz.fd248_0n Tryz.fd248_1t Tryz.fd248_1o Tryz.fd248_1n Tryz.y248 Tryz.fd299_0t Tryz.fd299_0o Tryz.fd299_0n Tryz.fd299_1t Tryz.fd299_1o Tryz.fd299_1n Tryz.y299 Tryz.fd300_0t Tryz.fd300_0o Tryz.fd300_0n Tryz.fd300_1t
attribute [simp] Tryz.fd300_1o Tryz.fd300_1n Tryz.y300 Tryz.y340 Tryz.y351 Tryz.y352 Tryz.fd354_0t Tryz.fd354_0o Tryz.fd354_0n Tryz.fd354_1t Tryz.fd354_1o Tryz.fd354_1n Tryz.y354 Tryz.fd355_0t Tryz.fd355_0o Tryz.fd355_0n Tryz.fd355_1t Tryz.fd355_1o Tryz.fd355_1n Tryz.y355
attribute [simp] Tryz.y356 Tryz.fd359_0t Tryz.fd359_0o Tryz.fd359_0n Tryz.y359 Tryz.fd360_0t Tryz.fd360_0o Tryz.fd360_0n Tryz.y360 Tryz.y362 Tryz.y363 Tryz.fd364_0t Tryz.fd364_0o Tryz.fd364_0n Tryz.fd364_1t Tryz.fd364_1o Tryz.fd364_1n Tryz.fd364_2t Tryz.fd364_2o Tryz.fd364_2n
attribute [simp] Tryz.fd364_3t Tryz.fd364_3o Tryz.fd364_3n Tryz.y364 Tryz.fd365_0t Tryz.fd365_0o Tryz.fd365_0n Tryz.fd365_1t Tryz.fd365_1o Tryz.fd365_1n Tryz.fd365_2t Tryz.fd365_2o Tryz.fd365_2n Tryz.fd365_3t Tryz.fd365_3o Tryz.fd365_3n Tryz.y365 Tryz.y366 Tryz.fd367_0t Tryz.fd367_0o
attribute [simp] Tryz.y367 Tryz.fd368_0t Tryz.fd368_0o Tryz.y368
end Go.Proofs
