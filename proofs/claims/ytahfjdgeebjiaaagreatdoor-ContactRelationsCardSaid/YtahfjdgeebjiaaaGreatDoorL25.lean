/- Part L25 of a proof: see its last part, YtahfjdgeebjiaaaGreatDoorL55.lean. -/
import Derived.Test.YtahfjdgeebjiaaaGreatDoorL14
set_option linter.all false
namespace Go.Proofs
open Go.Eng
noncomputable def Tryz.fd7_0 : Field := match Tryz.prog.underlying 7 with | some (.struct fs) => fs.getD 0 default | _ => default
theorem Tryz.fd7_0t : Tryz.fd7_0.type = 2 := by kernel_rfl
theorem Tryz.fd7_0o : Tryz.fd7_0.offset = 0 := by kernel_rfl
theorem Tryz.fd7_0n : (Tryz.fd7_0.name = "_") = False := eq_false (by decide +kernel)
noncomputable def Tryz.fd7_1 : Field := match Tryz.prog.underlying 7 with | some (.struct fs) => fs.getD 1 default | _ => default
theorem Tryz.fd7_1t : Tryz.fd7_1.type = 3 := by kernel_rfl
theorem Tryz.fd7_1o : Tryz.fd7_1.offset = 1 := by kernel_rfl
theorem Tryz.fd7_1n : (Tryz.fd7_1.name = "_") = False := eq_false (by decide +kernel)
noncomputable def Tryz.fd7_2 : Field := match Tryz.prog.underlying 7 with | some (.struct fs) => fs.getD 2 default | _ => default
theorem Tryz.fd7_2t : Tryz.fd7_2.type = 4 := by kernel_rfl
theorem Tryz.fd7_2o : Tryz.fd7_2.offset = 2 := by kernel_rfl
theorem Tryz.fd7_2n : (Tryz.fd7_2.name = "_") = False := eq_false (by decide +kernel)
noncomputable def Tryz.fd7_3 : Field := match Tryz.prog.underlying 7 with | some (.struct fs) => fs.getD 3 default | _ => default
theorem Tryz.fd7_3t : Tryz.fd7_3.type = 6 := by kernel_rfl
theorem Tryz.fd7_3o : Tryz.fd7_3.offset = 3 := by kernel_rfl
theorem Tryz.fd7_3n : (Tryz.fd7_3.name = "_") = False := eq_false (by decide +kernel)
theorem Tryz.y7 : tyOf Tryz.prog 7 = some ⟨.struct #[Tryz.fd7_0, Tryz.fd7_1, Tryz.fd7_2, Tryz.fd7_3], 4, 24, .agg #[.int .i64 0, .int .i64 0, .bool false, .int .u8 0], true⟩ := by kernel_rfl
noncomputable def Tryz.fd8_0 : Field := match Tryz.prog.underlying 8 with | some (.struct fs) => fs.getD 0 default | _ => default
theorem Tryz.fd8_0t : Tryz.fd8_0.type = 2 := by kernel_rfl
theorem Tryz.fd8_0o : Tryz.fd8_0.offset = 0 := by kernel_rfl
theorem Tryz.fd8_0n : (Tryz.fd8_0.name = "_") = False := eq_false (by decide +kernel)
noncomputable def Tryz.fd8_1 : Field := match Tryz.prog.underlying 8 with | some (.struct fs) => fs.getD 1 default | _ => default
theorem Tryz.fd8_1t : Tryz.fd8_1.type = 3 := by kernel_rfl
theorem Tryz.fd8_1o : Tryz.fd8_1.offset = 1 := by kernel_rfl
theorem Tryz.fd8_1n : (Tryz.fd8_1.name = "_") = False := eq_false (by decide +kernel)
noncomputable def Tryz.fd8_2 : Field := match Tryz.prog.underlying 8 with | some (.struct fs) => fs.getD 2 default | _ => default
theorem Tryz.fd8_2t : Tryz.fd8_2.type = 4 := by kernel_rfl
theorem Tryz.fd8_2o : Tryz.fd8_2.offset = 2 := by kernel_rfl
theorem Tryz.fd8_2n : (Tryz.fd8_2.name = "_") = False := eq_false (by decide +kernel)
noncomputable def Tryz.fd8_3 : Field := match Tryz.prog.underlying 8 with | some (.struct fs) => fs.getD 3 default | _ => default
theorem Tryz.fd8_3t : Tryz.fd8_3.type = 6 := by kernel_rfl
theorem Tryz.fd8_3o : Tryz.fd8_3.offset = 3 := by kernel_rfl
theorem Tryz.fd8_3n : (Tryz.fd8_3.name = "_") = False := eq_false (by decide +kernel)
theorem Tryz.y8 : tyOf Tryz.prog 8 = some ⟨.struct #[Tryz.fd8_0, Tryz.fd8_1, Tryz.fd8_2, Tryz.fd8_3], 4, 24, .agg #[.int .i64 0, .int .i64 0, .bool false, .int .u8 0], true⟩ := by kernel_rfl
noncomputable def Tryz.fd13_0 : Field := match Tryz.prog.underlying 13 with | some (.struct fs) => fs.getD 0 default | _ => default
theorem Tryz.fd13_0t : Tryz.fd13_0.type = 9 := by kernel_rfl
theorem Tryz.fd13_0o : Tryz.fd13_0.offset = 0 := by kernel_rfl
theorem Tryz.fd13_0n : (Tryz.fd13_0.name = "_") = False := eq_false (by decide +kernel)
noncomputable def Tryz.fd13_1 : Field := match Tryz.prog.underlying 13 with | some (.struct fs) => fs.getD 1 default | _ => default
theorem Tryz.fd13_1t : Tryz.fd13_1.type = 12 := by kernel_rfl
theorem Tryz.fd13_1o : Tryz.fd13_1.offset = 1 := by kernel_rfl
theorem Tryz.fd13_1n : (Tryz.fd13_1.name = "_") = False := eq_false (by decide +kernel)
theorem Tryz.y13 : tyOf Tryz.prog 13 = some ⟨.struct #[Tryz.fd13_0, Tryz.fd13_1], 2, 24, .agg #[.string ⟨#[]⟩, .int .u64 0], false⟩ := by kernel_rfl
noncomputable def Tryz.fd14_0 : Field := match Tryz.prog.underlying 14 with | some (.struct fs) => fs.getD 0 default | _ => default
theorem Tryz.fd14_0t : Tryz.fd14_0.type = 9 := by kernel_rfl
theorem Tryz.fd14_0o : Tryz.fd14_0.offset = 0 := by kernel_rfl
theorem Tryz.fd14_0n : (Tryz.fd14_0.name = "_") = False := eq_false (by decide +kernel)
noncomputable def Tryz.fd14_1 : Field := match Tryz.prog.underlying 14 with | some (.struct fs) => fs.getD 1 default | _ => default
theorem Tryz.fd14_1t : Tryz.fd14_1.type = 12 := by kernel_rfl
theorem Tryz.fd14_1o : Tryz.fd14_1.offset = 1 := by kernel_rfl
theorem Tryz.fd14_1n : (Tryz.fd14_1.name = "_") = False := eq_false (by decide +kernel)
theorem Tryz.y14 : tyOf Tryz.prog 14 = some ⟨.struct #[Tryz.fd14_0, Tryz.fd14_1], 2, 24, .agg #[.string ⟨#[]⟩, .int .u64 0], false⟩ := by kernel_rfl
noncomputable def Tryz.fd18_0 : Field := match Tryz.prog.underlying 18 with | some (.struct fs) => fs.getD 0 default | _ => default
theorem Tryz.fd18_0t : Tryz.fd18_0.type = 17 := by kernel_rfl
theorem Tryz.fd18_0o : Tryz.fd18_0.offset = 0 := by kernel_rfl
theorem Tryz.fd18_0n : (Tryz.fd18_0.name = "_") = False := eq_false (by decide +kernel)
theorem Tryz.y18 : tyOf Tryz.prog 18 = some ⟨.struct #[Tryz.fd18_0], 1, 8, .agg #[.pointer none], false⟩ := by kernel_rfl
noncomputable def Tryz.fd19_0 : Field := match Tryz.prog.underlying 19 with | some (.struct fs) => fs.getD 0 default | _ => default
theorem Tryz.fd19_0t : Tryz.fd19_0.type = 17 := by kernel_rfl
theorem Tryz.fd19_0o : Tryz.fd19_0.offset = 0 := by kernel_rfl
theorem Tryz.fd19_0n : (Tryz.fd19_0.name = "_") = False := eq_false (by decide +kernel)
theorem Tryz.y19 : tyOf Tryz.prog 19 = some ⟨.struct #[Tryz.fd19_0], 1, 8, .agg #[.pointer none], false⟩ := by kernel_rfl
theorem Tryz.y23 : tyOf Tryz.prog 23 = some ⟨.array 2 22, 2, 2, .agg #[.int .i8 0, .int .i8 0], true⟩ := by kernel_rfl
noncomputable def Tryz.fd24_0 : Field := match Tryz.prog.underlying 24 with | some (.struct fs) => fs.getD 0 default | _ => default
theorem Tryz.fd24_0t : Tryz.fd24_0.type = 5 := by kernel_rfl
theorem Tryz.fd24_0o : Tryz.fd24_0.offset = 0 := by kernel_rfl
theorem Tryz.fd24_0n : (Tryz.fd24_0.name = "_") = False := eq_false (by decide +kernel)
noncomputable def Tryz.fd24_1 : Field := match Tryz.prog.underlying 24 with | some (.struct fs) => fs.getD 1 default | _ => default
theorem Tryz.fd24_1t : Tryz.fd24_1.type = 23 := by kernel_rfl
theorem Tryz.fd24_1o : Tryz.fd24_1.offset = 1 := by kernel_rfl
theorem Tryz.fd24_1n : (Tryz.fd24_1.name = "_") = False := eq_false (by decide +kernel)
noncomputable def Tryz.fd24_2 : Field := match Tryz.prog.underlying 24 with | some (.struct fs) => fs.getD 2 default | _ => default
theorem Tryz.fd24_2t : Tryz.fd24_2.type = 4 := by kernel_rfl
theorem Tryz.fd24_2o : Tryz.fd24_2.offset = 3 := by kernel_rfl
theorem Tryz.fd24_2n : (Tryz.fd24_2.name = "_") = False := eq_false (by decide +kernel)
theorem Tryz.y24 : tyOf Tryz.prog 24 = some ⟨.struct #[Tryz.fd24_0, Tryz.fd24_1, Tryz.fd24_2], 4, 4, .agg #[.int .u8 0, .int .i8 0, .int .i8 0, .bool false], true⟩ := by kernel_rfl
noncomputable def Tryz.fd25_0 : Field := match Tryz.prog.underlying 25 with | some (.struct fs) => fs.getD 0 default | _ => default
theorem Tryz.fd25_0t : Tryz.fd25_0.type = 5 := by kernel_rfl
theorem Tryz.fd25_0o : Tryz.fd25_0.offset = 0 := by kernel_rfl
theorem Tryz.fd25_0n : (Tryz.fd25_0.name = "_") = False := eq_false (by decide +kernel)
noncomputable def Tryz.fd25_1 : Field := match Tryz.prog.underlying 25 with | some (.struct fs) => fs.getD 1 default | _ => default
theorem Tryz.fd25_1t : Tryz.fd25_1.type = 23 := by kernel_rfl
theorem Tryz.fd25_1o : Tryz.fd25_1.offset = 1 := by kernel_rfl
theorem Tryz.fd25_1n : (Tryz.fd25_1.name = "_") = False := eq_false (by decide +kernel)
noncomputable def Tryz.fd25_2 : Field := match Tryz.prog.underlying 25 with | some (.struct fs) => fs.getD 2 default | _ => default
theorem Tryz.fd25_2t : Tryz.fd25_2.type = 4 := by kernel_rfl
theorem Tryz.fd25_2o : Tryz.fd25_2.offset = 3 := by kernel_rfl
theorem Tryz.fd25_2n : (Tryz.fd25_2.name = "_") = False := eq_false (by decide +kernel)
theorem Tryz.y25 : tyOf Tryz.prog 25 = some ⟨.struct #[Tryz.fd25_0, Tryz.fd25_1, Tryz.fd25_2], 4, 4, .agg #[.int .u8 0, .int .i8 0, .int .i8 0, .bool false], true⟩ := by kernel_rfl
noncomputable def Tryz.fd27_0 : Field := match Tryz.prog.underlying 27 with | some (.struct fs) => fs.getD 0 default | _ => default
theorem Tryz.fd27_0t : Tryz.fd27_0.type = 25 := by kernel_rfl
theorem Tryz.fd27_0o : Tryz.fd27_0.offset = 0 := by kernel_rfl
theorem Tryz.fd27_0n : (Tryz.fd27_0.name = "_") = False := eq_false (by decide +kernel)
noncomputable def Tryz.fd27_1 : Field := match Tryz.prog.underlying 27 with | some (.struct fs) => fs.getD 1 default | _ => default
theorem Tryz.fd27_1t : Tryz.fd27_1.type = 26 := by kernel_rfl
theorem Tryz.fd27_1o : Tryz.fd27_1.offset = 4 := by kernel_rfl
theorem Tryz.fd27_1n : (Tryz.fd27_1.name = "_") = False := eq_false (by decide +kernel)
theorem Tryz.y27 : tyOf Tryz.prog 27 = some ⟨.struct #[Tryz.fd27_0, Tryz.fd27_1], 5, 32, .agg #[.int .u8 0, .int .i8 0, .int .i8 0, .bool false, .slice none 0 0], true⟩ := by kernel_rfl
noncomputable def Tryz.fd28_0 : Field := match Tryz.prog.underlying 28 with | some (.struct fs) => fs.getD 0 default | _ => default
theorem Tryz.fd28_0t : Tryz.fd28_0.type = 25 := by kernel_rfl
theorem Tryz.fd28_0o : Tryz.fd28_0.offset = 0 := by kernel_rfl
theorem Tryz.fd28_0n : (Tryz.fd28_0.name = "_") = False := eq_false (by decide +kernel)
noncomputable def Tryz.fd28_1 : Field := match Tryz.prog.underlying 28 with | some (.struct fs) => fs.getD 1 default | _ => default
theorem Tryz.fd28_1t : Tryz.fd28_1.type = 26 := by kernel_rfl
theorem Tryz.fd28_1o : Tryz.fd28_1.offset = 4 := by kernel_rfl
theorem Tryz.fd28_1n : (Tryz.fd28_1.name = "_") = False := eq_false (by decide +kernel)
theorem Tryz.y28 : tyOf Tryz.prog 28 = some ⟨.struct #[Tryz.fd28_0, Tryz.fd28_1], 5, 32, .agg #[.int .u8 0, .int .i8 0, .int .i8 0, .bool false, .slice none 0 0], true⟩ := by kernel_rfl
noncomputable def Tryz.fd33_0 : Field := match Tryz.prog.underlying 33 with | some (.struct fs) => fs.getD 0 default | _ => default
theorem Tryz.fd33_0t : Tryz.fd33_0.type = 31 := by kernel_rfl
theorem Tryz.fd33_0o : Tryz.fd33_0.offset = 0 := by kernel_rfl
theorem Tryz.fd33_0n : (Tryz.fd33_0.name = "_") = False := eq_false (by decide +kernel)
noncomputable def Tryz.fd33_1 : Field := match Tryz.prog.underlying 33 with | some (.struct fs) => fs.getD 1 default | _ => default
theorem Tryz.fd33_1t : Tryz.fd33_1.type = 32 := by kernel_rfl
theorem Tryz.fd33_1o : Tryz.fd33_1.offset = 1 := by kernel_rfl
theorem Tryz.fd33_1n : (Tryz.fd33_1.name = "_") = False := eq_false (by decide +kernel)
theorem Tryz.y33 : tyOf Tryz.prog 33 = some ⟨.struct #[Tryz.fd33_0, Tryz.fd33_1], 2, 48, .agg #[.slice none 0 0, .slice none 0 0], true⟩ := by kernel_rfl
noncomputable def Tryz.fd34_0 : Field := match Tryz.prog.underlying 34 with | some (.struct fs) => fs.getD 0 default | _ => default
theorem Tryz.fd34_0t : Tryz.fd34_0.type = 31 := by kernel_rfl
theorem Tryz.fd34_0o : Tryz.fd34_0.offset = 0 := by kernel_rfl
theorem Tryz.fd34_0n : (Tryz.fd34_0.name = "_") = False := eq_false (by decide +kernel)
noncomputable def Tryz.fd34_1 : Field := match Tryz.prog.underlying 34 with | some (.struct fs) => fs.getD 1 default | _ => default
theorem Tryz.fd34_1t : Tryz.fd34_1.type = 32 := by kernel_rfl
theorem Tryz.fd34_1o : Tryz.fd34_1.offset = 1 := by kernel_rfl
theorem Tryz.fd34_1n : (Tryz.fd34_1.name = "_") = False := eq_false (by decide +kernel)
theorem Tryz.y34 : tyOf Tryz.prog 34 = some ⟨.struct #[Tryz.fd34_0, Tryz.fd34_1], 2, 48, .agg #[.slice none 0 0, .slice none 0 0], true⟩ := by kernel_rfl
noncomputable def Tryz.fd36_0 : Field := match Tryz.prog.underlying 36 with | some (.struct fs) => fs.getD 0 default | _ => default
theorem Tryz.fd36_0t : Tryz.fd36_0.type = 34 := by kernel_rfl
theorem Tryz.fd36_0o : Tryz.fd36_0.offset = 0 := by kernel_rfl
theorem Tryz.fd36_0n : (Tryz.fd36_0.name = "_") = False := eq_false (by decide +kernel)
noncomputable def Tryz.fd36_1 : Field := match Tryz.prog.underlying 36 with | some (.struct fs) => fs.getD 1 default | _ => default
theorem Tryz.fd36_1t : Tryz.fd36_1.type = 9 := by kernel_rfl
theorem Tryz.fd36_1o : Tryz.fd36_1.offset = 2 := by kernel_rfl
theorem Tryz.fd36_1n : (Tryz.fd36_1.name = "_") = False := eq_false (by decide +kernel)
noncomputable def Tryz.fd36_2 : Field := match Tryz.prog.underlying 36 with | some (.struct fs) => fs.getD 2 default | _ => default
theorem Tryz.fd36_2t : Tryz.fd36_2.type = 35 := by kernel_rfl
theorem Tryz.fd36_2o : Tryz.fd36_2.offset = 3 := by kernel_rfl
theorem Tryz.fd36_2n : (Tryz.fd36_2.name = "_") = False := eq_false (by decide +kernel)
theorem Tryz.y36 : tyOf Tryz.prog 36 = some ⟨.struct #[Tryz.fd36_0, Tryz.fd36_1, Tryz.fd36_2], 4, 88, .agg #[.slice none 0 0, .slice none 0 0, .string ⟨#[]⟩, .slice none 0 0], true⟩ := by kernel_rfl
noncomputable def Tryz.fd37_0 : Field := match Tryz.prog.underlying 37 with | some (.struct fs) => fs.getD 0 default | _ => default
theorem Tryz.fd37_0t : Tryz.fd37_0.type = 34 := by kernel_rfl
theorem Tryz.fd37_0o : Tryz.fd37_0.offset = 0 := by kernel_rfl
theorem Tryz.fd37_0n : (Tryz.fd37_0.name = "_") = False := eq_false (by decide +kernel)
noncomputable def Tryz.fd37_1 : Field := match Tryz.prog.underlying 37 with | some (.struct fs) => fs.getD 1 default | _ => default
theorem Tryz.fd37_1t : Tryz.fd37_1.type = 9 := by kernel_rfl
theorem Tryz.fd37_1o : Tryz.fd37_1.offset = 2 := by kernel_rfl
theorem Tryz.fd37_1n : (Tryz.fd37_1.name = "_") = False := eq_false (by decide +kernel)
noncomputable def Tryz.fd37_2 : Field := match Tryz.prog.underlying 37 with | some (.struct fs) => fs.getD 2 default | _ => default
theorem Tryz.fd37_2t : Tryz.fd37_2.type = 35 := by kernel_rfl
theorem Tryz.fd37_2o : Tryz.fd37_2.offset = 3 := by kernel_rfl
theorem Tryz.fd37_2n : (Tryz.fd37_2.name = "_") = False := eq_false (by decide +kernel)
theorem Tryz.y37 : tyOf Tryz.prog 37 = some ⟨.struct #[Tryz.fd37_0, Tryz.fd37_1, Tryz.fd37_2], 4, 88, .agg #[.slice none 0 0, .slice none 0 0, .string ⟨#[]⟩, .slice none 0 0], true⟩ := by kernel_rfl
noncomputable def Tryz.fd53_0 : Field := match Tryz.prog.underlying 53 with | some (.struct fs) => fs.getD 0 default | _ => default
theorem Tryz.fd53_0t : Tryz.fd53_0.type = 51 := by kernel_rfl
theorem Tryz.fd53_0o : Tryz.fd53_0.offset = 0 := by kernel_rfl
theorem Tryz.fd53_0n : (Tryz.fd53_0.name = "_") = False := eq_false (by decide +kernel)
noncomputable def Tryz.fd53_1 : Field := match Tryz.prog.underlying 53 with | some (.struct fs) => fs.getD 1 default | _ => default
theorem Tryz.fd53_1t : Tryz.fd53_1.type = 39 := by kernel_rfl
theorem Tryz.fd53_1o : Tryz.fd53_1.offset = 1 := by kernel_rfl
theorem Tryz.fd53_1n : (Tryz.fd53_1.name = "_") = False := eq_false (by decide +kernel)
noncomputable def Tryz.fd53_2 : Field := match Tryz.prog.underlying 53 with | some (.struct fs) => fs.getD 2 default | _ => default
theorem Tryz.fd53_2t : Tryz.fd53_2.type = 52 := by kernel_rfl
theorem Tryz.fd53_2o : Tryz.fd53_2.offset = 2 := by kernel_rfl
theorem Tryz.fd53_2n : (Tryz.fd53_2.name = "_") = False := eq_false (by decide +kernel)
theorem Tryz.y53 : tyOf Tryz.prog 53 = some ⟨.struct #[Tryz.fd53_0, Tryz.fd53_1, Tryz.fd53_2], 3, 72, .agg #[.slice none 0 0, .slice none 0 0, .slice none 0 0], true⟩ := by kernel_rfl
noncomputable def Tryz.fd54_0 : Field := match Tryz.prog.underlying 54 with | some (.struct fs) => fs.getD 0 default | _ => default
theorem Tryz.fd54_0t : Tryz.fd54_0.type = 51 := by kernel_rfl
theorem Tryz.fd54_0o : Tryz.fd54_0.offset = 0 := by kernel_rfl
theorem Tryz.fd54_0n : (Tryz.fd54_0.name = "_") = False := eq_false (by decide +kernel)
noncomputable def Tryz.fd54_1 : Field := match Tryz.prog.underlying 54 with | some (.struct fs) => fs.getD 1 default | _ => default
theorem Tryz.fd54_1t : Tryz.fd54_1.type = 39 := by kernel_rfl
theorem Tryz.fd54_1o : Tryz.fd54_1.offset = 1 := by kernel_rfl
theorem Tryz.fd54_1n : (Tryz.fd54_1.name = "_") = False := eq_false (by decide +kernel)
noncomputable def Tryz.fd54_2 : Field := match Tryz.prog.underlying 54 with | some (.struct fs) => fs.getD 2 default | _ => default
theorem Tryz.fd54_2t : Tryz.fd54_2.type = 52 := by kernel_rfl
theorem Tryz.fd54_2o : Tryz.fd54_2.offset = 2 := by kernel_rfl
theorem Tryz.fd54_2n : (Tryz.fd54_2.name = "_") = False := eq_false (by decide +kernel)
theorem Tryz.y54 : tyOf Tryz.prog 54 = some ⟨.struct #[Tryz.fd54_0, Tryz.fd54_1, Tryz.fd54_2], 3, 72, .agg #[.slice none 0 0, .slice none 0 0, .slice none 0 0], true⟩ := by kernel_rfl
noncomputable def Tryz.fd56_0 : Field := match Tryz.prog.underlying 56 with | some (.struct fs) => fs.getD 0 default | _ => default
theorem Tryz.fd56_0t : Tryz.fd56_0.type = 55 := by kernel_rfl
theorem Tryz.fd56_0o : Tryz.fd56_0.offset = 0 := by kernel_rfl
theorem Tryz.fd56_0n : (Tryz.fd56_0.name = "_") = False := eq_false (by decide +kernel)
noncomputable def Tryz.fd56_1 : Field := match Tryz.prog.underlying 56 with | some (.struct fs) => fs.getD 1 default | _ => default
theorem Tryz.fd56_1t : Tryz.fd56_1.type = 55 := by kernel_rfl
theorem Tryz.fd56_1o : Tryz.fd56_1.offset = 1 := by kernel_rfl
theorem Tryz.fd56_1n : (Tryz.fd56_1.name = "_") = False := eq_false (by decide +kernel)
noncomputable def Tryz.fd56_2 : Field := match Tryz.prog.underlying 56 with | some (.struct fs) => fs.getD 2 default | _ => default
theorem Tryz.fd56_2t : Tryz.fd56_2.type = 55 := by kernel_rfl
theorem Tryz.fd56_2o : Tryz.fd56_2.offset = 2 := by kernel_rfl
theorem Tryz.fd56_2n : (Tryz.fd56_2.name = "_") = False := eq_false (by decide +kernel)
theorem Tryz.y56 : tyOf Tryz.prog 56 = some ⟨.struct #[Tryz.fd56_0, Tryz.fd56_1, Tryz.fd56_2], 3, 48, .agg #[.string ⟨#[]⟩, .string ⟨#[]⟩, .string ⟨#[]⟩], true⟩ := by kernel_rfl
noncomputable def Tryz.fd57_0 : Field := match Tryz.prog.underlying 57 with | some (.struct fs) => fs.getD 0 default | _ => default
theorem Tryz.fd57_0t : Tryz.fd57_0.type = 55 := by kernel_rfl
theorem Tryz.fd57_0o : Tryz.fd57_0.offset = 0 := by kernel_rfl
theorem Tryz.fd57_0n : (Tryz.fd57_0.name = "_") = False := eq_false (by decide +kernel)
noncomputable def Tryz.fd57_1 : Field := match Tryz.prog.underlying 57 with | some (.struct fs) => fs.getD 1 default | _ => default
theorem Tryz.fd57_1t : Tryz.fd57_1.type = 55 := by kernel_rfl
theorem Tryz.fd57_1o : Tryz.fd57_1.offset = 1 := by kernel_rfl
theorem Tryz.fd57_1n : (Tryz.fd57_1.name = "_") = False := eq_false (by decide +kernel)
noncomputable def Tryz.fd57_2 : Field := match Tryz.prog.underlying 57 with | some (.struct fs) => fs.getD 2 default | _ => default
theorem Tryz.fd57_2t : Tryz.fd57_2.type = 55 := by kernel_rfl
theorem Tryz.fd57_2o : Tryz.fd57_2.offset = 2 := by kernel_rfl
theorem Tryz.fd57_2n : (Tryz.fd57_2.name = "_") = False := eq_false (by decide +kernel)
theorem Tryz.y57 : tyOf Tryz.prog 57 = some ⟨.struct #[Tryz.fd57_0, Tryz.fd57_1, Tryz.fd57_2], 3, 48, .agg #[.string ⟨#[]⟩, .string ⟨#[]⟩, .string ⟨#[]⟩], true⟩ := by kernel_rfl
noncomputable def Tryz.fd58_0 : Field := match Tryz.prog.underlying 58 with | some (.struct fs) => fs.getD 0 default | _ => default
theorem Tryz.fd58_0t : Tryz.fd58_0.type = 57 := by kernel_rfl
theorem Tryz.fd58_0o : Tryz.fd58_0.offset = 0 := by kernel_rfl
theorem Tryz.fd58_0n : (Tryz.fd58_0.name = "_") = False := eq_false (by decide +kernel)
noncomputable def Tryz.fd58_1 : Field := match Tryz.prog.underlying 58 with | some (.struct fs) => fs.getD 1 default | _ => default
theorem Tryz.fd58_1t : Tryz.fd58_1.type = 55 := by kernel_rfl
theorem Tryz.fd58_1o : Tryz.fd58_1.offset = 3 := by kernel_rfl
theorem Tryz.fd58_1n : (Tryz.fd58_1.name = "_") = False := eq_false (by decide +kernel)
theorem Tryz.y58 : tyOf Tryz.prog 58 = some ⟨.struct #[Tryz.fd58_0, Tryz.fd58_1], 4, 64, .agg #[.string ⟨#[]⟩, .string ⟨#[]⟩, .string ⟨#[]⟩, .string ⟨#[]⟩], true⟩ := by kernel_rfl
noncomputable def Tryz.fd59_0 : Field := match Tryz.prog.underlying 59 with | some (.struct fs) => fs.getD 0 default | _ => default
theorem Tryz.fd59_0t : Tryz.fd59_0.type = 57 := by kernel_rfl
theorem Tryz.fd59_0o : Tryz.fd59_0.offset = 0 := by kernel_rfl
theorem Tryz.fd59_0n : (Tryz.fd59_0.name = "_") = False := eq_false (by decide +kernel)
noncomputable def Tryz.fd59_1 : Field := match Tryz.prog.underlying 59 with | some (.struct fs) => fs.getD 1 default | _ => default
theorem Tryz.fd59_1t : Tryz.fd59_1.type = 55 := by kernel_rfl
theorem Tryz.fd59_1o : Tryz.fd59_1.offset = 3 := by kernel_rfl
theorem Tryz.fd59_1n : (Tryz.fd59_1.name = "_") = False := eq_false (by decide +kernel)
theorem Tryz.y59 : tyOf Tryz.prog 59 = some ⟨.struct #[Tryz.fd59_0, Tryz.fd59_1], 4, 64, .agg #[.string ⟨#[]⟩, .string ⟨#[]⟩, .string ⟨#[]⟩, .string ⟨#[]⟩], true⟩ := by kernel_rfl
noncomputable def Tryz.fd60_0 : Field := match Tryz.prog.underlying 60 with | some (.struct fs) => fs.getD 0 default | _ => default
theorem Tryz.fd60_0t : Tryz.fd60_0.type = 59 := by kernel_rfl
theorem Tryz.fd60_0o : Tryz.fd60_0.offset = 0 := by kernel_rfl
theorem Tryz.fd60_0n : (Tryz.fd60_0.name = "_") = False := eq_false (by decide +kernel)
noncomputable def Tryz.fd60_1 : Field := match Tryz.prog.underlying 60 with | some (.struct fs) => fs.getD 1 default | _ => default
theorem Tryz.fd60_1t : Tryz.fd60_1.type = 57 := by kernel_rfl
theorem Tryz.fd60_1o : Tryz.fd60_1.offset = 4 := by kernel_rfl
theorem Tryz.fd60_1n : (Tryz.fd60_1.name = "_") = False := eq_false (by decide +kernel)
theorem Tryz.y60 : tyOf Tryz.prog 60 = some ⟨.struct #[Tryz.fd60_0, Tryz.fd60_1], 7, 112, .agg #[.string ⟨#[]⟩, .string ⟨#[]⟩, .string ⟨#[]⟩, .string ⟨#[]⟩, .string ⟨#[]⟩, .string ⟨#[]⟩, .string ⟨#[]⟩], true⟩ := by kernel_rfl
noncomputable def Tryz.fd61_0 : Field := match Tryz.prog.underlying 61 with | some (.struct fs) => fs.getD 0 default | _ => default
theorem Tryz.fd61_0t : Tryz.fd61_0.type = 59 := by kernel_rfl
theorem Tryz.fd61_0o : Tryz.fd61_0.offset = 0 := by kernel_rfl
theorem Tryz.fd61_0n : (Tryz.fd61_0.name = "_") = False := eq_false (by decide +kernel)
noncomputable def Tryz.fd61_1 : Field := match Tryz.prog.underlying 61 with | some (.struct fs) => fs.getD 1 default | _ => default
theorem Tryz.fd61_1t : Tryz.fd61_1.type = 57 := by kernel_rfl
theorem Tryz.fd61_1o : Tryz.fd61_1.offset = 4 := by kernel_rfl
theorem Tryz.fd61_1n : (Tryz.fd61_1.name = "_") = False := eq_false (by decide +kernel)
theorem Tryz.y61 : tyOf Tryz.prog 61 = some ⟨.struct #[Tryz.fd61_0, Tryz.fd61_1], 7, 112, .agg #[.string ⟨#[]⟩, .string ⟨#[]⟩, .string ⟨#[]⟩, .string ⟨#[]⟩, .string ⟨#[]⟩, .string ⟨#[]⟩, .string ⟨#[]⟩], true⟩ := by kernel_rfl
noncomputable def Tryz.fd63_0 : Field := match Tryz.prog.underlying 63 with | some (.struct fs) => fs.getD 0 default | _ => default
theorem Tryz.fd63_0t : Tryz.fd63_0.type = 57 := by kernel_rfl
theorem Tryz.fd63_0o : Tryz.fd63_0.offset = 0 := by kernel_rfl
theorem Tryz.fd63_0n : (Tryz.fd63_0.name = "_") = False := eq_false (by decide +kernel)
noncomputable def Tryz.fd63_1 : Field := match Tryz.prog.underlying 63 with | some (.struct fs) => fs.getD 1 default | _ => default
theorem Tryz.fd63_1t : Tryz.fd63_1.type = 62 := by kernel_rfl
theorem Tryz.fd63_1o : Tryz.fd63_1.offset = 3 := by kernel_rfl
theorem Tryz.fd63_1n : (Tryz.fd63_1.name = "_") = False := eq_false (by decide +kernel)
noncomputable def Tryz.fd63_2 : Field := match Tryz.prog.underlying 63 with | some (.struct fs) => fs.getD 2 default | _ => default
theorem Tryz.fd63_2t : Tryz.fd63_2.type = 57 := by kernel_rfl
theorem Tryz.fd63_2o : Tryz.fd63_2.offset = 4 := by kernel_rfl
theorem Tryz.fd63_2n : (Tryz.fd63_2.name = "_") = False := eq_false (by decide +kernel)
theorem Tryz.y63 : tyOf Tryz.prog 63 = some ⟨.struct #[Tryz.fd63_0, Tryz.fd63_1, Tryz.fd63_2], 7, 120, .agg #[.string ⟨#[]⟩, .string ⟨#[]⟩, .string ⟨#[]⟩, .slice none 0 0, .string ⟨#[]⟩, .string ⟨#[]⟩, .string ⟨#[]⟩], true⟩ := by kernel_rfl
noncomputable def Tryz.fd64_0 : Field := match Tryz.prog.underlying 64 with | some (.struct fs) => fs.getD 0 default | _ => default
theorem Tryz.fd64_0t : Tryz.fd64_0.type = 57 := by kernel_rfl
theorem Tryz.fd64_0o : Tryz.fd64_0.offset = 0 := by kernel_rfl
theorem Tryz.fd64_0n : (Tryz.fd64_0.name = "_") = False := eq_false (by decide +kernel)
noncomputable def Tryz.fd64_1 : Field := match Tryz.prog.underlying 64 with | some (.struct fs) => fs.getD 1 default | _ => default
theorem Tryz.fd64_1t : Tryz.fd64_1.type = 62 := by kernel_rfl
theorem Tryz.fd64_1o : Tryz.fd64_1.offset = 3 := by kernel_rfl
theorem Tryz.fd64_1n : (Tryz.fd64_1.name = "_") = False := eq_false (by decide +kernel)
noncomputable def Tryz.fd64_2 : Field := match Tryz.prog.underlying 64 with | some (.struct fs) => fs.getD 2 default | _ => default
theorem Tryz.fd64_2t : Tryz.fd64_2.type = 57 := by kernel_rfl
theorem Tryz.fd64_2o : Tryz.fd64_2.offset = 4 := by kernel_rfl
theorem Tryz.fd64_2n : (Tryz.fd64_2.name = "_") = False := eq_false (by decide +kernel)
theorem Tryz.y64 : tyOf Tryz.prog 64 = some ⟨.struct #[Tryz.fd64_0, Tryz.fd64_1, Tryz.fd64_2], 7, 120, .agg #[.string ⟨#[]⟩, .string ⟨#[]⟩, .string ⟨#[]⟩, .slice none 0 0, .string ⟨#[]⟩, .string ⟨#[]⟩, .string ⟨#[]⟩], true⟩ := by kernel_rfl
noncomputable def Tryz.fd65_0 : Field := match Tryz.prog.underlying 65 with | some (.struct fs) => fs.getD 0 default | _ => default
theorem Tryz.fd65_0t : Tryz.fd65_0.type = 59 := by kernel_rfl
theorem Tryz.fd65_0o : Tryz.fd65_0.offset = 0 := by kernel_rfl
theorem Tryz.fd65_0n : (Tryz.fd65_0.name = "_") = False := eq_false (by decide +kernel)
noncomputable def Tryz.fd65_1 : Field := match Tryz.prog.underlying 65 with | some (.struct fs) => fs.getD 1 default | _ => default
theorem Tryz.fd65_1t : Tryz.fd65_1.type = 55 := by kernel_rfl
theorem Tryz.fd65_1o : Tryz.fd65_1.offset = 4 := by kernel_rfl
theorem Tryz.fd65_1n : (Tryz.fd65_1.name = "_") = False := eq_false (by decide +kernel)
noncomputable def Tryz.fd65_2 : Field := match Tryz.prog.underlying 65 with | some (.struct fs) => fs.getD 2 default | _ => default
theorem Tryz.fd65_2t : Tryz.fd65_2.type = 9 := by kernel_rfl
theorem Tryz.fd65_2o : Tryz.fd65_2.offset = 5 := by kernel_rfl
theorem Tryz.fd65_2n : (Tryz.fd65_2.name = "_") = False := eq_false (by decide +kernel)
theorem Tryz.y65 : tyOf Tryz.prog 65 = some ⟨.struct #[Tryz.fd65_0, Tryz.fd65_1, Tryz.fd65_2], 6, 96, .agg #[.string ⟨#[]⟩, .string ⟨#[]⟩, .string ⟨#[]⟩, .string ⟨#[]⟩, .string ⟨#[]⟩, .string ⟨#[]⟩], true⟩ := by kernel_rfl
noncomputable def Tryz.fd66_0 : Field := match Tryz.prog.underlying 66 with | some (.struct fs) => fs.getD 0 default | _ => default
theorem Tryz.fd66_0t : Tryz.fd66_0.type = 59 := by kernel_rfl
theorem Tryz.fd66_0o : Tryz.fd66_0.offset = 0 := by kernel_rfl
theorem Tryz.fd66_0n : (Tryz.fd66_0.name = "_") = False := eq_false (by decide +kernel)
noncomputable def Tryz.fd66_1 : Field := match Tryz.prog.underlying 66 with | some (.struct fs) => fs.getD 1 default | _ => default
theorem Tryz.fd66_1t : Tryz.fd66_1.type = 55 := by kernel_rfl
theorem Tryz.fd66_1o : Tryz.fd66_1.offset = 4 := by kernel_rfl
theorem Tryz.fd66_1n : (Tryz.fd66_1.name = "_") = False := eq_false (by decide +kernel)
noncomputable def Tryz.fd66_2 : Field := match Tryz.prog.underlying 66 with | some (.struct fs) => fs.getD 2 default | _ => default
theorem Tryz.fd66_2t : Tryz.fd66_2.type = 9 := by kernel_rfl
theorem Tryz.fd66_2o : Tryz.fd66_2.offset = 5 := by kernel_rfl
theorem Tryz.fd66_2n : (Tryz.fd66_2.name = "_") = False := eq_false (by decide +kernel)
theorem Tryz.y66 : tyOf Tryz.prog 66 = some ⟨.struct #[Tryz.fd66_0, Tryz.fd66_1, Tryz.fd66_2], 6, 96, .agg #[.string ⟨#[]⟩, .string ⟨#[]⟩, .string ⟨#[]⟩, .string ⟨#[]⟩, .string ⟨#[]⟩, .string ⟨#[]⟩], true⟩ := by kernel_rfl
theorem Tryz.y67 : tyOf Tryz.prog 67 = some ⟨.array 4 3, 4, 32, .agg #[.int .i64 0, .int .i64 0, .int .i64 0, .int .i64 0], true⟩ := by kernel_rfl
noncomputable def Tryz.fd68_0 : Field := match Tryz.prog.underlying 68 with | some (.struct fs) => fs.getD 0 default | _ => default
theorem Tryz.fd68_0t : Tryz.fd68_0.type = 67 := by kernel_rfl
theorem Tryz.fd68_0o : Tryz.fd68_0.offset = 0 := by kernel_rfl
theorem Tryz.fd68_0n : (Tryz.fd68_0.name = "_") = False := eq_false (by decide +kernel)
noncomputable def Tryz.fd68_1 : Field := match Tryz.prog.underlying 68 with | some (.struct fs) => fs.getD 1 default | _ => default
theorem Tryz.fd68_1t : Tryz.fd68_1.type = 57 := by kernel_rfl
theorem Tryz.fd68_1o : Tryz.fd68_1.offset = 4 := by kernel_rfl
theorem Tryz.fd68_1n : (Tryz.fd68_1.name = "_") = False := eq_false (by decide +kernel)
theorem Tryz.y68 : tyOf Tryz.prog 68 = some ⟨.struct #[Tryz.fd68_0, Tryz.fd68_1], 7, 80, .agg #[.int .i64 0, .int .i64 0, .int .i64 0, .int .i64 0, .string ⟨#[]⟩, .string ⟨#[]⟩, .string ⟨#[]⟩], true⟩ := by kernel_rfl
noncomputable def Tryz.fd69_0 : Field := match Tryz.prog.underlying 69 with | some (.struct fs) => fs.getD 0 default | _ => default
theorem Tryz.fd69_0t : Tryz.fd69_0.type = 67 := by kernel_rfl
theorem Tryz.fd69_0o : Tryz.fd69_0.offset = 0 := by kernel_rfl
theorem Tryz.fd69_0n : (Tryz.fd69_0.name = "_") = False := eq_false (by decide +kernel)
noncomputable def Tryz.fd69_1 : Field := match Tryz.prog.underlying 69 with | some (.struct fs) => fs.getD 1 default | _ => default
theorem Tryz.fd69_1t : Tryz.fd69_1.type = 57 := by kernel_rfl
theorem Tryz.fd69_1o : Tryz.fd69_1.offset = 4 := by kernel_rfl
theorem Tryz.fd69_1n : (Tryz.fd69_1.name = "_") = False := eq_false (by decide +kernel)
theorem Tryz.y69 : tyOf Tryz.prog 69 = some ⟨.struct #[Tryz.fd69_0, Tryz.fd69_1], 7, 80, .agg #[.int .i64 0, .int .i64 0, .int .i64 0, .int .i64 0, .string ⟨#[]⟩, .string ⟨#[]⟩, .string ⟨#[]⟩], true⟩ := by kernel_rfl
noncomputable def Tryz.fd70_0 : Field := match Tryz.prog.underlying 70 with | some (.struct fs) => fs.getD 0 default | _ => default
theorem Tryz.fd70_0t : Tryz.fd70_0.type = 3 := by kernel_rfl
theorem Tryz.fd70_0o : Tryz.fd70_0.offset = 0 := by kernel_rfl
theorem Tryz.fd70_0n : (Tryz.fd70_0.name = "_") = False := eq_false (by decide +kernel)
noncomputable def Tryz.fd70_1 : Field := match Tryz.prog.underlying 70 with | some (.struct fs) => fs.getD 1 default | _ => default
theorem Tryz.fd70_1t : Tryz.fd70_1.type = 9 := by kernel_rfl
theorem Tryz.fd70_1o : Tryz.fd70_1.offset = 1 := by kernel_rfl
theorem Tryz.fd70_1n : (Tryz.fd70_1.name = "_") = False := eq_false (by decide +kernel)
noncomputable def Tryz.fd70_2 : Field := match Tryz.prog.underlying 70 with | some (.struct fs) => fs.getD 2 default | _ => default
theorem Tryz.fd70_2t : Tryz.fd70_2.type = 54 := by kernel_rfl
theorem Tryz.fd70_2o : Tryz.fd70_2.offset = 2 := by kernel_rfl
theorem Tryz.fd70_2n : (Tryz.fd70_2.name = "_") = False := eq_false (by decide +kernel)
noncomputable def Tryz.fd70_3 : Field := match Tryz.prog.underlying 70 with | some (.struct fs) => fs.getD 3 default | _ => default
theorem Tryz.fd70_3t : Tryz.fd70_3.type = 61 := by kernel_rfl
theorem Tryz.fd70_3o : Tryz.fd70_3.offset = 5 := by kernel_rfl
theorem Tryz.fd70_3n : (Tryz.fd70_3.name = "_") = False := eq_false (by decide +kernel)
noncomputable def Tryz.fd70_4 : Field := match Tryz.prog.underlying 70 with | some (.struct fs) => fs.getD 4 default | _ => default
theorem Tryz.fd70_4t : Tryz.fd70_4.type = 64 := by kernel_rfl
theorem Tryz.fd70_4o : Tryz.fd70_4.offset = 12 := by kernel_rfl
theorem Tryz.fd70_4n : (Tryz.fd70_4.name = "_") = False := eq_false (by decide +kernel)
noncomputable def Tryz.fd70_5 : Field := match Tryz.prog.underlying 70 with | some (.struct fs) => fs.getD 5 default | _ => default
theorem Tryz.fd70_5t : Tryz.fd70_5.type = 66 := by kernel_rfl
theorem Tryz.fd70_5o : Tryz.fd70_5.offset = 19 := by kernel_rfl
theorem Tryz.fd70_5n : (Tryz.fd70_5.name = "_") = False := eq_false (by decide +kernel)
noncomputable def Tryz.fd70_6 : Field := match Tryz.prog.underlying 70 with | some (.struct fs) => fs.getD 6 default | _ => default
theorem Tryz.fd70_6t : Tryz.fd70_6.type = 69 := by kernel_rfl
theorem Tryz.fd70_6o : Tryz.fd70_6.offset = 25 := by kernel_rfl
theorem Tryz.fd70_6n : (Tryz.fd70_6.name = "_") = False := eq_false (by decide +kernel)
theorem Tryz.y70 : tyOf Tryz.prog 70 = some ⟨.struct #[Tryz.fd70_0, Tryz.fd70_1, Tryz.fd70_2, Tryz.fd70_3, Tryz.fd70_4, Tryz.fd70_5, Tryz.fd70_6], 32, 504, .agg #[.int .i64 0, .string ⟨#[]⟩, .slice none 0 0, .slice none 0 0, .slice none 0 0, .string ⟨#[]⟩, .string ⟨#[]⟩, .string ⟨#[]⟩, .string ⟨#[]⟩, .string ⟨#[]⟩, .string ⟨#[]⟩, .string ⟨#[]⟩, .string ⟨#[]⟩, .string ⟨#[]⟩, .string ⟨#[]⟩, .slice none 0 0, .string ⟨#[]⟩, .string ⟨#[]⟩, .string ⟨#[]⟩, .string ⟨#[]⟩, .string ⟨#[]⟩, .string ⟨#[]⟩, .string ⟨#[]⟩, .string ⟨#[]⟩, .string ⟨#[]⟩, .int .i64 0, .int .i64 0, .int .i64 0, .int .i64 0, .string ⟨#[]⟩, .string ⟨#[]⟩, .string ⟨#[]⟩], true⟩ := by kernel_rfl
noncomputable def Tryz.fd71_0 : Field := match Tryz.prog.underlying 71 with | some (.struct fs) => fs.getD 0 default | _ => default
theorem Tryz.fd71_0t : Tryz.fd71_0.type = 3 := by kernel_rfl
theorem Tryz.fd71_0o : Tryz.fd71_0.offset = 0 := by kernel_rfl
theorem Tryz.fd71_0n : (Tryz.fd71_0.name = "_") = False := eq_false (by decide +kernel)
noncomputable def Tryz.fd71_1 : Field := match Tryz.prog.underlying 71 with | some (.struct fs) => fs.getD 1 default | _ => default
theorem Tryz.fd71_1t : Tryz.fd71_1.type = 9 := by kernel_rfl
theorem Tryz.fd71_1o : Tryz.fd71_1.offset = 1 := by kernel_rfl
theorem Tryz.fd71_1n : (Tryz.fd71_1.name = "_") = False := eq_false (by decide +kernel)
noncomputable def Tryz.fd71_2 : Field := match Tryz.prog.underlying 71 with | some (.struct fs) => fs.getD 2 default | _ => default
theorem Tryz.fd71_2t : Tryz.fd71_2.type = 54 := by kernel_rfl
theorem Tryz.fd71_2o : Tryz.fd71_2.offset = 2 := by kernel_rfl
theorem Tryz.fd71_2n : (Tryz.fd71_2.name = "_") = False := eq_false (by decide +kernel)
noncomputable def Tryz.fd71_3 : Field := match Tryz.prog.underlying 71 with | some (.struct fs) => fs.getD 3 default | _ => default
theorem Tryz.fd71_3t : Tryz.fd71_3.type = 61 := by kernel_rfl
theorem Tryz.fd71_3o : Tryz.fd71_3.offset = 5 := by kernel_rfl
theorem Tryz.fd71_3n : (Tryz.fd71_3.name = "_") = False := eq_false (by decide +kernel)
noncomputable def Tryz.fd71_4 : Field := match Tryz.prog.underlying 71 with | some (.struct fs) => fs.getD 4 default | _ => default
theorem Tryz.fd71_4t : Tryz.fd71_4.type = 64 := by kernel_rfl
theorem Tryz.fd71_4o : Tryz.fd71_4.offset = 12 := by kernel_rfl
theorem Tryz.fd71_4n : (Tryz.fd71_4.name = "_") = False := eq_false (by decide +kernel)
noncomputable def Tryz.fd71_5 : Field := match Tryz.prog.underlying 71 with | some (.struct fs) => fs.getD 5 default | _ => default
theorem Tryz.fd71_5t : Tryz.fd71_5.type = 66 := by kernel_rfl
theorem Tryz.fd71_5o : Tryz.fd71_5.offset = 19 := by kernel_rfl
theorem Tryz.fd71_5n : (Tryz.fd71_5.name = "_") = False := eq_false (by decide +kernel)
noncomputable def Tryz.fd71_6 : Field := match Tryz.prog.underlying 71 with | some (.struct fs) => fs.getD 6 default | _ => default
theorem Tryz.fd71_6t : Tryz.fd71_6.type = 69 := by kernel_rfl
theorem Tryz.fd71_6o : Tryz.fd71_6.offset = 25 := by kernel_rfl
theorem Tryz.fd71_6n : (Tryz.fd71_6.name = "_") = False := eq_false (by decide +kernel)
theorem Tryz.y71 : tyOf Tryz.prog 71 = some ⟨.struct #[Tryz.fd71_0, Tryz.fd71_1, Tryz.fd71_2, Tryz.fd71_3, Tryz.fd71_4, Tryz.fd71_5, Tryz.fd71_6], 32, 504, .agg #[.int .i64 0, .string ⟨#[]⟩, .slice none 0 0, .slice none 0 0, .slice none 0 0, .string ⟨#[]⟩, .string ⟨#[]⟩, .string ⟨#[]⟩, .string ⟨#[]⟩, .string ⟨#[]⟩, .string ⟨#[]⟩, .string ⟨#[]⟩, .string ⟨#[]⟩, .string ⟨#[]⟩, .string ⟨#[]⟩, .slice none 0 0, .string ⟨#[]⟩, .string ⟨#[]⟩, .string ⟨#[]⟩, .string ⟨#[]⟩, .string ⟨#[]⟩, .string ⟨#[]⟩, .string ⟨#[]⟩, .string ⟨#[]⟩, .string ⟨#[]⟩, .int .i64 0, .int .i64 0, .int .i64 0, .int .i64 0, .string ⟨#[]⟩, .string ⟨#[]⟩, .string ⟨#[]⟩], true⟩ := by kernel_rfl
noncomputable def Tryz.fd76_0 : Field := match Tryz.prog.underlying 76 with | some (.struct fs) => fs.getD 0 default | _ => default
theorem Tryz.fd76_0t : Tryz.fd76_0.type = 3 := by kernel_rfl
theorem Tryz.fd76_0o : Tryz.fd76_0.offset = 0 := by kernel_rfl
theorem Tryz.fd76_0n : (Tryz.fd76_0.name = "_") = False := eq_false (by decide +kernel)
noncomputable def Tryz.fd76_1 : Field := match Tryz.prog.underlying 76 with | some (.struct fs) => fs.getD 1 default | _ => default
theorem Tryz.fd76_1t : Tryz.fd76_1.type = 9 := by kernel_rfl
theorem Tryz.fd76_1o : Tryz.fd76_1.offset = 1 := by kernel_rfl
theorem Tryz.fd76_1n : (Tryz.fd76_1.name = "_") = False := eq_false (by decide +kernel)
noncomputable def Tryz.fd76_2 : Field := match Tryz.prog.underlying 76 with | some (.struct fs) => fs.getD 2 default | _ => default
theorem Tryz.fd76_2t : Tryz.fd76_2.type = 9 := by kernel_rfl
theorem Tryz.fd76_2o : Tryz.fd76_2.offset = 2 := by kernel_rfl
theorem Tryz.fd76_2n : (Tryz.fd76_2.name = "_") = False := eq_false (by decide +kernel)
theorem Tryz.y76 : tyOf Tryz.prog 76 = some ⟨.struct #[Tryz.fd76_0, Tryz.fd76_1, Tryz.fd76_2], 3, 40, .agg #[.int .i64 0, .string ⟨#[]⟩, .string ⟨#[]⟩], true⟩ := by kernel_rfl
noncomputable def Tryz.fd77_0 : Field := match Tryz.prog.underlying 77 with | some (.struct fs) => fs.getD 0 default | _ => default
theorem Tryz.fd77_0t : Tryz.fd77_0.type = 3 := by kernel_rfl
theorem Tryz.fd77_0o : Tryz.fd77_0.offset = 0 := by kernel_rfl
theorem Tryz.fd77_0n : (Tryz.fd77_0.name = "_") = False := eq_false (by decide +kernel)
noncomputable def Tryz.fd77_1 : Field := match Tryz.prog.underlying 77 with | some (.struct fs) => fs.getD 1 default | _ => default
theorem Tryz.fd77_1t : Tryz.fd77_1.type = 9 := by kernel_rfl
theorem Tryz.fd77_1o : Tryz.fd77_1.offset = 1 := by kernel_rfl
theorem Tryz.fd77_1n : (Tryz.fd77_1.name = "_") = False := eq_false (by decide +kernel)
noncomputable def Tryz.fd77_2 : Field := match Tryz.prog.underlying 77 with | some (.struct fs) => fs.getD 2 default | _ => default
theorem Tryz.fd77_2t : Tryz.fd77_2.type = 9 := by kernel_rfl
theorem Tryz.fd77_2o : Tryz.fd77_2.offset = 2 := by kernel_rfl
theorem Tryz.fd77_2n : (Tryz.fd77_2.name = "_") = False := eq_false (by decide +kernel)
theorem Tryz.y77 : tyOf Tryz.prog 77 = some ⟨.struct #[Tryz.fd77_0, Tryz.fd77_1, Tryz.fd77_2], 3, 40, .agg #[.int .i64 0, .string ⟨#[]⟩, .string ⟨#[]⟩], true⟩ := by kernel_rfl
noncomputable def Tryz.fd84_0 : Field := match Tryz.prog.underlying 84 with | some (.struct fs) => fs.getD 0 default | _ => default
theorem Tryz.fd84_0t : Tryz.fd84_0.type = 3 := by kernel_rfl
theorem Tryz.fd84_0o : Tryz.fd84_0.offset = 0 := by kernel_rfl
theorem Tryz.fd84_0n : (Tryz.fd84_0.name = "_") = False := eq_false (by decide +kernel)
noncomputable def Tryz.fd84_1 : Field := match Tryz.prog.underlying 84 with | some (.struct fs) => fs.getD 1 default | _ => default
theorem Tryz.fd84_1t : Tryz.fd84_1.type = 3 := by kernel_rfl
theorem Tryz.fd84_1o : Tryz.fd84_1.offset = 1 := by kernel_rfl
theorem Tryz.fd84_1n : (Tryz.fd84_1.name = "_") = False := eq_false (by decide +kernel)
noncomputable def Tryz.fd84_2 : Field := match Tryz.prog.underlying 84 with | some (.struct fs) => fs.getD 2 default | _ => default
theorem Tryz.fd84_2t : Tryz.fd84_2.type = 9 := by kernel_rfl
theorem Tryz.fd84_2o : Tryz.fd84_2.offset = 2 := by kernel_rfl
theorem Tryz.fd84_2n : (Tryz.fd84_2.name = "_") = False := eq_false (by decide +kernel)
noncomputable def Tryz.fd84_3 : Field := match Tryz.prog.underlying 84 with | some (.struct fs) => fs.getD 3 default | _ => default
theorem Tryz.fd84_3t : Tryz.fd84_3.type = 9 := by kernel_rfl
theorem Tryz.fd84_3o : Tryz.fd84_3.offset = 3 := by kernel_rfl
theorem Tryz.fd84_3n : (Tryz.fd84_3.name = "_") = False := eq_false (by decide +kernel)
theorem Tryz.y84 : tyOf Tryz.prog 84 = some ⟨.struct #[Tryz.fd84_0, Tryz.fd84_1, Tryz.fd84_2, Tryz.fd84_3], 4, 48, .agg #[.int .i64 0, .int .i64 0, .string ⟨#[]⟩, .string ⟨#[]⟩], true⟩ := by kernel_rfl
noncomputable def Tryz.fd85_0 : Field := match Tryz.prog.underlying 85 with | some (.struct fs) => fs.getD 0 default | _ => default
theorem Tryz.fd85_0t : Tryz.fd85_0.type = 3 := by kernel_rfl
theorem Tryz.fd85_0o : Tryz.fd85_0.offset = 0 := by kernel_rfl
theorem Tryz.fd85_0n : (Tryz.fd85_0.name = "_") = False := eq_false (by decide +kernel)
noncomputable def Tryz.fd85_1 : Field := match Tryz.prog.underlying 85 with | some (.struct fs) => fs.getD 1 default | _ => default
theorem Tryz.fd85_1t : Tryz.fd85_1.type = 3 := by kernel_rfl
theorem Tryz.fd85_1o : Tryz.fd85_1.offset = 1 := by kernel_rfl
theorem Tryz.fd85_1n : (Tryz.fd85_1.name = "_") = False := eq_false (by decide +kernel)
noncomputable def Tryz.fd85_2 : Field := match Tryz.prog.underlying 85 with | some (.struct fs) => fs.getD 2 default | _ => default
theorem Tryz.fd85_2t : Tryz.fd85_2.type = 9 := by kernel_rfl
theorem Tryz.fd85_2o : Tryz.fd85_2.offset = 2 := by kernel_rfl
theorem Tryz.fd85_2n : (Tryz.fd85_2.name = "_") = False := eq_false (by decide +kernel)
noncomputable def Tryz.fd85_3 : Field := match Tryz.prog.underlying 85 with | some (.struct fs) => fs.getD 3 default | _ => default
theorem Tryz.fd85_3t : Tryz.fd85_3.type = 9 := by kernel_rfl
theorem Tryz.fd85_3o : Tryz.fd85_3.offset = 3 := by kernel_rfl
theorem Tryz.fd85_3n : (Tryz.fd85_3.name = "_") = False := eq_false (by decide +kernel)
theorem Tryz.y85 : tyOf Tryz.prog 85 = some ⟨.struct #[Tryz.fd85_0, Tryz.fd85_1, Tryz.fd85_2, Tryz.fd85_3], 4, 48, .agg #[.int .i64 0, .int .i64 0, .string ⟨#[]⟩, .string ⟨#[]⟩], true⟩ := by kernel_rfl
theorem Tryz.y88 : tyOf Tryz.prog 88 = some ⟨.array 5 3, 5, 40, .agg #[.int .i64 0, .int .i64 0, .int .i64 0, .int .i64 0, .int .i64 0], true⟩ := by kernel_rfl
theorem Tryz.y97 : tyOf Tryz.prog 97 = some ⟨.array 3 22, 3, 3, .agg #[.int .i8 0, .int .i8 0, .int .i8 0], true⟩ := by kernel_rfl
theorem Tryz.y98 : tyOf Tryz.prog 98 = some ⟨.array 4 5, 4, 4, .agg #[.int .u8 0, .int .u8 0, .int .u8 0, .int .u8 0], true⟩ := by kernel_rfl
noncomputable def Tryz.fd99_0 : Field := match Tryz.prog.underlying 99 with | some (.struct fs) => fs.getD 0 default | _ => default
theorem Tryz.fd99_0t : Tryz.fd99_0.type = 5 := by kernel_rfl
theorem Tryz.fd99_0o : Tryz.fd99_0.offset = 0 := by kernel_rfl
theorem Tryz.fd99_0n : (Tryz.fd99_0.name = "_") = False := eq_false (by decide +kernel)
noncomputable def Tryz.fd99_1 : Field := match Tryz.prog.underlying 99 with | some (.struct fs) => fs.getD 1 default | _ => default
theorem Tryz.fd99_1t : Tryz.fd99_1.type = 97 := by kernel_rfl
theorem Tryz.fd99_1o : Tryz.fd99_1.offset = 1 := by kernel_rfl
theorem Tryz.fd99_1n : (Tryz.fd99_1.name = "_") = False := eq_false (by decide +kernel)
noncomputable def Tryz.fd99_2 : Field := match Tryz.prog.underlying 99 with | some (.struct fs) => fs.getD 2 default | _ => default
theorem Tryz.fd99_2t : Tryz.fd99_2.type = 97 := by kernel_rfl
theorem Tryz.fd99_2o : Tryz.fd99_2.offset = 4 := by kernel_rfl
theorem Tryz.fd99_2n : (Tryz.fd99_2.name = "_") = False := eq_false (by decide +kernel)
noncomputable def Tryz.fd99_3 : Field := match Tryz.prog.underlying 99 with | some (.struct fs) => fs.getD 3 default | _ => default
theorem Tryz.fd99_3t : Tryz.fd99_3.type = 22 := by kernel_rfl
theorem Tryz.fd99_3o : Tryz.fd99_3.offset = 7 := by kernel_rfl
theorem Tryz.fd99_3n : (Tryz.fd99_3.name = "_") = False := eq_false (by decide +kernel)
noncomputable def Tryz.fd99_4 : Field := match Tryz.prog.underlying 99 with | some (.struct fs) => fs.getD 4 default | _ => default
theorem Tryz.fd99_4t : Tryz.fd99_4.type = 98 := by kernel_rfl
theorem Tryz.fd99_4o : Tryz.fd99_4.offset = 8 := by kernel_rfl
theorem Tryz.fd99_4n : (Tryz.fd99_4.name = "_") = False := eq_false (by decide +kernel)
theorem Tryz.y99 : tyOf Tryz.prog 99 = some ⟨.struct #[Tryz.fd99_0, Tryz.fd99_1, Tryz.fd99_2, Tryz.fd99_3, Tryz.fd99_4], 12, 12, .agg #[.int .u8 0, .int .i8 0, .int .i8 0, .int .i8 0, .int .i8 0, .int .i8 0, .int .i8 0, .int .i8 0, .int .u8 0, .int .u8 0, .int .u8 0, .int .u8 0], true⟩ := by kernel_rfl
noncomputable def Tryz.fd100_0 : Field := match Tryz.prog.underlying 100 with | some (.struct fs) => fs.getD 0 default | _ => default
theorem Tryz.fd100_0t : Tryz.fd100_0.type = 5 := by kernel_rfl
theorem Tryz.fd100_0o : Tryz.fd100_0.offset = 0 := by kernel_rfl
theorem Tryz.fd100_0n : (Tryz.fd100_0.name = "_") = False := eq_false (by decide +kernel)
noncomputable def Tryz.fd100_1 : Field := match Tryz.prog.underlying 100 with | some (.struct fs) => fs.getD 1 default | _ => default
theorem Tryz.fd100_1t : Tryz.fd100_1.type = 97 := by kernel_rfl
theorem Tryz.fd100_1o : Tryz.fd100_1.offset = 1 := by kernel_rfl
theorem Tryz.fd100_1n : (Tryz.fd100_1.name = "_") = False := eq_false (by decide +kernel)
noncomputable def Tryz.fd100_2 : Field := match Tryz.prog.underlying 100 with | some (.struct fs) => fs.getD 2 default | _ => default
theorem Tryz.fd100_2t : Tryz.fd100_2.type = 97 := by kernel_rfl
theorem Tryz.fd100_2o : Tryz.fd100_2.offset = 4 := by kernel_rfl
theorem Tryz.fd100_2n : (Tryz.fd100_2.name = "_") = False := eq_false (by decide +kernel)
noncomputable def Tryz.fd100_3 : Field := match Tryz.prog.underlying 100 with | some (.struct fs) => fs.getD 3 default | _ => default
theorem Tryz.fd100_3t : Tryz.fd100_3.type = 22 := by kernel_rfl
theorem Tryz.fd100_3o : Tryz.fd100_3.offset = 7 := by kernel_rfl
theorem Tryz.fd100_3n : (Tryz.fd100_3.name = "_") = False := eq_false (by decide +kernel)
noncomputable def Tryz.fd100_4 : Field := match Tryz.prog.underlying 100 with | some (.struct fs) => fs.getD 4 default | _ => default
theorem Tryz.fd100_4t : Tryz.fd100_4.type = 98 := by kernel_rfl
theorem Tryz.fd100_4o : Tryz.fd100_4.offset = 8 := by kernel_rfl
theorem Tryz.fd100_4n : (Tryz.fd100_4.name = "_") = False := eq_false (by decide +kernel)
theorem Tryz.y100 : tyOf Tryz.prog 100 = some ⟨.struct #[Tryz.fd100_0, Tryz.fd100_1, Tryz.fd100_2, Tryz.fd100_3, Tryz.fd100_4], 12, 12, .agg #[.int .u8 0, .int .i8 0, .int .i8 0, .int .i8 0, .int .i8 0, .int .i8 0, .int .i8 0, .int .i8 0, .int .u8 0, .int .u8 0, .int .u8 0, .int .u8 0], true⟩ := by kernel_rfl
noncomputable def Tryz.fd111_0 : Field := match Tryz.prog.underlying 111 with | some (.struct fs) => fs.getD 0 default | _ => default
theorem Tryz.fd111_0t : Tryz.fd111_0.type = 31 := by kernel_rfl
theorem Tryz.fd111_0o : Tryz.fd111_0.offset = 0 := by kernel_rfl
theorem Tryz.fd111_0n : (Tryz.fd111_0.name = "_") = False := eq_false (by decide +kernel)
noncomputable def Tryz.fd111_1 : Field := match Tryz.prog.underlying 111 with | some (.struct fs) => fs.getD 1 default | _ => default
theorem Tryz.fd111_1t : Tryz.fd111_1.type = 9 := by kernel_rfl
theorem Tryz.fd111_1o : Tryz.fd111_1.offset = 1 := by kernel_rfl
theorem Tryz.fd111_1n : (Tryz.fd111_1.name = "_") = False := eq_false (by decide +kernel)
noncomputable def Tryz.fd111_2 : Field := match Tryz.prog.underlying 111 with | some (.struct fs) => fs.getD 2 default | _ => default
theorem Tryz.fd111_2t : Tryz.fd111_2.type = 107 := by kernel_rfl
theorem Tryz.fd111_2o : Tryz.fd111_2.offset = 2 := by kernel_rfl
theorem Tryz.fd111_2n : (Tryz.fd111_2.name = "_") = False := eq_false (by decide +kernel)
theorem Tryz.y111 : tyOf Tryz.prog 111 = some ⟨.struct #[Tryz.fd111_0, Tryz.fd111_1, Tryz.fd111_2], 3, 64, .agg #[.slice none 0 0, .string ⟨#[]⟩, .slice none 0 0], true⟩ := by kernel_rfl
noncomputable def Tryz.fd112_0 : Field := match Tryz.prog.underlying 112 with | some (.struct fs) => fs.getD 0 default | _ => default
theorem Tryz.fd112_0t : Tryz.fd112_0.type = 31 := by kernel_rfl
theorem Tryz.fd112_0o : Tryz.fd112_0.offset = 0 := by kernel_rfl
theorem Tryz.fd112_0n : (Tryz.fd112_0.name = "_") = False := eq_false (by decide +kernel)
noncomputable def Tryz.fd112_1 : Field := match Tryz.prog.underlying 112 with | some (.struct fs) => fs.getD 1 default | _ => default
theorem Tryz.fd112_1t : Tryz.fd112_1.type = 9 := by kernel_rfl
theorem Tryz.fd112_1o : Tryz.fd112_1.offset = 1 := by kernel_rfl
theorem Tryz.fd112_1n : (Tryz.fd112_1.name = "_") = False := eq_false (by decide +kernel)
noncomputable def Tryz.fd112_2 : Field := match Tryz.prog.underlying 112 with | some (.struct fs) => fs.getD 2 default | _ => default
theorem Tryz.fd112_2t : Tryz.fd112_2.type = 107 := by kernel_rfl
theorem Tryz.fd112_2o : Tryz.fd112_2.offset = 2 := by kernel_rfl
theorem Tryz.fd112_2n : (Tryz.fd112_2.name = "_") = False := eq_false (by decide +kernel)
theorem Tryz.y112 : tyOf Tryz.prog 112 = some ⟨.struct #[Tryz.fd112_0, Tryz.fd112_1, Tryz.fd112_2], 3, 64, .agg #[.slice none 0 0, .string ⟨#[]⟩, .slice none 0 0], true⟩ := by kernel_rfl
noncomputable def Tryz.fd117_0 : Field := match Tryz.prog.underlying 117 with | some (.struct fs) => fs.getD 0 default | _ => default
theorem Tryz.fd117_0t : Tryz.fd117_0.type = 85 := by kernel_rfl
theorem Tryz.fd117_0o : Tryz.fd117_0.offset = 0 := by kernel_rfl
theorem Tryz.fd117_0n : (Tryz.fd117_0.name = "_") = False := eq_false (by decide +kernel)
noncomputable def Tryz.fd117_1 : Field := match Tryz.prog.underlying 117 with | some (.struct fs) => fs.getD 1 default | _ => default
theorem Tryz.fd117_1t : Tryz.fd117_1.type = 116 := by kernel_rfl
theorem Tryz.fd117_1o : Tryz.fd117_1.offset = 4 := by kernel_rfl
theorem Tryz.fd117_1n : (Tryz.fd117_1.name = "_") = False := eq_false (by decide +kernel)
theorem Tryz.y117 : tyOf Tryz.prog 117 = some ⟨.struct #[Tryz.fd117_0, Tryz.fd117_1], 5, 72, .agg #[.int .i64 0, .int .i64 0, .string ⟨#[]⟩, .string ⟨#[]⟩, .slice none 0 0], true⟩ := by kernel_rfl
noncomputable def Tryz.fd118_0 : Field := match Tryz.prog.underlying 118 with | some (.struct fs) => fs.getD 0 default | _ => default
theorem Tryz.fd118_0t : Tryz.fd118_0.type = 85 := by kernel_rfl
theorem Tryz.fd118_0o : Tryz.fd118_0.offset = 0 := by kernel_rfl
theorem Tryz.fd118_0n : (Tryz.fd118_0.name = "_") = False := eq_false (by decide +kernel)
noncomputable def Tryz.fd118_1 : Field := match Tryz.prog.underlying 118 with | some (.struct fs) => fs.getD 1 default | _ => default
theorem Tryz.fd118_1t : Tryz.fd118_1.type = 116 := by kernel_rfl
theorem Tryz.fd118_1o : Tryz.fd118_1.offset = 4 := by kernel_rfl
theorem Tryz.fd118_1n : (Tryz.fd118_1.name = "_") = False := eq_false (by decide +kernel)
theorem Tryz.y118 : tyOf Tryz.prog 118 = some ⟨.struct #[Tryz.fd118_0, Tryz.fd118_1], 5, 72, .agg #[.int .i64 0, .int .i64 0, .string ⟨#[]⟩, .string ⟨#[]⟩, .slice none 0 0], true⟩ := by kernel_rfl
noncomputable def Tryz.fd120_0 : Field := match Tryz.prog.underlying 120 with | some (.struct fs) => fs.getD 0 default | _ => default
theorem Tryz.fd120_0t : Tryz.fd120_0.type = 55 := by kernel_rfl
theorem Tryz.fd120_0o : Tryz.fd120_0.offset = 0 := by kernel_rfl
theorem Tryz.fd120_0n : (Tryz.fd120_0.name = "_") = False := eq_false (by decide +kernel)
noncomputable def Tryz.fd120_1 : Field := match Tryz.prog.underlying 120 with | some (.struct fs) => fs.getD 1 default | _ => default
theorem Tryz.fd120_1t : Tryz.fd120_1.type = 55 := by kernel_rfl
theorem Tryz.fd120_1o : Tryz.fd120_1.offset = 1 := by kernel_rfl
theorem Tryz.fd120_1n : (Tryz.fd120_1.name = "_") = False := eq_false (by decide +kernel)
theorem Tryz.y120 : tyOf Tryz.prog 120 = some ⟨.struct #[Tryz.fd120_0, Tryz.fd120_1], 2, 32, .agg #[.string ⟨#[]⟩, .string ⟨#[]⟩], true⟩ := by kernel_rfl
noncomputable def Tryz.fd121_0 : Field := match Tryz.prog.underlying 121 with | some (.struct fs) => fs.getD 0 default | _ => default
theorem Tryz.fd121_0t : Tryz.fd121_0.type = 55 := by kernel_rfl
theorem Tryz.fd121_0o : Tryz.fd121_0.offset = 0 := by kernel_rfl
theorem Tryz.fd121_0n : (Tryz.fd121_0.name = "_") = False := eq_false (by decide +kernel)
noncomputable def Tryz.fd121_1 : Field := match Tryz.prog.underlying 121 with | some (.struct fs) => fs.getD 1 default | _ => default
theorem Tryz.fd121_1t : Tryz.fd121_1.type = 55 := by kernel_rfl
theorem Tryz.fd121_1o : Tryz.fd121_1.offset = 1 := by kernel_rfl
theorem Tryz.fd121_1n : (Tryz.fd121_1.name = "_") = False := eq_false (by decide +kernel)
theorem Tryz.y121 : tyOf Tryz.prog 121 = some ⟨.struct #[Tryz.fd121_0, Tryz.fd121_1], 2, 32, .agg #[.string ⟨#[]⟩, .string ⟨#[]⟩], true⟩ := by kernel_rfl
noncomputable def Tryz.fd124_0 : Field := match Tryz.prog.underlying 124 with | some (.struct fs) => fs.getD 0 default | _ => default
theorem Tryz.fd124_0t : Tryz.fd124_0.type = 9 := by kernel_rfl
theorem Tryz.fd124_0o : Tryz.fd124_0.offset = 0 := by kernel_rfl
theorem Tryz.fd124_0n : (Tryz.fd124_0.name = "_") = False := eq_false (by decide +kernel)
noncomputable def Tryz.fd124_1 : Field := match Tryz.prog.underlying 124 with | some (.struct fs) => fs.getD 1 default | _ => default
theorem Tryz.fd124_1t : Tryz.fd124_1.type = 107 := by kernel_rfl
theorem Tryz.fd124_1o : Tryz.fd124_1.offset = 1 := by kernel_rfl
theorem Tryz.fd124_1n : (Tryz.fd124_1.name = "_") = False := eq_false (by decide +kernel)
noncomputable def Tryz.fd124_2 : Field := match Tryz.prog.underlying 124 with | some (.struct fs) => fs.getD 2 default | _ => default
theorem Tryz.fd124_2t : Tryz.fd124_2.type = 3 := by kernel_rfl
theorem Tryz.fd124_2o : Tryz.fd124_2.offset = 2 := by kernel_rfl
theorem Tryz.fd124_2n : (Tryz.fd124_2.name = "_") = False := eq_false (by decide +kernel)
noncomputable def Tryz.fd124_3 : Field := match Tryz.prog.underlying 124 with | some (.struct fs) => fs.getD 3 default | _ => default
theorem Tryz.fd124_3t : Tryz.fd124_3.type = 57 := by kernel_rfl
theorem Tryz.fd124_3o : Tryz.fd124_3.offset = 3 := by kernel_rfl
theorem Tryz.fd124_3n : (Tryz.fd124_3.name = "_") = False := eq_false (by decide +kernel)
theorem Tryz.y124 : tyOf Tryz.prog 124 = some ⟨.struct #[Tryz.fd124_0, Tryz.fd124_1, Tryz.fd124_2, Tryz.fd124_3], 6, 96, .agg #[.string ⟨#[]⟩, .slice none 0 0, .int .i64 0, .string ⟨#[]⟩, .string ⟨#[]⟩, .string ⟨#[]⟩], true⟩ := by kernel_rfl
noncomputable def Tryz.fd125_0 : Field := match Tryz.prog.underlying 125 with | some (.struct fs) => fs.getD 0 default | _ => default
theorem Tryz.fd125_0t : Tryz.fd125_0.type = 9 := by kernel_rfl
theorem Tryz.fd125_0o : Tryz.fd125_0.offset = 0 := by kernel_rfl
theorem Tryz.fd125_0n : (Tryz.fd125_0.name = "_") = False := eq_false (by decide +kernel)
noncomputable def Tryz.fd125_1 : Field := match Tryz.prog.underlying 125 with | some (.struct fs) => fs.getD 1 default | _ => default
theorem Tryz.fd125_1t : Tryz.fd125_1.type = 107 := by kernel_rfl
theorem Tryz.fd125_1o : Tryz.fd125_1.offset = 1 := by kernel_rfl
theorem Tryz.fd125_1n : (Tryz.fd125_1.name = "_") = False := eq_false (by decide +kernel)
noncomputable def Tryz.fd125_2 : Field := match Tryz.prog.underlying 125 with | some (.struct fs) => fs.getD 2 default | _ => default
theorem Tryz.fd125_2t : Tryz.fd125_2.type = 3 := by kernel_rfl
theorem Tryz.fd125_2o : Tryz.fd125_2.offset = 2 := by kernel_rfl
theorem Tryz.fd125_2n : (Tryz.fd125_2.name = "_") = False := eq_false (by decide +kernel)
noncomputable def Tryz.fd125_3 : Field := match Tryz.prog.underlying 125 with | some (.struct fs) => fs.getD 3 default | _ => default
theorem Tryz.fd125_3t : Tryz.fd125_3.type = 57 := by kernel_rfl
theorem Tryz.fd125_3o : Tryz.fd125_3.offset = 3 := by kernel_rfl
theorem Tryz.fd125_3n : (Tryz.fd125_3.name = "_") = False := eq_false (by decide +kernel)
theorem Tryz.y125 : tyOf Tryz.prog 125 = some ⟨.struct #[Tryz.fd125_0, Tryz.fd125_1, Tryz.fd125_2, Tryz.fd125_3], 6, 96, .agg #[.string ⟨#[]⟩, .slice none 0 0, .int .i64 0, .string ⟨#[]⟩, .string ⟨#[]⟩, .string ⟨#[]⟩], true⟩ := by kernel_rfl
theorem Tryz.y135 : tyOf Tryz.prog 135 = some ⟨.array 2 3, 2, 16, .agg #[.int .i64 0, .int .i64 0], true⟩ := by kernel_rfl
noncomputable def Tryz.fd140_0 : Field := match Tryz.prog.underlying 140 with | some (.struct fs) => fs.getD 0 default | _ => default
theorem Tryz.fd140_0t : Tryz.fd140_0.type = 55 := by kernel_rfl
theorem Tryz.fd140_0o : Tryz.fd140_0.offset = 0 := by kernel_rfl
theorem Tryz.fd140_0n : (Tryz.fd140_0.name = "_") = False := eq_false (by decide +kernel)
noncomputable def Tryz.fd140_1 : Field := match Tryz.prog.underlying 140 with | some (.struct fs) => fs.getD 1 default | _ => default
theorem Tryz.fd140_1t : Tryz.fd140_1.type = 55 := by kernel_rfl
theorem Tryz.fd140_1o : Tryz.fd140_1.offset = 1 := by kernel_rfl
theorem Tryz.fd140_1n : (Tryz.fd140_1.name = "_") = False := eq_false (by decide +kernel)
theorem Tryz.y140 : tyOf Tryz.prog 140 = some ⟨.struct #[Tryz.fd140_0, Tryz.fd140_1], 2, 32, .agg #[.string ⟨#[]⟩, .string ⟨#[]⟩], true⟩ := by kernel_rfl
noncomputable def Tryz.fd141_0 : Field := match Tryz.prog.underlying 141 with | some (.struct fs) => fs.getD 0 default | _ => default
theorem Tryz.fd141_0t : Tryz.fd141_0.type = 55 := by kernel_rfl
theorem Tryz.fd141_0o : Tryz.fd141_0.offset = 0 := by kernel_rfl
theorem Tryz.fd141_0n : (Tryz.fd141_0.name = "_") = False := eq_false (by decide +kernel)
noncomputable def Tryz.fd141_1 : Field := match Tryz.prog.underlying 141 with | some (.struct fs) => fs.getD 1 default | _ => default
theorem Tryz.fd141_1t : Tryz.fd141_1.type = 55 := by kernel_rfl
theorem Tryz.fd141_1o : Tryz.fd141_1.offset = 1 := by kernel_rfl
theorem Tryz.fd141_1n : (Tryz.fd141_1.name = "_") = False := eq_false (by decide +kernel)
theorem Tryz.y141 : tyOf Tryz.prog 141 = some ⟨.struct #[Tryz.fd141_0, Tryz.fd141_1], 2, 32, .agg #[.string ⟨#[]⟩, .string ⟨#[]⟩], true⟩ := by kernel_rfl
noncomputable def Tryz.fd147_0 : Field := match Tryz.prog.underlying 147 with | some (.struct fs) => fs.getD 0 default | _ => default
theorem Tryz.fd147_0t : Tryz.fd147_0.type = 107 := by kernel_rfl
theorem Tryz.fd147_0o : Tryz.fd147_0.offset = 0 := by kernel_rfl
theorem Tryz.fd147_0n : (Tryz.fd147_0.name = "_") = False := eq_false (by decide +kernel)
noncomputable def Tryz.fd147_1 : Field := match Tryz.prog.underlying 147 with | some (.struct fs) => fs.getD 1 default | _ => default
theorem Tryz.fd147_1t : Tryz.fd147_1.type = 9 := by kernel_rfl
theorem Tryz.fd147_1o : Tryz.fd147_1.offset = 1 := by kernel_rfl
theorem Tryz.fd147_1n : (Tryz.fd147_1.name = "_") = False := eq_false (by decide +kernel)
theorem Tryz.y147 : tyOf Tryz.prog 147 = some ⟨.struct #[Tryz.fd147_0, Tryz.fd147_1], 2, 40, .agg #[.slice none 0 0, .string ⟨#[]⟩], true⟩ := by kernel_rfl
noncomputable def Tryz.fd148_0 : Field := match Tryz.prog.underlying 148 with | some (.struct fs) => fs.getD 0 default | _ => default
theorem Tryz.fd148_0t : Tryz.fd148_0.type = 107 := by kernel_rfl
theorem Tryz.fd148_0o : Tryz.fd148_0.offset = 0 := by kernel_rfl
theorem Tryz.fd148_0n : (Tryz.fd148_0.name = "_") = False := eq_false (by decide +kernel)
noncomputable def Tryz.fd148_1 : Field := match Tryz.prog.underlying 148 with | some (.struct fs) => fs.getD 1 default | _ => default
theorem Tryz.fd148_1t : Tryz.fd148_1.type = 9 := by kernel_rfl
theorem Tryz.fd148_1o : Tryz.fd148_1.offset = 1 := by kernel_rfl
theorem Tryz.fd148_1n : (Tryz.fd148_1.name = "_") = False := eq_false (by decide +kernel)
theorem Tryz.y148 : tyOf Tryz.prog 148 = some ⟨.struct #[Tryz.fd148_0, Tryz.fd148_1], 2, 40, .agg #[.slice none 0 0, .string ⟨#[]⟩], true⟩ := by kernel_rfl
theorem Tryz.y149 : tyOf Tryz.prog 149 = some ⟨.array 2 148, 4, 80, .agg #[.slice none 0 0, .string ⟨#[]⟩, .slice none 0 0, .string ⟨#[]⟩], true⟩ := by kernel_rfl
noncomputable def Tryz.fd159_0 : Field := match Tryz.prog.underlying 159 with | some (.struct fs) => fs.getD 0 default | _ => default
theorem Tryz.fd159_0t : Tryz.fd159_0.type = 121 := by kernel_rfl
theorem Tryz.fd159_0o : Tryz.fd159_0.offset = 0 := by kernel_rfl
theorem Tryz.fd159_0n : (Tryz.fd159_0.name = "_") = False := eq_false (by decide +kernel)
noncomputable def Tryz.fd159_1 : Field := match Tryz.prog.underlying 159 with | some (.struct fs) => fs.getD 1 default | _ => default
theorem Tryz.fd159_1t : Tryz.fd159_1.type = 121 := by kernel_rfl
theorem Tryz.fd159_1o : Tryz.fd159_1.offset = 2 := by kernel_rfl
theorem Tryz.fd159_1n : (Tryz.fd159_1.name = "_") = False := eq_false (by decide +kernel)
noncomputable def Tryz.fd159_2 : Field := match Tryz.prog.underlying 159 with | some (.struct fs) => fs.getD 2 default | _ => default
theorem Tryz.fd159_2t : Tryz.fd159_2.type = 3 := by kernel_rfl
theorem Tryz.fd159_2o : Tryz.fd159_2.offset = 4 := by kernel_rfl
theorem Tryz.fd159_2n : (Tryz.fd159_2.name = "_") = False := eq_false (by decide +kernel)
noncomputable def Tryz.fd159_3 : Field := match Tryz.prog.underlying 159 with | some (.struct fs) => fs.getD 3 default | _ => default
theorem Tryz.fd159_3t : Tryz.fd159_3.type = 3 := by kernel_rfl
theorem Tryz.fd159_3o : Tryz.fd159_3.offset = 5 := by kernel_rfl
theorem Tryz.fd159_3n : (Tryz.fd159_3.name = "_") = False := eq_false (by decide +kernel)
noncomputable def Tryz.fd159_4 : Field := match Tryz.prog.underlying 159 with | some (.struct fs) => fs.getD 4 default | _ => default
theorem Tryz.fd159_4t : Tryz.fd159_4.type = 85 := by kernel_rfl
theorem Tryz.fd159_4o : Tryz.fd159_4.offset = 6 := by kernel_rfl
theorem Tryz.fd159_4n : (Tryz.fd159_4.name = "_") = False := eq_false (by decide +kernel)
theorem Tryz.y159 : tyOf Tryz.prog 159 = some ⟨.struct #[Tryz.fd159_0, Tryz.fd159_1, Tryz.fd159_2, Tryz.fd159_3, Tryz.fd159_4], 10, 128, .agg #[.string ⟨#[]⟩, .string ⟨#[]⟩, .string ⟨#[]⟩, .string ⟨#[]⟩, .int .i64 0, .int .i64 0, .int .i64 0, .int .i64 0, .string ⟨#[]⟩, .string ⟨#[]⟩], true⟩ := by kernel_rfl
noncomputable def Tryz.fd160_0 : Field := match Tryz.prog.underlying 160 with | some (.struct fs) => fs.getD 0 default | _ => default
theorem Tryz.fd160_0t : Tryz.fd160_0.type = 121 := by kernel_rfl
theorem Tryz.fd160_0o : Tryz.fd160_0.offset = 0 := by kernel_rfl
theorem Tryz.fd160_0n : (Tryz.fd160_0.name = "_") = False := eq_false (by decide +kernel)
noncomputable def Tryz.fd160_1 : Field := match Tryz.prog.underlying 160 with | some (.struct fs) => fs.getD 1 default | _ => default
theorem Tryz.fd160_1t : Tryz.fd160_1.type = 121 := by kernel_rfl
theorem Tryz.fd160_1o : Tryz.fd160_1.offset = 2 := by kernel_rfl
theorem Tryz.fd160_1n : (Tryz.fd160_1.name = "_") = False := eq_false (by decide +kernel)
noncomputable def Tryz.fd160_2 : Field := match Tryz.prog.underlying 160 with | some (.struct fs) => fs.getD 2 default | _ => default
theorem Tryz.fd160_2t : Tryz.fd160_2.type = 3 := by kernel_rfl
theorem Tryz.fd160_2o : Tryz.fd160_2.offset = 4 := by kernel_rfl
theorem Tryz.fd160_2n : (Tryz.fd160_2.name = "_") = False := eq_false (by decide +kernel)
noncomputable def Tryz.fd160_3 : Field := match Tryz.prog.underlying 160 with | some (.struct fs) => fs.getD 3 default | _ => default
theorem Tryz.fd160_3t : Tryz.fd160_3.type = 3 := by kernel_rfl
theorem Tryz.fd160_3o : Tryz.fd160_3.offset = 5 := by kernel_rfl
theorem Tryz.fd160_3n : (Tryz.fd160_3.name = "_") = False := eq_false (by decide +kernel)
noncomputable def Tryz.fd160_4 : Field := match Tryz.prog.underlying 160 with | some (.struct fs) => fs.getD 4 default | _ => default
theorem Tryz.fd160_4t : Tryz.fd160_4.type = 85 := by kernel_rfl
theorem Tryz.fd160_4o : Tryz.fd160_4.offset = 6 := by kernel_rfl
theorem Tryz.fd160_4n : (Tryz.fd160_4.name = "_") = False := eq_false (by decide +kernel)
theorem Tryz.y160 : tyOf Tryz.prog 160 = some ⟨.struct #[Tryz.fd160_0, Tryz.fd160_1, Tryz.fd160_2, Tryz.fd160_3, Tryz.fd160_4], 10, 128, .agg #[.string ⟨#[]⟩, .string ⟨#[]⟩, .string ⟨#[]⟩, .string ⟨#[]⟩, .int .i64 0, .int .i64 0, .int .i64 0, .int .i64 0, .string ⟨#[]⟩, .string ⟨#[]⟩], true⟩ := by kernel_rfl
theorem Tryz.y176 : tyOf Tryz.prog 176 = some ⟨.array 3 3, 3, 24, .agg #[.int .i64 0, .int .i64 0, .int .i64 0], true⟩ := by kernel_rfl
theorem Tryz.y177 : tyOf Tryz.prog 177 = some ⟨.array 3 3, 3, 24, .agg #[.int .i64 0, .int .i64 0, .int .i64 0], true⟩ := by kernel_rfl
noncomputable def Tryz.fd217_0 : Field := match Tryz.prog.underlying 217 with | some (.struct fs) => fs.getD 0 default | _ => default
theorem Tryz.fd217_0t : Tryz.fd217_0.type = 3 := by kernel_rfl
theorem Tryz.fd217_0o : Tryz.fd217_0.offset = 0 := by kernel_rfl
theorem Tryz.fd217_0n : (Tryz.fd217_0.name = "_") = False := eq_false (by decide +kernel)
noncomputable def Tryz.fd217_1 : Field := match Tryz.prog.underlying 217 with | some (.struct fs) => fs.getD 1 default | _ => default
theorem Tryz.fd217_1t : Tryz.fd217_1.type = 4 := by kernel_rfl
theorem Tryz.fd217_1o : Tryz.fd217_1.offset = 1 := by kernel_rfl
theorem Tryz.fd217_1n : (Tryz.fd217_1.name = "_") = False := eq_false (by decide +kernel)
theorem Tryz.y217 : tyOf Tryz.prog 217 = some ⟨.struct #[Tryz.fd217_0, Tryz.fd217_1], 2, 16, .agg #[.int .i64 0, .bool false], true⟩ := by kernel_rfl
noncomputable def Tryz.fd218_0 : Field := match Tryz.prog.underlying 218 with | some (.struct fs) => fs.getD 0 default | _ => default
theorem Tryz.fd218_0t : Tryz.fd218_0.type = 3 := by kernel_rfl
theorem Tryz.fd218_0o : Tryz.fd218_0.offset = 0 := by kernel_rfl
theorem Tryz.fd218_0n : (Tryz.fd218_0.name = "_") = False := eq_false (by decide +kernel)
noncomputable def Tryz.fd218_1 : Field := match Tryz.prog.underlying 218 with | some (.struct fs) => fs.getD 1 default | _ => default
theorem Tryz.fd218_1t : Tryz.fd218_1.type = 4 := by kernel_rfl
theorem Tryz.fd218_1o : Tryz.fd218_1.offset = 1 := by kernel_rfl
theorem Tryz.fd218_1n : (Tryz.fd218_1.name = "_") = False := eq_false (by decide +kernel)
theorem Tryz.y218 : tyOf Tryz.prog 218 = some ⟨.struct #[Tryz.fd218_0, Tryz.fd218_1], 2, 16, .agg #[.int .i64 0, .bool false], true⟩ := by kernel_rfl
theorem Tryz.y220 : tyOf Tryz.prog 220 = some ⟨.array 2 4, 2, 2, .agg #[.bool false, .bool false], true⟩ := by kernel_rfl
theorem Tryz.y255 : tyOf Tryz.prog 255 = some ⟨.array 3 121, 6, 96, .agg #[.string ⟨#[]⟩, .string ⟨#[]⟩, .string ⟨#[]⟩, .string ⟨#[]⟩, .string ⟨#[]⟩, .string ⟨#[]⟩], true⟩ := by kernel_rfl
theorem Tryz.y286 : tyOf Tryz.prog 286 = some ⟨.array 3 55, 3, 48, .agg #[.string ⟨#[]⟩, .string ⟨#[]⟩, .string ⟨#[]⟩], true⟩ := by kernel_rfl
noncomputable def Tryz.fd341_0 : Field := match Tryz.prog.underlying 341 with | some (.struct fs) => fs.getD 0 default | _ => default
theorem Tryz.fd341_0t : Tryz.fd341_0.type = 4 := by kernel_rfl
theorem Tryz.fd341_0o : Tryz.fd341_0.offset = 0 := by kernel_rfl
theorem Tryz.fd341_0n : (Tryz.fd341_0.name = "_") = False := eq_false (by decide +kernel)
noncomputable def Tryz.fd341_1 : Field := match Tryz.prog.underlying 341 with | some (.struct fs) => fs.getD 1 default | _ => default
theorem Tryz.fd341_1t : Tryz.fd341_1.type = 340 := by kernel_rfl
theorem Tryz.fd341_1o : Tryz.fd341_1.offset = 1 := by kernel_rfl
theorem Tryz.fd341_1n : (Tryz.fd341_1.name = "_") = False := eq_false (by decide +kernel)
theorem Tryz.y341 : tyOf Tryz.prog 341 = some ⟨.struct #[Tryz.fd341_0, Tryz.fd341_1], 2, 32, .agg #[.bool false, .slice none 0 0], true⟩ := by kernel_rfl
noncomputable def Tryz.fd342_0 : Field := match Tryz.prog.underlying 342 with | some (.struct fs) => fs.getD 0 default | _ => default
theorem Tryz.fd342_0t : Tryz.fd342_0.type = 4 := by kernel_rfl
theorem Tryz.fd342_0o : Tryz.fd342_0.offset = 0 := by kernel_rfl
theorem Tryz.fd342_0n : (Tryz.fd342_0.name = "_") = False := eq_false (by decide +kernel)
noncomputable def Tryz.fd342_1 : Field := match Tryz.prog.underlying 342 with | some (.struct fs) => fs.getD 1 default | _ => default
theorem Tryz.fd342_1t : Tryz.fd342_1.type = 340 := by kernel_rfl
theorem Tryz.fd342_1o : Tryz.fd342_1.offset = 1 := by kernel_rfl
theorem Tryz.fd342_1n : (Tryz.fd342_1.name = "_") = False := eq_false (by decide +kernel)
theorem Tryz.y342 : tyOf Tryz.prog 342 = some ⟨.struct #[Tryz.fd342_0, Tryz.fd342_1], 2, 32, .agg #[.bool false, .slice none 0 0], true⟩ := by kernel_rfl
noncomputable def Tryz.fd384_0 : Field := match Tryz.prog.underlying 384 with | some (.struct fs) => fs.getD 0 default | _ => default
theorem Tryz.fd384_0t : Tryz.fd384_0.type = 383 := by kernel_rfl
theorem Tryz.fd384_0o : Tryz.fd384_0.offset = 0 := by kernel_rfl
theorem Tryz.fd384_0n : (Tryz.fd384_0.name = "_") = False := eq_false (by decide +kernel)
noncomputable def Tryz.fd384_1 : Field := match Tryz.prog.underlying 384 with | some (.struct fs) => fs.getD 1 default | _ => default
theorem Tryz.fd384_1t : Tryz.fd384_1.type = 146 := by kernel_rfl
theorem Tryz.fd384_1o : Tryz.fd384_1.offset = 1 := by kernel_rfl
theorem Tryz.fd384_1n : (Tryz.fd384_1.name = "_") = False := eq_false (by decide +kernel)
theorem Tryz.y384 : tyOf Tryz.prog 384 = some ⟨.struct #[Tryz.fd384_0, Tryz.fd384_1], 2, 32, .agg #[.pointer none, .slice none 0 0], true⟩ := by kernel_rfl
noncomputable def Tryz.fd385_0 : Field := match Tryz.prog.underlying 385 with | some (.struct fs) => fs.getD 0 default | _ => default
theorem Tryz.fd385_0t : Tryz.fd385_0.type = 383 := by kernel_rfl
theorem Tryz.fd385_0o : Tryz.fd385_0.offset = 0 := by kernel_rfl
theorem Tryz.fd385_0n : (Tryz.fd385_0.name = "_") = False := eq_false (by decide +kernel)
noncomputable def Tryz.fd385_1 : Field := match Tryz.prog.underlying 385 with | some (.struct fs) => fs.getD 1 default | _ => default
theorem Tryz.fd385_1t : Tryz.fd385_1.type = 146 := by kernel_rfl
theorem Tryz.fd385_1o : Tryz.fd385_1.offset = 1 := by kernel_rfl
theorem Tryz.fd385_1n : (Tryz.fd385_1.name = "_") = False := eq_false (by decide +kernel)
theorem Tryz.y385 : tyOf Tryz.prog 385 = some ⟨.struct #[Tryz.fd385_0, Tryz.fd385_1], 2, 32, .agg #[.pointer none, .slice none 0 0], true⟩ := by kernel_rfl
theorem Tryz.y398 : tyOf Tryz.prog 398 = some ⟨.array 24 5, 24, 24, .agg #[.int .u8 0, .int .u8 0, .int .u8 0, .int .u8 0, .int .u8 0, .int .u8 0, .int .u8 0, .int .u8 0, .int .u8 0, .int .u8 0, .int .u8 0, .int .u8 0, .int .u8 0, .int .u8 0, .int .u8 0, .int .u8 0, .int .u8 0, .int .u8 0, .int .u8 0, .int .u8 0, .int .u8 0, .int .u8 0, .int .u8 0, .int .u8 0], true⟩ := by kernel_rfl
theorem Tryz.y418 : tyOf Tryz.prog 418 = some ⟨.array 20 278, 20, 160, .agg #[.int .u64 0, .int .u64 0, .int .u64 0, .int .u64 0, .int .u64 0, .int .u64 0, .int .u64 0, .int .u64 0, .int .u64 0, .int .u64 0, .int .u64 0, .int .u64 0, .int .u64 0, .int .u64 0, .int .u64 0, .int .u64 0, .int .u64 0, .int .u64 0, .int .u64 0, .int .u64 0], true⟩ := by kernel_rfl
theorem Tryz.y419 : tyOf Tryz.prog 419 = some ⟨.array 65 5, 65, 65, .agg #[.int .u8 0, .int .u8 0, .int .u8 0, .int .u8 0, .int .u8 0, .int .u8 0, .int .u8 0, .int .u8 0, .int .u8 0, .int .u8 0, .int .u8 0, .int .u8 0, .int .u8 0, .int .u8 0, .int .u8 0, .int .u8 0, .int .u8 0, .int .u8 0, .int .u8 0, .int .u8 0, .int .u8 0, .int .u8 0, .int .u8 0, .int .u8 0, .int .u8 0, .int .u8 0, .int .u8 0, .int .u8 0, .int .u8 0, .int .u8 0, .int .u8 0, .int .u8 0, .int .u8 0, .int .u8 0, .int .u8 0, .int .u8 0, .int .u8 0, .int .u8 0, .int .u8 0, .int .u8 0, .int .u8 0, .int .u8 0, .int .u8 0, .int .u8 0, .int .u8 0, .int .u8 0, .int .u8 0, .int .u8 0, .int .u8 0, .int .u8 0, .int .u8 0, .int .u8 0, .int .u8 0, .int .u8 0, .int .u8 0, .int .u8 0, .int .u8 0, .int .u8 0, .int .u8 0, .int .u8 0, .int .u8 0, .int .u8 0, .int .u8 0, .int .u8 0, .int .u8 0], true⟩ := by kernel_rfl
noncomputable def Tryz.fd426_0 : Field := match Tryz.prog.underlying 426 with | some (.struct fs) => fs.getD 0 default | _ => default
theorem Tryz.fd426_0t : Tryz.fd426_0.type = 9 := by kernel_rfl
theorem Tryz.fd426_0o : Tryz.fd426_0.offset = 0 := by kernel_rfl
theorem Tryz.fd426_0n : (Tryz.fd426_0.name = "_") = False := eq_false (by decide +kernel)
theorem Tryz.y426 : tyOf Tryz.prog 426 = some ⟨.struct #[Tryz.fd426_0], 1, 16, .agg #[.string ⟨#[]⟩], true⟩ := by kernel_rfl
noncomputable def Tryz.fd427_0 : Field := match Tryz.prog.underlying 427 with | some (.struct fs) => fs.getD 0 default | _ => default
theorem Tryz.fd427_0t : Tryz.fd427_0.type = 9 := by kernel_rfl
theorem Tryz.fd427_0o : Tryz.fd427_0.offset = 0 := by kernel_rfl
theorem Tryz.fd427_0n : (Tryz.fd427_0.name = "_") = False := eq_false (by decide +kernel)
theorem Tryz.y427 : tyOf Tryz.prog 427 = some ⟨.struct #[Tryz.fd427_0], 1, 16, .agg #[.string ⟨#[]⟩], true⟩ := by kernel_rfl
noncomputable def Tryz.fd428_0 : Field := match Tryz.prog.underlying 428 with | some (.struct fs) => fs.getD 0 default | _ => default
theorem Tryz.fd428_0t : Tryz.fd428_0.type = 121 := by kernel_rfl
theorem Tryz.fd428_0o : Tryz.fd428_0.offset = 0 := by kernel_rfl
theorem Tryz.fd428_0n : (Tryz.fd428_0.name = "_") = False := eq_false (by decide +kernel)
noncomputable def Tryz.fd428_1 : Field := match Tryz.prog.underlying 428 with | some (.struct fs) => fs.getD 1 default | _ => default
theorem Tryz.fd428_1t : Tryz.fd428_1.type = 55 := by kernel_rfl
theorem Tryz.fd428_1o : Tryz.fd428_1.offset = 2 := by kernel_rfl
theorem Tryz.fd428_1n : (Tryz.fd428_1.name = "_") = False := eq_false (by decide +kernel)
theorem Tryz.y428 : tyOf Tryz.prog 428 = some ⟨.struct #[Tryz.fd428_0, Tryz.fd428_1], 3, 48, .agg #[.string ⟨#[]⟩, .string ⟨#[]⟩, .string ⟨#[]⟩], true⟩ := by kernel_rfl
noncomputable def Tryz.fd429_0 : Field := match Tryz.prog.underlying 429 with | some (.struct fs) => fs.getD 0 default | _ => default
theorem Tryz.fd429_0t : Tryz.fd429_0.type = 121 := by kernel_rfl
theorem Tryz.fd429_0o : Tryz.fd429_0.offset = 0 := by kernel_rfl
theorem Tryz.fd429_0n : (Tryz.fd429_0.name = "_") = False := eq_false (by decide +kernel)
noncomputable def Tryz.fd429_1 : Field := match Tryz.prog.underlying 429 with | some (.struct fs) => fs.getD 1 default | _ => default
theorem Tryz.fd429_1t : Tryz.fd429_1.type = 55 := by kernel_rfl
theorem Tryz.fd429_1o : Tryz.fd429_1.offset = 2 := by kernel_rfl
theorem Tryz.fd429_1n : (Tryz.fd429_1.name = "_") = False := eq_false (by decide +kernel)
theorem Tryz.y429 : tyOf Tryz.prog 429 = some ⟨.struct #[Tryz.fd429_0, Tryz.fd429_1], 3, 48, .agg #[.string ⟨#[]⟩, .string ⟨#[]⟩, .string ⟨#[]⟩], true⟩ := by kernel_rfl
theorem Tryz.y430 : tyOf Tryz.prog 430 = some ⟨.array 3 429, 9, 144, .agg #[.string ⟨#[]⟩, .string ⟨#[]⟩, .string ⟨#[]⟩, .string ⟨#[]⟩, .string ⟨#[]⟩, .string ⟨#[]⟩, .string ⟨#[]⟩, .string ⟨#[]⟩, .string ⟨#[]⟩], true⟩ := by kernel_rfl
theorem Tryz.y434 : tyOf Tryz.prog 434 = some ⟨.array 32 5, 32, 32, .agg #[.int .u8 0, .int .u8 0, .int .u8 0, .int .u8 0, .int .u8 0, .int .u8 0, .int .u8 0, .int .u8 0, .int .u8 0, .int .u8 0, .int .u8 0, .int .u8 0, .int .u8 0, .int .u8 0, .int .u8 0, .int .u8 0, .int .u8 0, .int .u8 0, .int .u8 0, .int .u8 0, .int .u8 0, .int .u8 0, .int .u8 0, .int .u8 0, .int .u8 0, .int .u8 0, .int .u8 0, .int .u8 0, .int .u8 0, .int .u8 0, .int .u8 0, .int .u8 0], true⟩ := by kernel_rfl
theorem Tryz.y435 : tyOf Tryz.prog 435 = some ⟨.array 64 5, 64, 64, .agg #[.int .u8 0, .int .u8 0, .int .u8 0, .int .u8 0, .int .u8 0, .int .u8 0, .int .u8 0, .int .u8 0, .int .u8 0, .int .u8 0, .int .u8 0, .int .u8 0, .int .u8 0, .int .u8 0, .int .u8 0, .int .u8 0, .int .u8 0, .int .u8 0, .int .u8 0, .int .u8 0, .int .u8 0, .int .u8 0, .int .u8 0, .int .u8 0, .int .u8 0, .int .u8 0, .int .u8 0, .int .u8 0, .int .u8 0, .int .u8 0, .int .u8 0, .int .u8 0, .int .u8 0, .int .u8 0, .int .u8 0, .int .u8 0, .int .u8 0, .int .u8 0, .int .u8 0, .int .u8 0, .int .u8 0, .int .u8 0, .int .u8 0, .int .u8 0, .int .u8 0, .int .u8 0, .int .u8 0, .int .u8 0, .int .u8 0, .int .u8 0, .int .u8 0, .int .u8 0, .int .u8 0, .int .u8 0, .int .u8 0, .int .u8 0, .int .u8 0, .int .u8 0, .int .u8 0, .int .u8 0, .int .u8 0, .int .u8 0, .int .u8 0, .int .u8 0], true⟩ := by kernel_rfl
noncomputable def Tryz.fd436_0 : Field := match Tryz.prog.underlying 436 with | some (.struct fs) => fs.getD 0 default | _ => default
theorem Tryz.fd436_0t : Tryz.fd436_0.type = 17 := by kernel_rfl
theorem Tryz.fd436_0o : Tryz.fd436_0.offset = 0 := by kernel_rfl
theorem Tryz.fd436_0n : (Tryz.fd436_0.name = "_") = False := eq_false (by decide +kernel)
noncomputable def Tryz.fd436_1 : Field := match Tryz.prog.underlying 436 with | some (.struct fs) => fs.getD 1 default | _ => default
theorem Tryz.fd436_1t : Tryz.fd436_1.type = 17 := by kernel_rfl
theorem Tryz.fd436_1o : Tryz.fd436_1.offset = 1 := by kernel_rfl
theorem Tryz.fd436_1n : (Tryz.fd436_1.name = "_") = False := eq_false (by decide +kernel)
noncomputable def Tryz.fd436_2 : Field := match Tryz.prog.underlying 436 with | some (.struct fs) => fs.getD 2 default | _ => default
theorem Tryz.fd436_2t : Tryz.fd436_2.type = 17 := by kernel_rfl
theorem Tryz.fd436_2o : Tryz.fd436_2.offset = 2 := by kernel_rfl
theorem Tryz.fd436_2n : (Tryz.fd436_2.name = "_") = False := eq_false (by decide +kernel)
noncomputable def Tryz.fd436_3 : Field := match Tryz.prog.underlying 436 with | some (.struct fs) => fs.getD 3 default | _ => default
theorem Tryz.fd436_3t : Tryz.fd436_3.type = 9 := by kernel_rfl
theorem Tryz.fd436_3o : Tryz.fd436_3.offset = 3 := by kernel_rfl
theorem Tryz.fd436_3n : (Tryz.fd436_3.name = "_") = False := eq_false (by decide +kernel)
theorem Tryz.y436 : tyOf Tryz.prog 436 = some ⟨.struct #[Tryz.fd436_0, Tryz.fd436_1, Tryz.fd436_2, Tryz.fd436_3], 4, 40, .agg #[.pointer none, .pointer none, .pointer none, .string ⟨#[]⟩], false⟩ := by kernel_rfl
noncomputable def Tryz.fd437_0 : Field := match Tryz.prog.underlying 437 with | some (.struct fs) => fs.getD 0 default | _ => default
theorem Tryz.fd437_0t : Tryz.fd437_0.type = 17 := by kernel_rfl
theorem Tryz.fd437_0o : Tryz.fd437_0.offset = 0 := by kernel_rfl
theorem Tryz.fd437_0n : (Tryz.fd437_0.name = "_") = False := eq_false (by decide +kernel)
noncomputable def Tryz.fd437_1 : Field := match Tryz.prog.underlying 437 with | some (.struct fs) => fs.getD 1 default | _ => default
theorem Tryz.fd437_1t : Tryz.fd437_1.type = 17 := by kernel_rfl
theorem Tryz.fd437_1o : Tryz.fd437_1.offset = 1 := by kernel_rfl
theorem Tryz.fd437_1n : (Tryz.fd437_1.name = "_") = False := eq_false (by decide +kernel)
noncomputable def Tryz.fd437_2 : Field := match Tryz.prog.underlying 437 with | some (.struct fs) => fs.getD 2 default | _ => default
theorem Tryz.fd437_2t : Tryz.fd437_2.type = 17 := by kernel_rfl
theorem Tryz.fd437_2o : Tryz.fd437_2.offset = 2 := by kernel_rfl
theorem Tryz.fd437_2n : (Tryz.fd437_2.name = "_") = False := eq_false (by decide +kernel)
noncomputable def Tryz.fd437_3 : Field := match Tryz.prog.underlying 437 with | some (.struct fs) => fs.getD 3 default | _ => default
theorem Tryz.fd437_3t : Tryz.fd437_3.type = 9 := by kernel_rfl
theorem Tryz.fd437_3o : Tryz.fd437_3.offset = 3 := by kernel_rfl
theorem Tryz.fd437_3n : (Tryz.fd437_3.name = "_") = False := eq_false (by decide +kernel)
theorem Tryz.y437 : tyOf Tryz.prog 437 = some ⟨.struct #[Tryz.fd437_0, Tryz.fd437_1, Tryz.fd437_2, Tryz.fd437_3], 4, 40, .agg #[.pointer none, .pointer none, .pointer none, .string ⟨#[]⟩], false⟩ := by kernel_rfl
theorem Tryz.y438 : tyOf Tryz.prog 438 = some ⟨.array 0 16, 0, 0, .agg #[], true⟩ := by kernel_rfl
noncomputable def Tryz.fd439_0 : Field := match Tryz.prog.underlying 439 with | some (.struct fs) => fs.getD 0 default | _ => default
theorem Tryz.fd439_0t : Tryz.fd439_0.type = 438 := by kernel_rfl
theorem Tryz.fd439_0o : Tryz.fd439_0.offset = 0 := by kernel_rfl
theorem Tryz.y439 : tyOf Tryz.prog 439 = some ⟨.struct #[Tryz.fd439_0], 0, 0, .agg #[], false⟩ := by kernel_rfl
noncomputable def Tryz.fd440_0 : Field := match Tryz.prog.underlying 440 with | some (.struct fs) => fs.getD 0 default | _ => default
theorem Tryz.fd440_0t : Tryz.fd440_0.type = 438 := by kernel_rfl
theorem Tryz.fd440_0o : Tryz.fd440_0.offset = 0 := by kernel_rfl
theorem Tryz.y440 : tyOf Tryz.prog 440 = some ⟨.struct #[Tryz.fd440_0], 0, 0, .agg #[], false⟩ := by kernel_rfl
attribute [simp] Tryz.fd7_0t Tryz.fd7_0o Tryz.fd7_0n Tryz.fd7_1t Tryz.fd7_1o Tryz.fd7_1n Tryz.fd7_2t Tryz.fd7_2o Tryz.fd7_2n Tryz.fd7_3t Tryz.fd7_3o Tryz.fd7_3n Tryz.y7 Tryz.fd8_0t Tryz.fd8_0o Tryz.fd8_0n Tryz.fd8_1t Tryz.fd8_1o Tryz.fd8_1n Tryz.fd8_2t
attribute [simp] Tryz.fd8_2o Tryz.fd8_2n Tryz.fd8_3t Tryz.fd8_3o Tryz.fd8_3n Tryz.y8 Tryz.fd13_0t Tryz.fd13_0o Tryz.fd13_0n Tryz.fd13_1t Tryz.fd13_1o Tryz.fd13_1n Tryz.y13 Tryz.fd14_0t Tryz.fd14_0o Tryz.fd14_0n Tryz.fd14_1t Tryz.fd14_1o Tryz.fd14_1n Tryz.y14
attribute [simp] Tryz.fd18_0t Tryz.fd18_0o Tryz.fd18_0n Tryz.y18 Tryz.fd19_0t Tryz.fd19_0o Tryz.fd19_0n Tryz.y19 Tryz.y23 Tryz.fd24_0t Tryz.fd24_0o Tryz.fd24_0n Tryz.fd24_1t Tryz.fd24_1o Tryz.fd24_1n Tryz.fd24_2t Tryz.fd24_2o Tryz.fd24_2n Tryz.y24 Tryz.fd25_0t
attribute [simp] Tryz.fd25_0o Tryz.fd25_0n Tryz.fd25_1t Tryz.fd25_1o Tryz.fd25_1n Tryz.fd25_2t Tryz.fd25_2o Tryz.fd25_2n Tryz.y25 Tryz.fd27_0t Tryz.fd27_0o Tryz.fd27_0n Tryz.fd27_1t Tryz.fd27_1o Tryz.fd27_1n Tryz.y27 Tryz.fd28_0t Tryz.fd28_0o Tryz.fd28_0n Tryz.fd28_1t
attribute [simp] Tryz.fd28_1o Tryz.fd28_1n Tryz.y28 Tryz.fd33_0t Tryz.fd33_0o Tryz.fd33_0n Tryz.fd33_1t Tryz.fd33_1o Tryz.fd33_1n Tryz.y33 Tryz.fd34_0t Tryz.fd34_0o Tryz.fd34_0n Tryz.fd34_1t Tryz.fd34_1o Tryz.fd34_1n Tryz.y34 Tryz.fd36_0t Tryz.fd36_0o Tryz.fd36_0n
attribute [simp] Tryz.fd36_1t Tryz.fd36_1o Tryz.fd36_1n Tryz.fd36_2t Tryz.fd36_2o Tryz.fd36_2n Tryz.y36 Tryz.fd37_0t Tryz.fd37_0o Tryz.fd37_0n Tryz.fd37_1t Tryz.fd37_1o Tryz.fd37_1n Tryz.fd37_2t Tryz.fd37_2o Tryz.fd37_2n Tryz.y37 Tryz.fd53_0t Tryz.fd53_0o Tryz.fd53_0n
attribute [simp] Tryz.fd53_1t Tryz.fd53_1o Tryz.fd53_1n Tryz.fd53_2t Tryz.fd53_2o Tryz.fd53_2n Tryz.y53 Tryz.fd54_0t Tryz.fd54_0o Tryz.fd54_0n Tryz.fd54_1t Tryz.fd54_1o Tryz.fd54_1n Tryz.fd54_2t Tryz.fd54_2o Tryz.fd54_2n Tryz.y54 Tryz.fd56_0t Tryz.fd56_0o Tryz.fd56_0n
attribute [simp] Tryz.fd56_1t Tryz.fd56_1o Tryz.fd56_1n Tryz.fd56_2t Tryz.fd56_2o Tryz.fd56_2n Tryz.y56 Tryz.fd57_0t Tryz.fd57_0o Tryz.fd57_0n Tryz.fd57_1t Tryz.fd57_1o Tryz.fd57_1n Tryz.fd57_2t Tryz.fd57_2o Tryz.fd57_2n Tryz.y57 Tryz.fd58_0t Tryz.fd58_0o Tryz.fd58_0n
attribute [simp] Tryz.fd58_1t Tryz.fd58_1o Tryz.fd58_1n Tryz.y58 Tryz.fd59_0t Tryz.fd59_0o Tryz.fd59_0n Tryz.fd59_1t Tryz.fd59_1o Tryz.fd59_1n Tryz.y59 Tryz.fd60_0t Tryz.fd60_0o Tryz.fd60_0n Tryz.fd60_1t Tryz.fd60_1o Tryz.fd60_1n Tryz.y60 Tryz.fd61_0t Tryz.fd61_0o
attribute [simp] Tryz.fd61_0n Tryz.fd61_1t Tryz.fd61_1o Tryz.fd61_1n Tryz.y61 Tryz.fd63_0t Tryz.fd63_0o Tryz.fd63_0n Tryz.fd63_1t Tryz.fd63_1o Tryz.fd63_1n Tryz.fd63_2t Tryz.fd63_2o Tryz.fd63_2n Tryz.y63 Tryz.fd64_0t Tryz.fd64_0o Tryz.fd64_0n Tryz.fd64_1t Tryz.fd64_1o
attribute [simp] Tryz.fd64_1n Tryz.fd64_2t Tryz.fd64_2o Tryz.fd64_2n Tryz.y64 Tryz.fd65_0t Tryz.fd65_0o Tryz.fd65_0n Tryz.fd65_1t Tryz.fd65_1o Tryz.fd65_1n Tryz.fd65_2t Tryz.fd65_2o Tryz.fd65_2n Tryz.y65 Tryz.fd66_0t Tryz.fd66_0o Tryz.fd66_0n Tryz.fd66_1t Tryz.fd66_1o
attribute [simp] Tryz.fd66_1n Tryz.fd66_2t Tryz.fd66_2o Tryz.fd66_2n Tryz.y66 Tryz.y67 Tryz.fd68_0t Tryz.fd68_0o Tryz.fd68_0n Tryz.fd68_1t Tryz.fd68_1o Tryz.fd68_1n Tryz.y68 Tryz.fd69_0t Tryz.fd69_0o Tryz.fd69_0n Tryz.fd69_1t Tryz.fd69_1o Tryz.fd69_1n Tryz.y69
attribute [simp] Tryz.fd70_0t Tryz.fd70_0o Tryz.fd70_0n Tryz.fd70_1t Tryz.fd70_1o Tryz.fd70_1n Tryz.fd70_2t Tryz.fd70_2o Tryz.fd70_2n Tryz.fd70_3t Tryz.fd70_3o Tryz.fd70_3n Tryz.fd70_4t Tryz.fd70_4o Tryz.fd70_4n Tryz.fd70_5t Tryz.fd70_5o Tryz.fd70_5n Tryz.fd70_6t Tryz.fd70_6o
attribute [simp] Tryz.fd70_6n Tryz.y70 Tryz.fd71_0t Tryz.fd71_0o Tryz.fd71_0n Tryz.fd71_1t Tryz.fd71_1o Tryz.fd71_1n Tryz.fd71_2t Tryz.fd71_2o Tryz.fd71_2n Tryz.fd71_3t Tryz.fd71_3o Tryz.fd71_3n Tryz.fd71_4t Tryz.fd71_4o Tryz.fd71_4n Tryz.fd71_5t Tryz.fd71_5o Tryz.fd71_5n
attribute [simp] Tryz.fd71_6t Tryz.fd71_6o Tryz.fd71_6n Tryz.y71 Tryz.fd76_0t Tryz.fd76_0o Tryz.fd76_0n Tryz.fd76_1t Tryz.fd76_1o Tryz.fd76_1n Tryz.fd76_2t Tryz.fd76_2o Tryz.fd76_2n Tryz.y76 Tryz.fd77_0t Tryz.fd77_0o Tryz.fd77_0n Tryz.fd77_1t Tryz.fd77_1o Tryz.fd77_1n
attribute [simp] Tryz.fd77_2t Tryz.fd77_2o Tryz.fd77_2n Tryz.y77 Tryz.fd84_0t Tryz.fd84_0o Tryz.fd84_0n Tryz.fd84_1t Tryz.fd84_1o Tryz.fd84_1n Tryz.fd84_2t Tryz.fd84_2o Tryz.fd84_2n Tryz.fd84_3t Tryz.fd84_3o Tryz.fd84_3n Tryz.y84 Tryz.fd85_0t Tryz.fd85_0o Tryz.fd85_0n
attribute [simp] Tryz.fd85_1t Tryz.fd85_1o Tryz.fd85_1n Tryz.fd85_2t Tryz.fd85_2o Tryz.fd85_2n Tryz.fd85_3t Tryz.fd85_3o Tryz.fd85_3n Tryz.y85 Tryz.y88 Tryz.y97 Tryz.y98 Tryz.fd99_0t Tryz.fd99_0o Tryz.fd99_0n Tryz.fd99_1t Tryz.fd99_1o Tryz.fd99_1n Tryz.fd99_2t
attribute [simp] Tryz.fd99_2o Tryz.fd99_2n Tryz.fd99_3t Tryz.fd99_3o Tryz.fd99_3n Tryz.fd99_4t Tryz.fd99_4o Tryz.fd99_4n Tryz.y99 Tryz.fd100_0t Tryz.fd100_0o Tryz.fd100_0n Tryz.fd100_1t Tryz.fd100_1o Tryz.fd100_1n Tryz.fd100_2t Tryz.fd100_2o Tryz.fd100_2n Tryz.fd100_3t Tryz.fd100_3o
attribute [simp] Tryz.fd100_3n Tryz.fd100_4t Tryz.fd100_4o Tryz.fd100_4n Tryz.y100 Tryz.fd111_0t Tryz.fd111_0o Tryz.fd111_0n Tryz.fd111_1t Tryz.fd111_1o Tryz.fd111_1n Tryz.fd111_2t Tryz.fd111_2o Tryz.fd111_2n Tryz.y111 Tryz.fd112_0t Tryz.fd112_0o Tryz.fd112_0n Tryz.fd112_1t Tryz.fd112_1o
attribute [simp] Tryz.fd112_1n Tryz.fd112_2t Tryz.fd112_2o Tryz.fd112_2n Tryz.y112 Tryz.fd117_0t Tryz.fd117_0o Tryz.fd117_0n Tryz.fd117_1t Tryz.fd117_1o Tryz.fd117_1n Tryz.y117 Tryz.fd118_0t Tryz.fd118_0o Tryz.fd118_0n Tryz.fd118_1t Tryz.fd118_1o Tryz.fd118_1n Tryz.y118 Tryz.fd120_0t
attribute [simp] Tryz.fd120_0o Tryz.fd120_0n Tryz.fd120_1t Tryz.fd120_1o Tryz.fd120_1n Tryz.y120 Tryz.fd121_0t Tryz.fd121_0o Tryz.fd121_0n Tryz.fd121_1t Tryz.fd121_1o Tryz.fd121_1n Tryz.y121 Tryz.fd124_0t Tryz.fd124_0o Tryz.fd124_0n Tryz.fd124_1t Tryz.fd124_1o Tryz.fd124_1n Tryz.fd124_2t
attribute [simp] Tryz.fd124_2o Tryz.fd124_2n Tryz.fd124_3t Tryz.fd124_3o Tryz.fd124_3n Tryz.y124 Tryz.fd125_0t Tryz.fd125_0o Tryz.fd125_0n Tryz.fd125_1t Tryz.fd125_1o Tryz.fd125_1n Tryz.fd125_2t Tryz.fd125_2o Tryz.fd125_2n Tryz.fd125_3t Tryz.fd125_3o Tryz.fd125_3n Tryz.y125 Tryz.y135
attribute [simp] Tryz.fd140_0t Tryz.fd140_0o Tryz.fd140_0n Tryz.fd140_1t Tryz.fd140_1o Tryz.fd140_1n Tryz.y140 Tryz.fd141_0t Tryz.fd141_0o Tryz.fd141_0n Tryz.fd141_1t Tryz.fd141_1o Tryz.fd141_1n Tryz.y141 Tryz.fd147_0t Tryz.fd147_0o Tryz.fd147_0n Tryz.fd147_1t Tryz.fd147_1o Tryz.fd147_1n
attribute [simp] Tryz.y147 Tryz.fd148_0t Tryz.fd148_0o Tryz.fd148_0n Tryz.fd148_1t Tryz.fd148_1o Tryz.fd148_1n Tryz.y148 Tryz.y149 Tryz.fd159_0t Tryz.fd159_0o Tryz.fd159_0n Tryz.fd159_1t Tryz.fd159_1o Tryz.fd159_1n Tryz.fd159_2t Tryz.fd159_2o Tryz.fd159_2n Tryz.fd159_3t Tryz.fd159_3o
attribute [simp] Tryz.fd159_3n Tryz.fd159_4t Tryz.fd159_4o Tryz.fd159_4n Tryz.y159 Tryz.fd160_0t Tryz.fd160_0o Tryz.fd160_0n Tryz.fd160_1t Tryz.fd160_1o Tryz.fd160_1n Tryz.fd160_2t Tryz.fd160_2o Tryz.fd160_2n Tryz.fd160_3t Tryz.fd160_3o Tryz.fd160_3n Tryz.fd160_4t Tryz.fd160_4o Tryz.fd160_4n
attribute [simp] Tryz.y160 Tryz.y176 Tryz.y177 Tryz.fd217_0t Tryz.fd217_0o Tryz.fd217_0n Tryz.fd217_1t Tryz.fd217_1o Tryz.fd217_1n Tryz.y217 Tryz.fd218_0t Tryz.fd218_0o Tryz.fd218_0n Tryz.fd218_1t Tryz.fd218_1o Tryz.fd218_1n Tryz.y218 Tryz.y220 Tryz.y255 Tryz.y286
attribute [simp] Tryz.fd341_0t Tryz.fd341_0o Tryz.fd341_0n Tryz.fd341_1t Tryz.fd341_1o Tryz.fd341_1n Tryz.y341 Tryz.fd342_0t Tryz.fd342_0o Tryz.fd342_0n Tryz.fd342_1t Tryz.fd342_1o Tryz.fd342_1n Tryz.y342 Tryz.fd384_0t Tryz.fd384_0o Tryz.fd384_0n Tryz.fd384_1t Tryz.fd384_1o Tryz.fd384_1n
attribute [simp] Tryz.y384 Tryz.fd385_0t Tryz.fd385_0o Tryz.fd385_0n Tryz.fd385_1t Tryz.fd385_1o Tryz.fd385_1n Tryz.y385 Tryz.y398 Tryz.y418 Tryz.y419 Tryz.fd426_0t Tryz.fd426_0o Tryz.fd426_0n Tryz.y426 Tryz.fd427_0t Tryz.fd427_0o Tryz.fd427_0n Tryz.y427 Tryz.fd428_0t
attribute [simp] Tryz.fd428_0o Tryz.fd428_0n Tryz.fd428_1t Tryz.fd428_1o Tryz.fd428_1n Tryz.y428 Tryz.fd429_0t Tryz.fd429_0o Tryz.fd429_0n Tryz.fd429_1t Tryz.fd429_1o Tryz.fd429_1n Tryz.y429 Tryz.y430 Tryz.y434 Tryz.y435 Tryz.fd436_0t Tryz.fd436_0o Tryz.fd436_0n Tryz.fd436_1t
attribute [simp] Tryz.fd436_1o Tryz.fd436_1n Tryz.fd436_2t Tryz.fd436_2o Tryz.fd436_2n Tryz.fd436_3t Tryz.fd436_3o Tryz.fd436_3n Tryz.y436 Tryz.fd437_0t Tryz.fd437_0o Tryz.fd437_0n Tryz.fd437_1t Tryz.fd437_1o Tryz.fd437_1n Tryz.fd437_2t Tryz.fd437_2o Tryz.fd437_2n Tryz.fd437_3t Tryz.fd437_3o
attribute [simp] Tryz.fd437_3n Tryz.y437 Tryz.y438 Tryz.fd439_0t Tryz.fd439_0o Tryz.y439 Tryz.fd440_0t Tryz.fd440_0o Tryz.y440
end Go.Proofs
