/- See L55. -/
import Derived.Test.YtiopbpbcgccngaaGreatDoorL14
set_option linter.all false
namespace Go.Proofs
open Go.Eng
noncomputable def Tryz.fd33_0 : Field := match Tryz.prog.underlying 33 with | some (.struct fs) => fs.getD 0 default | _ => default
theorem Tryz.fd33_0t : Tryz.fd33_0.type = 9 := by kernel_rfl
theorem Tryz.fd33_0o : Tryz.fd33_0.offset = 0 := by kernel_rfl
theorem Tryz.fd33_0n : (Tryz.fd33_0.name = "_") = False := eq_false (by decide +kernel)
noncomputable def Tryz.fd33_1 : Field := match Tryz.prog.underlying 33 with | some (.struct fs) => fs.getD 1 default | _ => default
theorem Tryz.fd33_1t : Tryz.fd33_1.type = 31 := by kernel_rfl
theorem Tryz.fd33_1o : Tryz.fd33_1.offset = 1 := by kernel_rfl
theorem Tryz.fd33_1n : (Tryz.fd33_1.name = "_") = False := eq_false (by decide +kernel)
noncomputable def Tryz.fd33_2 : Field := match Tryz.prog.underlying 33 with | some (.struct fs) => fs.getD 2 default | _ => default
theorem Tryz.fd33_2t : Tryz.fd33_2.type = 31 := by kernel_rfl
theorem Tryz.fd33_2o : Tryz.fd33_2.offset = 2 := by kernel_rfl
theorem Tryz.fd33_2n : (Tryz.fd33_2.name = "_") = False := eq_false (by decide +kernel)
theorem Tryz.y33 : tyOf Tryz.prog 33 = some ⟨.struct #[Tryz.fd33_0,Tryz.fd33_1,Tryz.fd33_2],3,48,.agg #[.string ⟨#[]⟩,.string ⟨#[]⟩,.string ⟨#[]⟩],true⟩ := by kernel_rfl
noncomputable def Tryz.fd44_0 : Field := match Tryz.prog.underlying 44 with | some (.struct fs) => fs.getD 0 default | _ => default
theorem Tryz.fd44_0t : Tryz.fd44_0.type = 31 := by kernel_rfl
theorem Tryz.fd44_0o : Tryz.fd44_0.offset = 0 := by kernel_rfl
theorem Tryz.fd44_0n : (Tryz.fd44_0.name = "_") = False := eq_false (by decide +kernel)
noncomputable def Tryz.fd44_1 : Field := match Tryz.prog.underlying 44 with | some (.struct fs) => fs.getD 1 default | _ => default
theorem Tryz.fd44_1t : Tryz.fd44_1.type = 31 := by kernel_rfl
theorem Tryz.fd44_1o : Tryz.fd44_1.offset = 1 := by kernel_rfl
theorem Tryz.fd44_1n : (Tryz.fd44_1.name = "_") = False := eq_false (by decide +kernel)
noncomputable def Tryz.fd44_2 : Field := match Tryz.prog.underlying 44 with | some (.struct fs) => fs.getD 2 default | _ => default
theorem Tryz.fd44_2t : Tryz.fd44_2.type = 9 := by kernel_rfl
theorem Tryz.fd44_2o : Tryz.fd44_2.offset = 2 := by kernel_rfl
theorem Tryz.fd44_2n : (Tryz.fd44_2.name = "_") = False := eq_false (by decide +kernel)
noncomputable def Tryz.fd44_3 : Field := match Tryz.prog.underlying 44 with | some (.struct fs) => fs.getD 3 default | _ => default
theorem Tryz.fd44_3t : Tryz.fd44_3.type = 9 := by kernel_rfl
theorem Tryz.fd44_3o : Tryz.fd44_3.offset = 3 := by kernel_rfl
theorem Tryz.fd44_3n : (Tryz.fd44_3.name = "_") = False := eq_false (by decide +kernel)
theorem Tryz.y44 : tyOf Tryz.prog 44 = some ⟨.struct #[Tryz.fd44_0,Tryz.fd44_1,Tryz.fd44_2,Tryz.fd44_3],4,64,.agg #[.string ⟨#[]⟩,.string ⟨#[]⟩,.string ⟨#[]⟩,.string ⟨#[]⟩],true⟩ := by kernel_rfl
noncomputable def Tryz.fd70_0 : Field := match Tryz.prog.underlying 70 with | some (.struct fs) => fs.getD 0 default | _ => default
theorem Tryz.fd70_0t : Tryz.fd70_0.type = 67 := by kernel_rfl
theorem Tryz.fd70_0o : Tryz.fd70_0.offset = 0 := by kernel_rfl
theorem Tryz.fd70_0n : (Tryz.fd70_0.name = "_") = False := eq_false (by decide +kernel)
noncomputable def Tryz.fd70_1 : Field := match Tryz.prog.underlying 70 with | some (.struct fs) => fs.getD 1 default | _ => default
theorem Tryz.fd70_1t : Tryz.fd70_1.type = 68 := by kernel_rfl
theorem Tryz.fd70_1o : Tryz.fd70_1.offset = 1 := by kernel_rfl
theorem Tryz.fd70_1n : (Tryz.fd70_1.name = "_") = False := eq_false (by decide +kernel)
theorem Tryz.y70 : tyOf Tryz.prog 70 = some ⟨.struct #[Tryz.fd70_0,Tryz.fd70_1],2,48,.agg #[.slice none 0 0,.slice none 0 0],true⟩ := by kernel_rfl
noncomputable def Tryz.fd77_0 : Field := match Tryz.prog.underlying 77 with | some (.struct fs) => fs.getD 0 default | _ => default
theorem Tryz.fd77_0t : Tryz.fd77_0.type = 5 := by kernel_rfl
theorem Tryz.fd77_0o : Tryz.fd77_0.offset = 0 := by kernel_rfl
theorem Tryz.fd77_0n : (Tryz.fd77_0.name = "_") = False := eq_false (by decide +kernel)
noncomputable def Tryz.fd77_1 : Field := match Tryz.prog.underlying 77 with | some (.struct fs) => fs.getD 1 default | _ => default
theorem Tryz.fd77_1t : Tryz.fd77_1.type = 5 := by kernel_rfl
theorem Tryz.fd77_1o : Tryz.fd77_1.offset = 1 := by kernel_rfl
theorem Tryz.fd77_1n : (Tryz.fd77_1.name = "_") = False := eq_false (by decide +kernel)
noncomputable def Tryz.fd77_2 : Field := match Tryz.prog.underlying 77 with | some (.struct fs) => fs.getD 2 default | _ => default
theorem Tryz.fd77_2t : Tryz.fd77_2.type = 5 := by kernel_rfl
theorem Tryz.fd77_2o : Tryz.fd77_2.offset = 2 := by kernel_rfl
theorem Tryz.fd77_2n : (Tryz.fd77_2.name = "_") = False := eq_false (by decide +kernel)
theorem Tryz.y77 : tyOf Tryz.prog 77 = some ⟨.struct #[Tryz.fd77_0,Tryz.fd77_1,Tryz.fd77_2],3,3,.agg #[.int .u8 0,.int .u8 0,.int .u8 0],true⟩ := by kernel_rfl
noncomputable def Tryz.fd152_0 : Field := match Tryz.prog.underlying 152 with | some (.struct fs) => fs.getD 0 default | _ => default
theorem Tryz.fd152_0t : Tryz.fd152_0.type = 4 := by kernel_rfl
theorem Tryz.fd152_0o : Tryz.fd152_0.offset = 0 := by kernel_rfl
theorem Tryz.fd152_0n : (Tryz.fd152_0.name = "_") = False := eq_false (by decide +kernel)
noncomputable def Tryz.fd152_1 : Field := match Tryz.prog.underlying 152 with | some (.struct fs) => fs.getD 1 default | _ => default
theorem Tryz.fd152_1t : Tryz.fd152_1.type = 150 := by kernel_rfl
theorem Tryz.fd152_1o : Tryz.fd152_1.offset = 1 := by kernel_rfl
theorem Tryz.fd152_1n : (Tryz.fd152_1.name = "_") = False := eq_false (by decide +kernel)
theorem Tryz.y152 : tyOf Tryz.prog 152 = some ⟨.struct #[Tryz.fd152_0,Tryz.fd152_1],2,32,.agg #[.bool false,.slice none 0 0],true⟩ := by kernel_rfl
noncomputable def Tryz.fd197_0 : Field := match Tryz.prog.underlying 197 with | some (.struct fs) => fs.getD 0 default | _ => default
theorem Tryz.fd197_0t : Tryz.fd197_0.type = 195 := by kernel_rfl
theorem Tryz.fd197_0o : Tryz.fd197_0.offset = 0 := by kernel_rfl
theorem Tryz.fd197_0n : (Tryz.fd197_0.name = "_") = False := eq_false (by decide +kernel)
noncomputable def Tryz.fd197_1 : Field := match Tryz.prog.underlying 197 with | some (.struct fs) => fs.getD 1 default | _ => default
theorem Tryz.fd197_1t : Tryz.fd197_1.type = 161 := by kernel_rfl
theorem Tryz.fd197_1o : Tryz.fd197_1.offset = 1 := by kernel_rfl
theorem Tryz.fd197_1n : (Tryz.fd197_1.name = "_") = False := eq_false (by decide +kernel)
theorem Tryz.y197 : tyOf Tryz.prog 197 = some ⟨.struct #[Tryz.fd197_0,Tryz.fd197_1],2,32,.agg #[.pointer none,.slice none 0 0],true⟩ := by kernel_rfl
theorem Tryz.y307 : tyOf Tryz.prog 307 = some ⟨.array 2 3,2,16,.agg #[.int .i64 0,.int .i64 0],true⟩ := by kernel_rfl
attribute [simp] Tryz.fd33_0t Tryz.fd33_0o
attribute [simp] Tryz.fd33_0n Tryz.fd33_1t Tryz.fd33_1o Tryz.fd33_1n Tryz.fd33_2t Tryz.fd33_2o Tryz.fd33_2n Tryz.y33
attribute [simp] Tryz.fd44_0t Tryz.fd44_0o Tryz.fd44_0n Tryz.fd44_1t Tryz.fd44_1o Tryz.fd44_1n Tryz.fd44_2t Tryz.fd44_2o Tryz.fd44_2n Tryz.fd44_3t Tryz.fd44_3o Tryz.fd44_3n Tryz.y44
attribute [simp] Tryz.fd70_0t Tryz.fd70_0o Tryz.fd70_0n Tryz.fd70_1t Tryz.fd70_1o Tryz.fd70_1n Tryz.y70
attribute [simp] Tryz.fd77_0t Tryz.fd77_0o
attribute [simp] Tryz.fd77_0n Tryz.fd77_1t Tryz.fd77_1o Tryz.fd77_1n Tryz.fd77_2t Tryz.fd77_2o Tryz.fd77_2n Tryz.y77
attribute [simp] Tryz.fd152_0t Tryz.fd152_0o Tryz.fd152_0n Tryz.fd152_1t Tryz.fd152_1o Tryz.fd152_1n Tryz.y152
attribute [simp] Tryz.fd197_0t Tryz.fd197_0o
attribute [simp] Tryz.fd197_0n Tryz.fd197_1t Tryz.fd197_1o Tryz.fd197_1n Tryz.y197
attribute [simp] Tryz.y307
end Go.Proofs
