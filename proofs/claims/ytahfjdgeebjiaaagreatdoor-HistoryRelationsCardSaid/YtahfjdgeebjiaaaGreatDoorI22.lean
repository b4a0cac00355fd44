/- See I57. -/
import Derived.Test.YtahfjdgeebjiaaaGreatDoorI14
set_option linter.all false
namespace Go.Proofs
open Go.Eng
theorem Tryz.y23 : tyOf Tryz.prog 23 = some ⟨.array 2 22,2,2,.agg #[.int .i8 0,.int .i8 0],true⟩ := by kernel_rfl
noncomputable def Tryz.fd25_0 : Field := match Tryz.prog.underlying 25 with | some (.struct fs) => fs.getD 0 default | _ => default
theorem Tryz.fd25_0t : Tryz.fd25_0.type = 5 := by kernel_rfl
theorem Tryz.fd25_0o : Tryz.fd25_0.offset = 0 := by kernel_rfl
theorem Tryz.fd25_0n : (Tryz.fd25_0.name = "_") = False := eq_false (by decide +kernel)
noncomputable def Tryz.fd25_1 : Field := match Tryz.prog.underlying 25 with | some (.struct fs) => fs.getD 1 default | _ => default
theorem Tryz.fd25_1t : Tryz.fd25_1.type = 23 := by kernel_rfl
theorem Tryz.fd25_1o : Tryz.fd25_1.offset = 1 := by kernel_rfl
theorem Tryz.fd25_1n : (Tryz.fd25_1.name = "_") = False := eq_false (by decide +kernel)
noncomputable def Tryz.fd25_2 : Field := match Tryz.prog.underlying 25 with | some (.struct fs) => fs.getD 2 default | _ => default
theorem Tryz.fd25_2t : Tryz.fd25_2.type = 4 := by kernel_rfl
theorem Tryz.fd25_2o : Tryz.fd25_2.offset = 3 := by kernel_rfl
theorem Tryz.fd25_2n : (Tryz.fd25_2.name = "_") = False := eq_false (by decide +kernel)
theorem Tryz.y25 : tyOf Tryz.prog 25 = some ⟨.struct #[Tryz.fd25_0,Tryz.fd25_1,Tryz.fd25_2],4,4,.agg #[.int .u8 0,.int .i8 0,.int .i8 0,.bool false],true⟩ := by kernel_rfl
noncomputable def Tryz.fd28_0 : Field := match Tryz.prog.underlying 28 with | some (.struct fs) => fs.getD 0 default | _ => default
theorem Tryz.fd28_0t : Tryz.fd28_0.type = 25 := by kernel_rfl
theorem Tryz.fd28_0o : Tryz.fd28_0.offset = 0 := by kernel_rfl
theorem Tryz.fd28_0n : (Tryz.fd28_0.name = "_") = False := eq_false (by decide +kernel)
noncomputable def Tryz.fd28_1 : Field := match Tryz.prog.underlying 28 with | some (.struct fs) => fs.getD 1 default | _ => default
theorem Tryz.fd28_1t : Tryz.fd28_1.type = 26 := by kernel_rfl
theorem Tryz.fd28_1o : Tryz.fd28_1.offset = 4 := by kernel_rfl
theorem Tryz.fd28_1n : (Tryz.fd28_1.name = "_") = False := eq_false (by decide +kernel)
theorem Tryz.y28 : tyOf Tryz.prog 28 = some ⟨.struct #[Tryz.fd28_0,Tryz.fd28_1],5,32,.agg #[.int .u8 0,.int .i8 0,.int .i8 0,.bool false,.slice none 0 0],true⟩ := by kernel_rfl
noncomputable def Tryz.fd34_0 : Field := match Tryz.prog.underlying 34 with | some (.struct fs) => fs.getD 0 default | _ => default
theorem Tryz.fd34_0t : Tryz.fd34_0.type = 31 := by kernel_rfl
theorem Tryz.fd34_0o : Tryz.fd34_0.offset = 0 := by kernel_rfl
theorem Tryz.fd34_0n : (Tryz.fd34_0.name = "_") = False := eq_false (by decide +kernel)
noncomputable def Tryz.fd34_1 : Field := match Tryz.prog.underlying 34 with | some (.struct fs) => fs.getD 1 default | _ => default
theorem Tryz.fd34_1t : Tryz.fd34_1.type = 32 := by kernel_rfl
theorem Tryz.fd34_1o : Tryz.fd34_1.offset = 1 := by kernel_rfl
theorem Tryz.fd34_1n : (Tryz.fd34_1.name = "_") = False := eq_false (by decide +kernel)
theorem Tryz.y34 : tyOf Tryz.prog 34 = some ⟨.struct #[Tryz.fd34_0,Tryz.fd34_1],2,48,.agg #[.slice none 0 0,.slice none 0 0],true⟩ := by kernel_rfl
noncomputable def Tryz.fd37_0 : Field := match Tryz.prog.underlying 37 with | some (.struct fs) => fs.getD 0 default | _ => default
theorem Tryz.fd37_0t : Tryz.fd37_0.type = 34 := by kernel_rfl
theorem Tryz.fd37_0o : Tryz.fd37_0.offset = 0 := by kernel_rfl
theorem Tryz.fd37_0n : (Tryz.fd37_0.name = "_") = False := eq_false (by decide +kernel)
noncomputable def Tryz.fd37_1 : Field := match Tryz.prog.underlying 37 with | some (.struct fs) => fs.getD 1 default | _ => default
theorem Tryz.fd37_1t : Tryz.fd37_1.type = 9 := by kernel_rfl
theorem Tryz.fd37_1o : Tryz.fd37_1.offset = 2 := by kernel_rfl
theorem Tryz.fd37_1n : (Tryz.fd37_1.name = "_") = False := eq_false (by decide +kernel)
noncomputable def Tryz.fd37_2 : Field := match Tryz.prog.underlying 37 with | some (.struct fs) => fs.getD 2 default | _ => default
theorem Tryz.fd37_2t : Tryz.fd37_2.type = 35 := by kernel_rfl
theorem Tryz.fd37_2o : Tryz.fd37_2.offset = 3 := by kernel_rfl
theorem Tryz.fd37_2n : (Tryz.fd37_2.name = "_") = False := eq_false (by decide +kernel)
theorem Tryz.y37 : tyOf Tryz.prog 37 = some ⟨.struct #[Tryz.fd37_0,Tryz.fd37_1,Tryz.fd37_2],4,88,.agg #[.slice none 0 0,.slice none 0 0,.string ⟨#[]⟩,.slice none 0 0],true⟩ := by kernel_rfl
noncomputable def Tryz.fd54_0 : Field := match Tryz.prog.underlying 54 with | some (.struct fs) => fs.getD 0 default | _ => default
theorem Tryz.fd54_0t : Tryz.fd54_0.type = 51 := by kernel_rfl
theorem Tryz.fd54_0o : Tryz.fd54_0.offset = 0 := by kernel_rfl
theorem Tryz.fd54_0n : (Tryz.fd54_0.name = "_") = False := eq_false (by decide +kernel)
noncomputable def Tryz.fd54_1 : Field := match Tryz.prog.underlying 54 with | some (.struct fs) => fs.getD 1 default | _ => default
theorem Tryz.fd54_1t : Tryz.fd54_1.type = 39 := by kernel_rfl
theorem Tryz.fd54_1o : Tryz.fd54_1.offset = 1 := by kernel_rfl
theorem Tryz.fd54_1n : (Tryz.fd54_1.name = "_") = False := eq_false (by decide +kernel)
noncomputable def Tryz.fd54_2 : Field := match Tryz.prog.underlying 54 with | some (.struct fs) => fs.getD 2 default | _ => default
theorem Tryz.fd54_2t : Tryz.fd54_2.type = 52 := by kernel_rfl
theorem Tryz.fd54_2o : Tryz.fd54_2.offset = 2 := by kernel_rfl
theorem Tryz.fd54_2n : (Tryz.fd54_2.name = "_") = False := eq_false (by decide +kernel)
theorem Tryz.y54 : tyOf Tryz.prog 54 = some ⟨.struct #[Tryz.fd54_0,Tryz.fd54_1,Tryz.fd54_2],3,72,.agg #[.slice none 0 0,.slice none 0 0,.slice none 0 0],true⟩ := by kernel_rfl
noncomputable def Tryz.fd57_0 : Field := match Tryz.prog.underlying 57 with | some (.struct fs) => fs.getD 0 default | _ => default
theorem Tryz.fd57_0t : Tryz.fd57_0.type = 55 := by kernel_rfl
theorem Tryz.fd57_0o : Tryz.fd57_0.offset = 0 := by kernel_rfl
theorem Tryz.fd57_0n : (Tryz.fd57_0.name = "_") = False := eq_false (by decide +kernel)
noncomputable def Tryz.fd57_1 : Field := match Tryz.prog.underlying 57 with | some (.struct fs) => fs.getD 1 default | _ => default
theorem Tryz.fd57_1t : Tryz.fd57_1.type = 55 := by kernel_rfl
theorem Tryz.fd57_1o : Tryz.fd57_1.offset = 1 := by kernel_rfl
theorem Tryz.fd57_1n : (Tryz.fd57_1.name = "_") = False := eq_false (by decide +kernel)
noncomputable def Tryz.fd57_2 : Field := match Tryz.prog.underlying 57 with | some (.struct fs) => fs.getD 2 default | _ => default
theorem Tryz.fd57_2t : Tryz.fd57_2.type = 55 := by kernel_rfl
theorem Tryz.fd57_2o : Tryz.fd57_2.offset = 2 := by kernel_rfl
theorem Tryz.fd57_2n : (Tryz.fd57_2.name = "_") = False := eq_false (by decide +kernel)
theorem Tryz.y57 : tyOf Tryz.prog 57 = some ⟨.struct #[Tryz.fd57_0,Tryz.fd57_1,Tryz.fd57_2],3,48,.agg #[.string ⟨#[]⟩,.string ⟨#[]⟩,.string ⟨#[]⟩],true⟩ := by kernel_rfl
noncomputable def Tryz.fd59_0 : Field := match Tryz.prog.underlying 59 with | some (.struct fs) => fs.getD 0 default | _ => default
theorem Tryz.fd59_0t : Tryz.fd59_0.type = 57 := by kernel_rfl
theorem Tryz.fd59_0o : Tryz.fd59_0.offset = 0 := by kernel_rfl
theorem Tryz.fd59_0n : (Tryz.fd59_0.name = "_") = False := eq_false (by decide +kernel)
noncomputable def Tryz.fd59_1 : Field := match Tryz.prog.underlying 59 with | some (.struct fs) => fs.getD 1 default | _ => default
theorem Tryz.fd59_1t : Tryz.fd59_1.type = 55 := by kernel_rfl
theorem Tryz.fd59_1o : Tryz.fd59_1.offset = 3 := by kernel_rfl
theorem Tryz.fd59_1n : (Tryz.fd59_1.name = "_") = False := eq_false (by decide +kernel)
theorem Tryz.y59 : tyOf Tryz.prog 59 = some ⟨.struct #[Tryz.fd59_0,Tryz.fd59_1],4,64,.agg #[.string ⟨#[]⟩,.string ⟨#[]⟩,.string ⟨#[]⟩,.string ⟨#[]⟩],true⟩ := by kernel_rfl
noncomputable def Tryz.fd61_0 : Field := match Tryz.prog.underlying 61 with | some (.struct fs) => fs.getD 0 default | _ => default
theorem Tryz.fd61_0t : Tryz.fd61_0.type = 59 := by kernel_rfl
theorem Tryz.fd61_0o : Tryz.fd61_0.offset = 0 := by kernel_rfl
theorem Tryz.fd61_0n : (Tryz.fd61_0.name = "_") = False := eq_false (by decide +kernel)
noncomputable def Tryz.fd61_1 : Field := match Tryz.prog.underlying 61 with | some (.struct fs) => fs.getD 1 default | _ => default
theorem Tryz.fd61_1t : Tryz.fd61_1.type = 57 := by kernel_rfl
theorem Tryz.fd61_1o : Tryz.fd61_1.offset = 4 := by kernel_rfl
theorem Tryz.fd61_1n : (Tryz.fd61_1.name = "_") = False := eq_false (by decide +kernel)
theorem Tryz.y61 : tyOf Tryz.prog 61 = some ⟨.struct #[Tryz.fd61_0,Tryz.fd61_1],7,112,.agg #[.string ⟨#[]⟩,.string ⟨#[]⟩,.string ⟨#[]⟩,.string ⟨#[]⟩,.string ⟨#[]⟩,.string ⟨#[]⟩,.string ⟨#[]⟩],true⟩ := by kernel_rfl
noncomputable def Tryz.fd64_0 : Field := match Tryz.prog.underlying 64 with | some (.struct fs) => fs.getD 0 default | _ => default
theorem Tryz.fd64_0t : Tryz.fd64_0.type = 57 := by kernel_rfl
theorem Tryz.fd64_0o : Tryz.fd64_0.offset = 0 := by kernel_rfl
theorem Tryz.fd64_0n : (Tryz.fd64_0.name = "_") = False := eq_false (by decide +kernel)
noncomputable def Tryz.fd64_1 : Field := match Tryz.prog.underlying 64 with | some (.struct fs) => fs.getD 1 default | _ => default
theorem Tryz.fd64_1t : Tryz.fd64_1.type = 62 := by kernel_rfl
theorem Tryz.fd64_1o : Tryz.fd64_1.offset = 3 := by kernel_rfl
theorem Tryz.fd64_1n : (Tryz.fd64_1.name = "_") = False := eq_false (by decide +kernel)
noncomputable def Tryz.fd64_2 : Field := match Tryz.prog.underlying 64 with | some (.struct fs) => fs.getD 2 default | _ => default
theorem Tryz.fd64_2t : Tryz.fd64_2.type = 57 := by kernel_rfl
theorem Tryz.fd64_2o : Tryz.fd64_2.offset = 4 := by kernel_rfl
theorem Tryz.fd64_2n : (Tryz.fd64_2.name = "_") = False := eq_false (by decide +kernel)
theorem Tryz.y64 : tyOf Tryz.prog 64 = some ⟨.struct #[Tryz.fd64_0,Tryz.fd64_1,Tryz.fd64_2],7,120,.agg #[.string ⟨#[]⟩,.string ⟨#[]⟩,.string ⟨#[]⟩,.slice none 0 0,.string ⟨#[]⟩,.string ⟨#[]⟩,.string ⟨#[]⟩],true⟩ := by kernel_rfl
noncomputable def Tryz.fd66_0 : Field := match Tryz.prog.underlying 66 with | some (.struct fs) => fs.getD 0 default | _ => default
theorem Tryz.fd66_0t : Tryz.fd66_0.type = 59 := by kernel_rfl
theorem Tryz.fd66_0o : Tryz.fd66_0.offset = 0 := by kernel_rfl
theorem Tryz.fd66_0n : (Tryz.fd66_0.name = "_") = False := eq_false (by decide +kernel)
noncomputable def Tryz.fd66_1 : Field := match Tryz.prog.underlying 66 with | some (.struct fs) => fs.getD 1 default | _ => default
theorem Tryz.fd66_1t : Tryz.fd66_1.type = 55 := by kernel_rfl
theorem Tryz.fd66_1o : Tryz.fd66_1.offset = 4 := by kernel_rfl
theorem Tryz.fd66_1n : (Tryz.fd66_1.name = "_") = False := eq_false (by decide +kernel)
noncomputable def Tryz.fd66_2 : Field := match Tryz.prog.underlying 66 with | some (.struct fs) => fs.getD 2 default | _ => default
theorem Tryz.fd66_2t : Tryz.fd66_2.type = 9 := by kernel_rfl
theorem Tryz.fd66_2o : Tryz.fd66_2.offset = 5 := by kernel_rfl
theorem Tryz.fd66_2n : (Tryz.fd66_2.name = "_") = False := eq_false (by decide +kernel)
theorem Tryz.y66 : tyOf Tryz.prog 66 = some ⟨.struct #[Tryz.fd66_0,Tryz.fd66_1,Tryz.fd66_2],6,96,.agg #[.string ⟨#[]⟩,.string ⟨#[]⟩,.string ⟨#[]⟩,.string ⟨#[]⟩,.string ⟨#[]⟩,.string ⟨#[]⟩],true⟩ := by kernel_rfl
theorem Tryz.y67 : tyOf Tryz.prog 67 = some ⟨.array 4 3,4,32,.agg #[.int .i64 0,.int .i64 0,.int .i64 0,.int .i64 0],true⟩ := by kernel_rfl
noncomputable def Tryz.fd69_0 : Field := match Tryz.prog.underlying 69 with | some (.struct fs) => fs.getD 0 default | _ => default
theorem Tryz.fd69_0t : Tryz.fd69_0.type = 67 := by kernel_rfl
theorem Tryz.fd69_0o : Tryz.fd69_0.offset = 0 := by kernel_rfl
theorem Tryz.fd69_0n : (Tryz.fd69_0.name = "_") = False := eq_false (by decide +kernel)
noncomputable def Tryz.fd69_1 : Field := match Tryz.prog.underlying 69 with | some (.struct fs) => fs.getD 1 default | _ => default
theorem Tryz.fd69_1t : Tryz.fd69_1.type = 57 := by kernel_rfl
theorem Tryz.fd69_1o : Tryz.fd69_1.offset = 4 := by kernel_rfl
theorem Tryz.fd69_1n : (Tryz.fd69_1.name = "_") = False := eq_false (by decide +kernel)
theorem Tryz.y69 : tyOf Tryz.prog 69 = some ⟨.struct #[Tryz.fd69_0,Tryz.fd69_1],7,80,.agg #[.int .i64 0,.int .i64 0,.int .i64 0,.int .i64 0,.string ⟨#[]⟩,.string ⟨#[]⟩,.string ⟨#[]⟩],true⟩ := by kernel_rfl
noncomputable def Tryz.fd71_0 : Field := match Tryz.prog.underlying 71 with | some (.struct fs) => fs.getD 0 default | _ => default
theorem Tryz.fd71_0t : Tryz.fd71_0.type = 3 := by kernel_rfl
theorem Tryz.fd71_0o : Tryz.fd71_0.offset = 0 := by kernel_rfl
theorem Tryz.fd71_0n : (Tryz.fd71_0.name = "_") = False := eq_false (by decide +kernel)
noncomputable def Tryz.fd71_1 : Field := match Tryz.prog.underlying 71 with | some (.struct fs) => fs.getD 1 default | _ => default
theorem Tryz.fd71_1t : Tryz.fd71_1.type = 9 := by kernel_rfl
theorem Tryz.fd71_1o : Tryz.fd71_1.offset = 1 := by kernel_rfl
theorem Tryz.fd71_1n : (Tryz.fd71_1.name = "_") = False := eq_false (by decide +kernel)
noncomputable def Tryz.fd71_2 : Field := match Tryz.prog.underlying 71 with | some (.struct fs) => fs.getD 2 default | _ => default
theorem Tryz.fd71_2t : Tryz.fd71_2.type = 54 := by kernel_rfl
theorem Tryz.fd71_2o : Tryz.fd71_2.offset = 2 := by kernel_rfl
theorem Tryz.fd71_2n : (Tryz.fd71_2.name = "_") = False := eq_false (by decide +kernel)
noncomputable def Tryz.fd71_3 : Field := match Tryz.prog.underlying 71 with | some (.struct fs) => fs.getD 3 default | _ => default
theorem Tryz.fd71_3t : Tryz.fd71_3.type = 61 := by kernel_rfl
theorem Tryz.fd71_3o : Tryz.fd71_3.offset = 5 := by kernel_rfl
theorem Tryz.fd71_3n : (Tryz.fd71_3.name = "_") = False := eq_false (by decide +kernel)
noncomputable def Tryz.fd71_4 : Field := match Tryz.prog.underlying 71 with | some (.struct fs) => fs.getD 4 default | _ => default
theorem Tryz.fd71_4t : Tryz.fd71_4.type = 64 := by kernel_rfl
theorem Tryz.fd71_4o : Tryz.fd71_4.offset = 12 := by kernel_rfl
theorem Tryz.fd71_4n : (Tryz.fd71_4.name = "_") = False := eq_false (by decide +kernel)
noncomputable def Tryz.fd71_5 : Field := match Tryz.prog.underlying 71 with | some (.struct fs) => fs.getD 5 default | _ => default
theorem Tryz.fd71_5t : Tryz.fd71_5.type = 66 := by kernel_rfl
theorem Tryz.fd71_5o : Tryz.fd71_5.offset = 19 := by kernel_rfl
theorem Tryz.fd71_5n : (Tryz.fd71_5.name = "_") = False := eq_false (by decide +kernel)
noncomputable def Tryz.fd71_6 : Field := match Tryz.prog.underlying 71 with | some (.struct fs) => fs.getD 6 default | _ => default
theorem Tryz.fd71_6t : Tryz.fd71_6.type = 69 := by kernel_rfl
theorem Tryz.fd71_6o : Tryz.fd71_6.offset = 25 := by kernel_rfl
theorem Tryz.fd71_6n : (Tryz.fd71_6.name = "_") = False := eq_false (by decide +kernel)
theorem Tryz.y71 : tyOf Tryz.prog 71 = some ⟨.struct #[Tryz.fd71_0,Tryz.fd71_1,Tryz.fd71_2,Tryz.fd71_3,Tryz.fd71_4,Tryz.fd71_5,Tryz.fd71_6],32,504,.agg #[.int .i64 0,.string ⟨#[]⟩,.slice none 0 0,.slice none 0 0,.slice none 0 0,.string ⟨#[]⟩,.string ⟨#[]⟩,.string ⟨#[]⟩,.string ⟨#[]⟩,.string ⟨#[]⟩,.string ⟨#[]⟩,.string ⟨#[]⟩,.string ⟨#[]⟩,.string ⟨#[]⟩,.string ⟨#[]⟩,.slice none 0 0,.string ⟨#[]⟩,.string ⟨#[]⟩,.string ⟨#[]⟩,.string ⟨#[]⟩,.string ⟨#[]⟩,.string ⟨#[]⟩,.string ⟨#[]⟩,.string ⟨#[]⟩,.string ⟨#[]⟩,.int .i64 0,.int .i64 0,.int .i64 0,.int .i64 0,.string ⟨#[]⟩,.string ⟨#[]⟩,.string ⟨#[]⟩],true⟩ := by kernel_rfl
noncomputable def Tryz.fd77_0 : Field := match Tryz.prog.underlying 77 with | some (.struct fs) => fs.getD 0 default | _ => default
theorem Tryz.fd77_0t : Tryz.fd77_0.type = 3 := by kernel_rfl
theorem Tryz.fd77_0o : Tryz.fd77_0.offset = 0 := by kernel_rfl
theorem Tryz.fd77_0n : (Tryz.fd77_0.name = "_") = False := eq_false (by decide +kernel)
noncomputable def Tryz.fd77_1 : Field := match Tryz.prog.underlying 77 with | some (.struct fs) => fs.getD 1 default | _ => default
theorem Tryz.fd77_1t : Tryz.fd77_1.type = 9 := by kernel_rfl
theorem Tryz.fd77_1o : Tryz.fd77_1.offset = 1 := by kernel_rfl
theorem Tryz.fd77_1n : (Tryz.fd77_1.name = "_") = False := eq_false (by decide +kernel)
noncomputable def Tryz.fd77_2 : Field := match Tryz.prog.underlying 77 with | some (.struct fs) => fs.getD 2 default | _ => default
theorem Tryz.fd77_2t : Tryz.fd77_2.type = 9 := by kernel_rfl
theorem Tryz.fd77_2o : Tryz.fd77_2.offset = 2 := by kernel_rfl
theorem Tryz.fd77_2n : (Tryz.fd77_2.name = "_") = False := eq_false (by decide +kernel)
theorem Tryz.y77 : tyOf Tryz.prog 77 = some ⟨.struct #[Tryz.fd77_0,Tryz.fd77_1,Tryz.fd77_2],3,40,.agg #[.int .i64 0,.string ⟨#[]⟩,.string ⟨#[]⟩],true⟩ := by kernel_rfl
theorem Tryz.y97 : tyOf Tryz.prog 97 = some ⟨.array 3 22,3,3,.agg #[.int .i8 0,.int .i8 0,.int .i8 0],true⟩ := by kernel_rfl
theorem Tryz.y98 : tyOf Tryz.prog 98 = some ⟨.array 4 5,4,4,.agg #[.int .u8 0,.int .u8 0,.int .u8 0,.int .u8 0],true⟩ := by kernel_rfl
noncomputable def Tryz.fd100_0 : Field := match Tryz.prog.underlying 100 with | some (.struct fs) => fs.getD 0 default | _ => default
theorem Tryz.fd100_0t : Tryz.fd100_0.type = 5 := by kernel_rfl
theorem Tryz.fd100_0o : Tryz.fd100_0.offset = 0 := by kernel_rfl
theorem Tryz.fd100_0n : (Tryz.fd100_0.name = "_") = False := eq_false (by decide +kernel)
noncomputable def Tryz.fd100_1 : Field := match Tryz.prog.underlying 100 with | some (.struct fs) => fs.getD 1 default | _ => default
theorem Tryz.fd100_1t : Tryz.fd100_1.type = 97 := by kernel_rfl
theorem Tryz.fd100_1o : Tryz.fd100_1.offset = 1 := by kernel_rfl
theorem Tryz.fd100_1n : (Tryz.fd100_1.name = "_") = False := eq_false (by decide +kernel)
noncomputable def Tryz.fd100_2 : Field := match Tryz.prog.underlying 100 with | some (.struct fs) => fs.getD 2 default | _ => default
theorem Tryz.fd100_2t : Tryz.fd100_2.type = 97 := by kernel_rfl
theorem Tryz.fd100_2o : Tryz.fd100_2.offset = 4 := by kernel_rfl
theorem Tryz.fd100_2n : (Tryz.fd100_2.name = "_") = False := eq_false (by decide +kernel)
noncomputable def Tryz.fd100_3 : Field := match Tryz.prog.underlying 100 with | some (.struct fs) => fs.getD 3 default | _ => default
theorem Tryz.fd100_3t : Tryz.fd100_3.type = 22 := by kernel_rfl
theorem Tryz.fd100_3o : Tryz.fd100_3.offset = 7 := by kernel_rfl
theorem Tryz.fd100_3n : (Tryz.fd100_3.name = "_") = False := eq_false (by decide +kernel)
noncomputable def Tryz.fd100_4 : Field := match Tryz.prog.underlying 100 with | some (.struct fs) => fs.getD 4 default | _ => default
theorem Tryz.fd100_4t : Tryz.fd100_4.type = 98 := by kernel_rfl
theorem Tryz.fd100_4o : Tryz.fd100_4.offset = 8 := by kernel_rfl
theorem Tryz.fd100_4n : (Tryz.fd100_4.name = "_") = False := eq_false (by decide +kernel)
theorem Tryz.y100 : tyOf Tryz.prog 100 = some ⟨.struct #[Tryz.fd100_0,Tryz.fd100_1,Tryz.fd100_2,Tryz.fd100_3,Tryz.fd100_4],12,12,.agg #[.int .u8 0,.int .i8 0,.int .i8 0,.int .i8 0,.int .i8 0,.int .i8 0,.int .i8 0,.int .i8 0,.int .u8 0,.int .u8 0,.int .u8 0,.int .u8 0],true⟩ := by kernel_rfl
noncomputable def Tryz.fd121_0 : Field := match Tryz.prog.underlying 121 with | some (.struct fs) => fs.getD 0 default | _ => default
theorem Tryz.fd121_0t : Tryz.fd121_0.type = 55 := by kernel_rfl
theorem Tryz.fd121_0o : Tryz.fd121_0.offset = 0 := by kernel_rfl
theorem Tryz.fd121_0n : (Tryz.fd121_0.name = "_") = False := eq_false (by decide +kernel)
noncomputable def Tryz.fd121_1 : Field := match Tryz.prog.underlying 121 with | some (.struct fs) => fs.getD 1 default | _ => default
theorem Tryz.fd121_1t : Tryz.fd121_1.type = 55 := by kernel_rfl
theorem Tryz.fd121_1o : Tryz.fd121_1.offset = 1 := by kernel_rfl
theorem Tryz.fd121_1n : (Tryz.fd121_1.name = "_") = False := eq_false (by decide +kernel)
theorem Tryz.y121 : tyOf Tryz.prog 121 = some ⟨.struct #[Tryz.fd121_0,Tryz.fd121_1],2,32,.agg #[.string ⟨#[]⟩,.string ⟨#[]⟩],true⟩ := by kernel_rfl
theorem Tryz.y135 : tyOf Tryz.prog 135 = some ⟨.array 2 3,2,16,.agg #[.int .i64 0,.int .i64 0],true⟩ := by kernel_rfl
noncomputable def Tryz.fd141_0 : Field := match Tryz.prog.underlying 141 with | some (.struct fs) => fs.getD 0 default | _ => default
theorem Tryz.fd141_0t : Tryz.fd141_0.type = 55 := by kernel_rfl
theorem Tryz.fd141_0o : Tryz.fd141_0.offset = 0 := by kernel_rfl
theorem Tryz.fd141_0n : (Tryz.fd141_0.name = "_") = False := eq_false (by decide +kernel)
noncomputable def Tryz.fd141_1 : Field := match Tryz.prog.underlying 141 with | some (.struct fs) => fs.getD 1 default | _ => default
theorem Tryz.fd141_1t : Tryz.fd141_1.type = 55 := by kernel_rfl
theorem Tryz.fd141_1o : Tryz.fd141_1.offset = 1 := by kernel_rfl
theorem Tryz.fd141_1n : (Tryz.fd141_1.name = "_") = False := eq_false (by decide +kernel)
theorem Tryz.y141 : tyOf Tryz.prog 141 = some ⟨.struct #[Tryz.fd141_0,Tryz.fd141_1],2,32,.agg #[.string ⟨#[]⟩,.string ⟨#[]⟩],true⟩ := by kernel_rfl
theorem Tryz.y177 : tyOf Tryz.prog 177 = some ⟨.array 3 3,3,24,.agg #[.int .i64 0,.int .i64 0,.int .i64 0],true⟩ := by kernel_rfl
noncomputable def Tryz.fd342_0 : Field := match Tryz.prog.underlying 342 with | some (.struct fs) => fs.getD 0 default | _ => default
theorem Tryz.fd342_0t : Tryz.fd342_0.type = 4 := by kernel_rfl
theorem Tryz.fd342_0o : Tryz.fd342_0.offset = 0 := by kernel_rfl
theorem Tryz.fd342_0n : (Tryz.fd342_0.name = "_") = False := eq_false (by decide +kernel)
noncomputable def Tryz.fd342_1 : Field := match Tryz.prog.underlying 342 with | some (.struct fs) => fs.getD 1 default | _ => default
theorem Tryz.fd342_1t : Tryz.fd342_1.type = 340 := by kernel_rfl
theorem Tryz.fd342_1o : Tryz.fd342_1.offset = 1 := by kernel_rfl
theorem Tryz.fd342_1n : (Tryz.fd342_1.name = "_") = False := eq_false (by decide +kernel)
theorem Tryz.y342 : tyOf Tryz.prog 342 = some ⟨.struct #[Tryz.fd342_0,Tryz.fd342_1],2,32,.agg #[.bool false,.slice none 0 0],true⟩ := by kernel_rfl
attribute [simp] Tryz.y23 Tryz.fd25_0t
attribute [simp] Tryz.fd25_0o Tryz.fd25_0n Tryz.fd25_1t Tryz.fd25_1o Tryz.fd25_1n Tryz.fd25_2t Tryz.fd25_2o Tryz.fd25_2n Tryz.y25 Tryz.fd28_0t Tryz.fd28_0o Tryz.fd28_0n Tryz.fd28_1t
attribute [simp] Tryz.fd28_1o Tryz.fd28_1n Tryz.y28 Tryz.fd34_0t Tryz.fd34_0o Tryz.fd34_0n Tryz.fd34_1t Tryz.fd34_1o Tryz.fd34_1n Tryz.y34
attribute [simp] Tryz.fd37_0t Tryz.fd37_0o Tryz.fd37_0n Tryz.fd37_1t Tryz.fd37_1o Tryz.fd37_1n Tryz.fd37_2t Tryz.fd37_2o Tryz.fd37_2n Tryz.y37
attribute [simp] Tryz.fd54_0t Tryz.fd54_0o Tryz.fd54_0n Tryz.fd54_1t Tryz.fd54_1o Tryz.fd54_1n Tryz.fd54_2t Tryz.fd54_2o Tryz.fd54_2n Tryz.y54
attribute [simp] Tryz.fd57_0t Tryz.fd57_0o Tryz.fd57_0n Tryz.fd57_1t Tryz.fd57_1o Tryz.fd57_1n Tryz.fd57_2t Tryz.fd57_2o Tryz.fd57_2n Tryz.y57
attribute [simp] Tryz.fd59_0t Tryz.fd59_0o Tryz.fd59_0n Tryz.fd59_1t Tryz.fd59_1o Tryz.fd59_1n Tryz.y59 Tryz.fd61_0t Tryz.fd61_0o
attribute [simp] Tryz.fd61_0n Tryz.fd61_1t Tryz.fd61_1o Tryz.fd61_1n Tryz.y61 Tryz.fd64_0t Tryz.fd64_0o Tryz.fd64_0n Tryz.fd64_1t Tryz.fd64_1o
attribute [simp] Tryz.fd64_1n Tryz.fd64_2t Tryz.fd64_2o Tryz.fd64_2n Tryz.y64 Tryz.fd66_0t Tryz.fd66_0o Tryz.fd66_0n Tryz.fd66_1t Tryz.fd66_1o
attribute [simp] Tryz.fd66_1n Tryz.fd66_2t Tryz.fd66_2o Tryz.fd66_2n Tryz.y66 Tryz.y67 Tryz.fd69_0t Tryz.fd69_0o Tryz.fd69_0n Tryz.fd69_1t Tryz.fd69_1o Tryz.fd69_1n Tryz.y69
attribute [simp] Tryz.fd71_0t Tryz.fd71_0o Tryz.fd71_0n Tryz.fd71_1t Tryz.fd71_1o Tryz.fd71_1n Tryz.fd71_2t Tryz.fd71_2o Tryz.fd71_2n Tryz.fd71_3t Tryz.fd71_3o Tryz.fd71_3n Tryz.fd71_4t Tryz.fd71_4o Tryz.fd71_4n Tryz.fd71_5t Tryz.fd71_5o Tryz.fd71_5n
attribute [simp] Tryz.fd71_6t Tryz.fd71_6o Tryz.fd71_6n Tryz.y71 Tryz.fd77_0t Tryz.fd77_0o Tryz.fd77_0n Tryz.fd77_1t Tryz.fd77_1o Tryz.fd77_1n
attribute [simp] Tryz.fd77_2t Tryz.fd77_2o Tryz.fd77_2n Tryz.y77
attribute [simp] Tryz.y97 Tryz.y98
attribute [simp] Tryz.fd100_0t Tryz.fd100_0o Tryz.fd100_0n Tryz.fd100_1t Tryz.fd100_1o Tryz.fd100_1n Tryz.fd100_2t Tryz.fd100_2o Tryz.fd100_2n Tryz.fd100_3t Tryz.fd100_3o
attribute [simp] Tryz.fd100_3n Tryz.fd100_4t Tryz.fd100_4o Tryz.fd100_4n Tryz.y100
attribute [simp] Tryz.fd121_0t Tryz.fd121_0o Tryz.fd121_0n Tryz.fd121_1t Tryz.fd121_1o Tryz.fd121_1n Tryz.y121
attribute [simp] Tryz.y135
attribute [simp] Tryz.fd141_0t Tryz.fd141_0o Tryz.fd141_0n Tryz.fd141_1t Tryz.fd141_1o Tryz.fd141_1n Tryz.y141
attribute [simp] Tryz.y177
attribute [simp] Tryz.fd342_0t Tryz.fd342_0o Tryz.fd342_0n Tryz.fd342_1t Tryz.fd342_1o Tryz.fd342_1n Tryz.y342
end Go.Proofs
