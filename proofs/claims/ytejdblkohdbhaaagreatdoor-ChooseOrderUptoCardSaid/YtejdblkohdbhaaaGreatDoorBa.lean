/-
  Part of a proof: contracts of functions in abstract values.
-/
import Derived.Test.YtejdblkohdbhaaaGreatDoorAe
import Derived.Test.YtejdblkohdbhaaaGreatDoorProg
import Derived.Shelf.Small.Wraps
import Derived.Shelf.Strings.Search2
import Derived.Shelf.Strings.SlTrimAscii
import Derived.Shelf.Strconv.Atoi
import Derived.Shelf.Slices.Clone
import Derived.Ground.NamesProg
set_option linter.unusedVariables false
set_option linter.unusedSimpArgs false
namespace Go.Proofs.Tryz
open Go Go.Abs
set_option linter.unusedSimpArgs false

def ti3 : TI := ⟨.int .i64, 1, 8, .int .i64 0⟩
def ti4 : TI := ⟨.bool, 1, 1, .bool false⟩
def ti5 : TI := ⟨.int .u8, 1, 1, .int .u8 0⟩
def ti9 : TI := ⟨.str, 1, 16, .str []⟩
def ti22 : TI := ⟨.slice 66, 1, 24, .snil⟩
def ti24 : TI := ⟨.struct [(9, 0), (9, 1), (9, 2), (9, 3), (3, 4), (3, 5)], 6, 80, .agg [.str [], .str [], .str [], .str [], .int .i64 0, .int .i64 0]⟩
def ti25 : TI := ⟨.slice 462, 1, 24, .snil⟩
def ti26 : TI := ⟨.slice 464, 1, 24, .snil⟩
def ti27 : TI := ⟨.slice 466, 1, 24, .snil⟩
def ti28 : TI := ⟨.slice 9, 1, 24, .snil⟩
def ti30 : TI := ⟨.struct [(9, 0), (9, 1), (9, 2), (22, 3), (22, 4), (24, 5), (25, 11), (26, 12), (27, 13), (28, 14), (28, 15)], 16, 296, .agg [.str [], .str [], .str [], .snil, .snil, .str [], .str [], .str [], .str [], .int .i64 0, .int .i64 0, .snil, .snil, .snil, .snil, .snil]⟩
def ti31 : TI := ⟨.slice 44, 1, 24, .snil⟩
def ti32 : TI := ⟨.slice 34, 1, 24, .snil⟩
def ti34 : TI := ⟨.struct [(3, 0), (9, 1), (9, 2), (9, 3), (31, 4), (32, 5)], 6, 104, .agg [.int .i64 0, .str [], .str [], .str [], .snil, .snil]⟩
def ti35 : TI := ⟨.slice 46, 1, 24, .snil⟩
def ti38 : TI := ⟨.int .i64, 1, 8, .int .i64 0⟩
def ti44 : TI := ⟨.struct [(9, 0), (32, 1)], 2, 40, .agg [.str [], .snil]⟩
def ti46 : TI := ⟨.struct [(9, 0), (3, 1), (9, 2), (3, 3), (28, 4)], 5, 72, .agg [.str [], .int .i64 0, .str [], .int .i64 0, .snil]⟩
def ti47 : TI := ⟨.array 2 9, 2, 32, .agg [.str [], .str []]⟩
def ti55 : TI := ⟨.struct [(3, 0), (28, 1)], 2, 32, .agg [.int .i64 0, .snil]⟩
def ti64 : TI := ⟨.slice 141, 1, 24, .snil⟩
def ti66 : TI := ⟨.struct [(9, 0), (64, 1)], 2, 40, .agg [.str [], .snil]⟩
def ti107 : TI := ⟨.struct [(4, 0), (9, 1), (9, 2)], 3, 40, .agg [.bool false, .str [], .str []]⟩
def ti133 : TI := ⟨.slice 3, 1, 24, .snil⟩
def ti137 : TI := ⟨.struct [(3, 0), (3, 1)], 2, 16, .agg [.int .i64 0, .int .i64 0]⟩
def ti138 : TI := ⟨.slice 137, 1, 24, .snil⟩
def ti140 : TI := ⟨.struct [(3, 0), (3, 1), (4, 2), (138, 3)], 4, 48, .agg [.int .i64 0, .int .i64 0, .bool false, .snil]⟩
def ti141 : TI := ⟨.slice 140, 1, 24, .snil⟩
def ti174 : TI := ⟨.fn, 1, 8, .nilfn⟩
def ti270 : TI := ⟨.array 6 9, 6, 96, .agg [.str [], .str [], .str [], .str [], .str [], .str []]⟩
def ti305 : TI := ⟨.slice 5, 1, 24, .snil⟩
def ti307 : TI := ⟨.struct [(4, 0), (9, 1), (9, 2)], 3, 40, .agg [.bool false, .str [], .str []]⟩
def ti462 : TI := ⟨.struct [(9, 0), (9, 1), (9, 2), (9, 3), (9, 4)], 5, 80, .agg [.str [], .str [], .str [], .str [], .str []]⟩
def ti464 : TI := ⟨.struct [(9, 0), (9, 1), (9, 2)], 3, 48, .agg [.str [], .str [], .str []]⟩
def ti466 : TI := ⟨.struct [(9, 0), (9, 1)], 2, 32, .agg [.str [], .str []]⟩
def teL : List (Option TI) := [none, none, none, some ti3, some ti4, some ti5, none, none, none, some ti9, none, none, none, none, none, none, none, none, none, none, none, none, some ti22, none, some ti24, some ti25, some ti26, some ti27, some ti28, none, some ti30, some ti31, some ti32, none, some ti34, some ti35, none, none, some ti38, none, none, none, none, none, some ti44, none, some ti46, some ti47, none, none, none, none, none, none, none, some ti55, none, none, none, none, none, none, none, none, some ti64, none, some ti66, none, none, none, none, none, none, none, none, none, none, none, none, none, none, none, none, none, none, none, none, none, none, none, none, none, none, none, none, none, none, none, none, none, none, none, none, none, none, none, none, some ti107, none, none, none, none, none, none, none, none, none, none, none, none, none, none, none, none, none, none, none, none, none, none, none, none, none, some ti133, none, none, none, some ti137, some ti138, none, some ti140, some ti141, none, none, none, none, none, none, none, none, none, none, none, none, none, none, none, none, none, none, none, none, none, none, none, none, none, none, none, none, none, none, none, none, some ti174, none, none, none, none, none, none, none, none, none, none, none, none, none, none, none, none, none, none, none, none, none, none, none, none, none, none, none, none, none, none, none, none, none, none, none, none, none, none, none, none, none, none, none, none, none, none, none, none, none, none, none, none, none, none, none, none, none, none, none, none, none, none, none, none, none, none, none, none, none, none, none, none, none, none, none, none, none, none, none, none, none, none, none, none, none, none, none, none, none, none, none, none, none, none, none, some ti270, none, none, none, none, none, none, none, none, none, none, none, none, none, none, none, none, none, none, none, none, none, none, none, none, none, none, none, none, none, none, none, none, none, none, some ti305, none, some ti307, none, none, none, none, none, none, none, none, none, none, none, none, none, none, none, none, none, none, none, none, none, none, none, none, none, none, none, none, none, none, none, none, none, none, none, none, none, none, none, none, none, none, none, none, none, none, none, none, none, none, none, none, none, none, none, none, none, none, none, none, none, none, none, none, none, none, none, none, none, none, none, none, none, none, none, none, none, none, none, none, none, none, none, none, none, none, none, none, none, none, none, none, none, none, none, none, none, none, none, none, none, none, none, none, none, none, none, none, none, none, none, none, none, none, none, none, none, none, none, none, none, none, none, none, none, none, none, none, none, none, none, none, none, none, none, none, none, none, none, none, none, none, none, none, none, none, none, none, none, none, none, none, none, none, some ti462, none, some ti464, none, some ti466]
def T0 : TE := fun t => (teL[t]?).join
theorem T0_3 : T0 3 = some ⟨.int .i64, 1, 8, .int .i64 0⟩ := rfl
theorem T0_4 : T0 4 = some ⟨.bool, 1, 1, .bool false⟩ := rfl
theorem T0_5 : T0 5 = some ⟨.int .u8, 1, 1, .int .u8 0⟩ := rfl
theorem T0_9 : T0 9 = some ⟨.str, 1, 16, .str []⟩ := rfl
theorem T0_22 : T0 22 = some ⟨.slice 66, 1, 24, .snil⟩ := rfl
theorem T0_24 : T0 24 = some ⟨.struct [(9, 0), (9, 1), (9, 2), (9, 3), (3, 4), (3, 5)], 6, 80, .agg [.str [], .str [], .str [], .str [], .int .i64 0, .int .i64 0]⟩ := rfl
theorem T0_25 : T0 25 = some ⟨.slice 462, 1, 24, .snil⟩ := rfl
theorem T0_26 : T0 26 = some ⟨.slice 464, 1, 24, .snil⟩ := rfl
theorem T0_27 : T0 27 = some ⟨.slice 466, 1, 24, .snil⟩ := rfl
theorem T0_28 : T0 28 = some ⟨.slice 9, 1, 24, .snil⟩ := rfl
theorem T0_30 : T0 30 = some ⟨.struct [(9, 0), (9, 1), (9, 2), (22, 3), (22, 4), (24, 5), (25, 11), (26, 12), (27, 13), (28, 14), (28, 15)], 16, 296, .agg [.str [], .str [], .str [], .snil, .snil, .str [], .str [], .str [], .str [], .int .i64 0, .int .i64 0, .snil, .snil, .snil, .snil, .snil]⟩ := rfl
theorem T0_31 : T0 31 = some ⟨.slice 44, 1, 24, .snil⟩ := rfl
theorem T0_32 : T0 32 = some ⟨.slice 34, 1, 24, .snil⟩ := rfl
theorem T0_34 : T0 34 = some ⟨.struct [(3, 0), (9, 1), (9, 2), (9, 3), (31, 4), (32, 5)], 6, 104, .agg [.int .i64 0, .str [], .str [], .str [], .snil, .snil]⟩ := rfl
theorem T0_35 : T0 35 = some ⟨.slice 46, 1, 24, .snil⟩ := rfl
theorem T0_38 : T0 38 = some ⟨.int .i64, 1, 8, .int .i64 0⟩ := rfl
theorem T0_44 : T0 44 = some ⟨.struct [(9, 0), (32, 1)], 2, 40, .agg [.str [], .snil]⟩ := rfl
theorem T0_46 : T0 46 = some ⟨.struct [(9, 0), (3, 1), (9, 2), (3, 3), (28, 4)], 5, 72, .agg [.str [], .int .i64 0, .str [], .int .i64 0, .snil]⟩ := rfl
theorem T0_47 : T0 47 = some ⟨.array 2 9, 2, 32, .agg [.str [], .str []]⟩ := rfl
theorem T0_55 : T0 55 = some ⟨.struct [(3, 0), (28, 1)], 2, 32, .agg [.int .i64 0, .snil]⟩ := rfl
theorem T0_64 : T0 64 = some ⟨.slice 141, 1, 24, .snil⟩ := rfl
theorem T0_66 : T0 66 = some ⟨.struct [(9, 0), (64, 1)], 2, 40, .agg [.str [], .snil]⟩ := rfl
theorem T0_107 : T0 107 = some ⟨.struct [(4, 0), (9, 1), (9, 2)], 3, 40, .agg [.bool false, .str [], .str []]⟩ := rfl
theorem T0_133 : T0 133 = some ⟨.slice 3, 1, 24, .snil⟩ := rfl
theorem T0_137 : T0 137 = some ⟨.struct [(3, 0), (3, 1)], 2, 16, .agg [.int .i64 0, .int .i64 0]⟩ := rfl
theorem T0_138 : T0 138 = some ⟨.slice 137, 1, 24, .snil⟩ := rfl
theorem T0_140 : T0 140 = some ⟨.struct [(3, 0), (3, 1), (4, 2), (138, 3)], 4, 48, .agg [.int .i64 0, .int .i64 0, .bool false, .snil]⟩ := rfl
theorem T0_141 : T0 141 = some ⟨.slice 140, 1, 24, .snil⟩ := rfl
theorem T0_174 : T0 174 = some ⟨.fn, 1, 8, .nilfn⟩ := rfl
theorem T0_270 : T0 270 = some ⟨.array 6 9, 6, 96, .agg [.str [], .str [], .str [], .str [], .str [], .str []]⟩ := rfl
theorem T0_305 : T0 305 = some ⟨.slice 5, 1, 24, .snil⟩ := rfl
theorem T0_307 : T0 307 = some ⟨.struct [(4, 0), (9, 1), (9, 2)], 3, 40, .agg [.bool false, .str [], .str []]⟩ := rfl
theorem T0_462 : T0 462 = some ⟨.struct [(9, 0), (9, 1), (9, 2), (9, 3), (9, 4)], 5, 80, .agg [.str [], .str [], .str [], .str [], .str []]⟩ := rfl
theorem T0_464 : T0 464 = some ⟨.struct [(9, 0), (9, 1), (9, 2)], 3, 48, .agg [.str [], .str [], .str []]⟩ := rfl
theorem T0_466 : T0 466 = some ⟨.struct [(9, 0), (9, 1)], 2, 32, .agg [.str [], .str []]⟩ := rfl
theorem tk3 : TIOk prog 3 ti3 := ⟨⟨t3, _, info_of type3, rfl, rfl, rfl, rfl, by simp [ti3, Rep, Reps]⟩, underlying3⟩
theorem tk4 : TIOk prog 4 ti4 := ⟨⟨t4, _, info_of type4, rfl, rfl, rfl, rfl, by simp [ti4, Rep, Reps]⟩, underlying4⟩
theorem tk5 : TIOk prog 5 ti5 := ⟨⟨t5, _, info_of type5, rfl, rfl, rfl, rfl, by simp [ti5, Rep, Reps]⟩, underlying5⟩
theorem tk9 : TIOk prog 9 ti9 := ⟨⟨t9, _, info_of type9, rfl, rfl, rfl, rfl, by simp [ti9, Rep, Reps]⟩, underlying9⟩
theorem tk22 : TIOk prog 22 ti22 := ⟨⟨t22, _, info_of type22, rfl, rfl, rfl, rfl, by simp [ti22, Rep, Reps]⟩, underlying22⟩
theorem tk24 : TIOk prog 24 ti24 := ⟨⟨t24, _, info_of type24, rfl, rfl, rfl, rfl, by simp [ti24, Rep, Reps]⟩, ⟨_, underlying24, rfl⟩⟩
theorem tk25 : TIOk prog 25 ti25 := ⟨⟨t25, _, info_of type25, rfl, rfl, rfl, rfl, by simp [ti25, Rep, Reps]⟩, underlying25⟩
theorem tk26 : TIOk prog 26 ti26 := ⟨⟨t26, _, info_of type26, rfl, rfl, rfl, rfl, by simp [ti26, Rep, Reps]⟩, underlying26⟩
theorem tk27 : TIOk prog 27 ti27 := ⟨⟨t27, _, info_of type27, rfl, rfl, rfl, rfl, by simp [ti27, Rep, Reps]⟩, underlying27⟩
theorem tk28 : TIOk prog 28 ti28 := ⟨⟨t28, _, info_of type28, rfl, rfl, rfl, rfl, by simp [ti28, Rep, Reps]⟩, underlying28⟩
theorem tk30 : TIOk prog 30 ti30 := ⟨⟨t30, _, info_of type30, rfl, rfl, rfl, rfl, by simp [ti30, Rep, Reps]⟩, ⟨_, underlying30, rfl⟩⟩
theorem tk31 : TIOk prog 31 ti31 := ⟨⟨t31, _, info_of type31, rfl, rfl, rfl, rfl, by simp [ti31, Rep, Reps]⟩, underlying31⟩
theorem tk32 : TIOk prog 32 ti32 := ⟨⟨t32, _, info_of type32, rfl, rfl, rfl, rfl, by simp [ti32, Rep, Reps]⟩, underlying32⟩
theorem tk34 : TIOk prog 34 ti34 := ⟨⟨t34, _, info_of type34, rfl, rfl, rfl, rfl, by simp [ti34, Rep, Reps]⟩, ⟨_, underlying34, rfl⟩⟩
theorem tk35 : TIOk prog 35 ti35 := ⟨⟨t35, _, info_of type35, rfl, rfl, rfl, rfl, by simp [ti35, Rep, Reps]⟩, underlying35⟩
theorem tk38 : TIOk prog 38 ti38 := ⟨⟨t38, _, info_of type38, rfl, rfl, rfl, rfl, by simp [ti38, Rep, Reps]⟩, underlying38⟩
theorem tk44 : TIOk prog 44 ti44 := ⟨⟨t44, _, info_of type44, rfl, rfl, rfl, rfl, by simp [ti44, Rep, Reps]⟩, ⟨_, underlying44, rfl⟩⟩
theorem tk46 : TIOk prog 46 ti46 := ⟨⟨t46, _, info_of type46, rfl, rfl, rfl, rfl, by simp [ti46, Rep, Reps]⟩, ⟨_, underlying46, rfl⟩⟩
theorem tk47 : TIOk prog 47 ti47 := ⟨⟨t47, _, info_of type47, rfl, rfl, rfl, rfl, by simp [ti47, Rep, Reps]⟩, underlying47⟩
theorem tk55 : TIOk prog 55 ti55 := ⟨⟨t55, _, info_of type55, rfl, rfl, rfl, rfl, by simp [ti55, Rep, Reps]⟩, ⟨_, underlying55, rfl⟩⟩
theorem tk64 : TIOk prog 64 ti64 := ⟨⟨t64, _, info_of type64, rfl, rfl, rfl, rfl, by simp [ti64, Rep, Reps]⟩, underlying64⟩
theorem tk66 : TIOk prog 66 ti66 := ⟨⟨t66, _, info_of type66, rfl, rfl, rfl, rfl, by simp [ti66, Rep, Reps]⟩, ⟨_, underlying66, rfl⟩⟩
theorem tk107 : TIOk prog 107 ti107 := ⟨⟨t107, _, info_of type107, rfl, rfl, rfl, rfl, by simp [ti107, Rep, Reps]⟩, ⟨_, underlying107, rfl⟩⟩
theorem tk133 : TIOk prog 133 ti133 := ⟨⟨t133, _, info_of type133, rfl, rfl, rfl, rfl, by simp [ti133, Rep, Reps]⟩, underlying133⟩
theorem tk137 : TIOk prog 137 ti137 := ⟨⟨t137, _, info_of type137, rfl, rfl, rfl, rfl, by simp [ti137, Rep, Reps]⟩, ⟨_, underlying137, rfl⟩⟩
theorem tk138 : TIOk prog 138 ti138 := ⟨⟨t138, _, info_of type138, rfl, rfl, rfl, rfl, by simp [ti138, Rep, Reps]⟩, underlying138⟩
theorem tk140 : TIOk prog 140 ti140 := ⟨⟨t140, _, info_of type140, rfl, rfl, rfl, rfl, by simp [ti140, Rep, Reps]⟩, ⟨_, underlying140, rfl⟩⟩
theorem tk141 : TIOk prog 141 ti141 := ⟨⟨t141, _, info_of type141, rfl, rfl, rfl, rfl, by simp [ti141, Rep, Reps]⟩, underlying141⟩
theorem tk174 : TIOk prog 174 ti174 := ⟨⟨t174, _, info_of type174, rfl, rfl, rfl, rfl, by simp [ti174, Rep, Reps]⟩, ⟨_, _, _, underlying174⟩⟩
theorem tk270 : TIOk prog 270 ti270 := ⟨⟨t270, _, info_of type270, rfl, rfl, rfl, rfl, by simp [ti270, Rep, Reps]⟩, underlying270⟩
theorem tk305 : TIOk prog 305 ti305 := ⟨⟨t305, _, info_of type305, rfl, rfl, rfl, rfl, by simp [ti305, Rep, Reps]⟩, underlying305⟩
theorem tk307 : TIOk prog 307 ti307 := ⟨⟨t307, _, info_of type307, rfl, rfl, rfl, rfl, by simp [ti307, Rep, Reps]⟩, ⟨_, underlying307, rfl⟩⟩
theorem tk462 : TIOk prog 462 ti462 := ⟨⟨t462, _, info_of type462, rfl, rfl, rfl, rfl, by simp [ti462, Rep, Reps]⟩, ⟨_, underlying462, rfl⟩⟩
theorem tk464 : TIOk prog 464 ti464 := ⟨⟨t464, _, info_of type464, rfl, rfl, rfl, rfl, by simp [ti464, Rep, Reps]⟩, ⟨_, underlying464, rfl⟩⟩
theorem tk466 : TIOk prog 466 ti466 := ⟨⟨t466, _, info_of type466, rfl, rfl, rfl, rfl, by simp [ti466, Rep, Reps]⟩, ⟨_, underlying466, rfl⟩⟩
set_option maxRecDepth 100000 in
theorem T0_ok : TOk prog T0 := tok_of_list teL <|
  .none <|
  .none <|
  .none <|
  .some tk3 <|
  .some tk4 <|
  .some tk5 <|
  .none <|
  .none <|
  .none <|
  .some tk9 <|
  .none <|
  .none <|
  .none <|
  .none <|
  .none <|
  .none <|
  .none <|
  .none <|
  .none <|
  .none <|
  .none <|
  .none <|
  .some tk22 <|
  .none <|
  .some tk24 <|
  .some tk25 <|
  .some tk26 <|
  .some tk27 <|
  .some tk28 <|
  .none <|
  .some tk30 <|
  .some tk31 <|
  .some tk32 <|
  .none <|
  .some tk34 <|
  .some tk35 <|
  .none <|
  .none <|
  .some tk38 <|
  .none <|
  .none <|
  .none <|
  .none <|
  .none <|
  .some tk44 <|
  .none <|
  .some tk46 <|
  .some tk47 <|
  .none <|
  .none <|
  .none <|
  .none <|
  .none <|
  .none <|
  .none <|
  .some tk55 <|
  .none <|
  .none <|
  .none <|
  .none <|
  .none <|
  .none <|
  .none <|
  .none <|
  .some tk64 <|
  .none <|
  .some tk66 <|
  .none <|
  .none <|
  .none <|
  .none <|
  .none <|
  .none <|
  .none <|
  .none <|
  .none <|
  .none <|
  .none <|
  .none <|
  .none <|
  .none <|
  .none <|
  .none <|
  .none <|
  .none <|
  .none <|
  .none <|
  .none <|
  .none <|
  .none <|
  .none <|
  .none <|
  .none <|
  .none <|
  .none <|
  .none <|
  .none <|
  .none <|
  .none <|
  .none <|
  .none <|
  .none <|
  .none <|
  .none <|
  .none <|
  .none <|
  .none <|
  .some tk107 <|
  .none <|
  .none <|
  .none <|
  .none <|
  .none <|
  .none <|
  .none <|
  .none <|
  .none <|
  .none <|
  .none <|
  .none <|
  .none <|
  .none <|
  .none <|
  .none <|
  .none <|
  .none <|
  .none <|
  .none <|
  .none <|
  .none <|
  .none <|
  .none <|
  .none <|
  .some tk133 <|
  .none <|
  .none <|
  .none <|
  .some tk137 <|
  .some tk138 <|
  .none <|
  .some tk140 <|
  .some tk141 <|
  .none <|
  .none <|
  .none <|
  .none <|
  .none <|
  .none <|
  .none <|
  .none <|
  .none <|
  .none <|
  .none <|
  .none <|
  .none <|
  .none <|
  .none <|
  .none <|
  .none <|
  .none <|
  .none <|
  .none <|
  .none <|
  .none <|
  .none <|
  .none <|
  .none <|
  .none <|
  .none <|
  .none <|
  .none <|
  .none <|
  .none <|
  .none <|
  .some tk174 <|
  .none <|
  .none <|
  .none <|
  .none <|
  .none <|
  .none <|
  .none <|
  .none <|
  .none <|
  .none <|
  .none <|
  .none <|
  .none <|
  .none <|
  .none <|
  .none <|
  .none <|
  .none <|
  .none <|
  .none <|
  .none <|
  .none <|
  .none <|
  .none <|
  .none <|
  .none <|
  .none <|
  .none <|
  .none <|
  .none <|
  .none <|
  .none <|
  .none <|
  .none <|
  .none <|
  .none <|
  .none <|
  .none <|
  .none <|
  .none <|
  .none <|
  .none <|
  .none <|
  .none <|
  .none <|
  .none <|
  .none <|
  .none <|
  .none <|
  .none <|
  .none <|
  .none <|
  .none <|
  .none <|
  .none <|
  .none <|
  .none <|
  .none <|
  .none <|
  .none <|
  .none <|
  .none <|
  .none <|
  .none <|
  .none <|
  .none <|
  .none <|
  .none <|
  .none <|
  .none <|
  .none <|
  .none <|
  .none <|
  .none <|
  .none <|
  .none <|
  .none <|
  .none <|
  .none <|
  .none <|
  .none <|
  .none <|
  .none <|
  .none <|
  .none <|
  .none <|
  .none <|
  .none <|
  .none <|
  .none <|
  .none <|
  .none <|
  .none <|
  .none <|
  .none <|
  .some tk270 <|
  .none <|
  .none <|
  .none <|
  .none <|
  .none <|
  .none <|
  .none <|
  .none <|
  .none <|
  .none <|
  .none <|
  .none <|
  .none <|
  .none <|
  .none <|
  .none <|
  .none <|
  .none <|
  .none <|
  .none <|
  .none <|
  .none <|
  .none <|
  .none <|
  .none <|
  .none <|
  .none <|
  .none <|
  .none <|
  .none <|
  .none <|
  .none <|
  .none <|
  .none <|
  .some tk305 <|
  .none <|
  .some tk307 <|
  .none <|
  .none <|
  .none <|
  .none <|
  .none <|
  .none <|
  .none <|
  .none <|
  .none <|
  .none <|
  .none <|
  .none <|
  .none <|
  .none <|
  .none <|
  .none <|
  .none <|
  .none <|
  .none <|
  .none <|
  .none <|
  .none <|
  .none <|
  .none <|
  .none <|
  .none <|
  .none <|
  .none <|
  .none <|
  .none <|
  .none <|
  .none <|
  .none <|
  .none <|
  .none <|
  .none <|
  .none <|
  .none <|
  .none <|
  .none <|
  .none <|
  .none <|
  .none <|
  .none <|
  .none <|
  .none <|
  .none <|
  .none <|
  .none <|
  .none <|
  .none <|
  .none <|
  .none <|
  .none <|
  .none <|
  .none <|
  .none <|
  .none <|
  .none <|
  .none <|
  .none <|
  .none <|
  .none <|
  .none <|
  .none <|
  .none <|
  .none <|
  .none <|
  .none <|
  .none <|
  .none <|
  .none <|
  .none <|
  .none <|
  .none <|
  .none <|
  .none <|
  .none <|
  .none <|
  .none <|
  .none <|
  .none <|
  .none <|
  .none <|
  .none <|
  .none <|
  .none <|
  .none <|
  .none <|
  .none <|
  .none <|
  .none <|
  .none <|
  .none <|
  .none <|
  .none <|
  .none <|
  .none <|
  .none <|
  .none <|
  .none <|
  .none <|
  .none <|
  .none <|
  .none <|
  .none <|
  .none <|
  .none <|
  .none <|
  .none <|
  .none <|
  .none <|
  .none <|
  .none <|
  .none <|
  .none <|
  .none <|
  .none <|
  .none <|
  .none <|
  .none <|
  .none <|
  .none <|
  .none <|
  .none <|
  .none <|
  .none <|
  .none <|
  .none <|
  .none <|
  .none <|
  .none <|
  .none <|
  .none <|
  .none <|
  .none <|
  .none <|
  .none <|
  .none <|
  .none <|
  .none <|
  .none <|
  .none <|
  .none <|
  .none <|
  .none <|
  .none <|
  .none <|
  .none <|
  .none <|
  .none <|
  .none <|
  .none <|
  .none <|
  .some tk462 <|
  .none <|
  .some tk464 <|
  .none <|
  .some tk466 <|
  .nil
end Go.Proofs.Tryz

namespace Go.Proofs.Tryz
open Go Go.Abs
def pl0 : Nat → RPlan := fun _ => ⟨[], [], .z⟩
def pl4 : Nat → RPlan
  | 18 => ⟨[[], [0], [1, 0], [2, 1, 0], [3, 2, 1, 0], [2, 1, 0, 4, 3], [5, 2, 1, 0, 4, 3], [6, 5, 2, 1, 0, 4, 3], [6, 5, 2, 1, 0, 4, 3], [8, 6, 5, 2, 1, 0, 4, 3], [9, 8, 6, 5, 2, 1, 0, 4, 3], [7, 6, 5, 2, 1, 0, 4, 3, 10, 9, 8], [6, 5, 2, 1, 0, 4, 3, 11, 7, 10, 9, 8], [12, 6, 5, 2, 1, 0, 4, 3, 11, 7, 10, 9, 8], [13, 12, 6, 5, 2, 1, 0, 4, 3, 11, 7, 10, 9, 8], [14, 13, 12, 6, 5, 2, 1, 0, 4, 3, 11, 7, 10, 9, 8], [13, 12, 6, 5, 2, 1, 0, 4, 3, 11, 7, 10, 9, 8, 15, 14], [16, 13, 12, 6, 5, 2, 1, 0, 4, 3, 11, 7, 10, 9, 8, 15, 14], [17, 16, 13, 12, 6, 5, 2, 1, 0, 4, 3, 11, 7, 10, 9, 8, 15, 14], [17, 16, 13, 12, 6, 5, 2, 1, 0, 4, 3, 11, 7, 10, 9, 8, 15, 14], [19, 17, 16, 13, 12, 6, 5, 2, 1, 0, 4, 3, 11, 7, 10, 9, 8, 15, 14], [20, 19, 17, 16, 13, 12, 6, 5, 2, 1, 0, 4, 3, 11, 7, 10, 9, 8, 15, 14], [18, 17, 16, 13, 12, 6, 5, 2, 1, 0, 4, 3, 11, 7, 10, 9, 8, 15, 14, 21, 20, 19], [17, 16, 13, 12, 6, 5, 2, 1, 0, 4, 3, 11, 7, 10, 9, 8, 15, 14, 22, 18, 21, 20, 19], [23, 17, 16, 13, 12, 6, 5, 2, 1, 0, 4, 3, 11, 7, 10, 9, 8, 15, 14, 22, 18, 21, 20, 19], [24, 23, 17, 16, 13, 12, 6, 5, 2, 1, 0, 4, 3, 11, 7, 10, 9, 8, 15, 14, 22, 18, 21, 20, 19], [25, 24, 23, 17, 16, 13, 12, 6, 5, 2, 1, 0, 4, 3, 11, 7, 10, 9, 8, 15, 14, 22, 18, 21, 20, 19], [24, 23, 17, 16, 13, 12, 6, 5, 2, 1, 0, 4, 3, 11, 7, 10, 9, 8, 15, 14, 22, 18, 21, 20, 19], [26, 25, 24, 23, 17, 16, 13, 12, 6, 5, 2, 1, 0, 4, 3, 11, 7, 10, 9, 8, 15, 14, 22, 18, 21, 20, 19, 27], [28, 26, 25, 24, 23, 17, 16, 13, 12, 6, 5, 2, 1, 0, 4, 3, 11, 7, 10, 9, 8, 15, 14, 22, 18, 21, 20, 19, 27], [29, 28, 26, 25, 24, 23, 17, 16, 13, 12, 6, 5, 2, 1, 0, 4, 3, 11, 7, 10, 9, 8, 15, 14, 22, 18, 21, 20, 19, 27], [24, 23, 17, 16, 13, 12, 6, 5, 2, 1, 0, 4, 3, 11, 7, 10, 9, 8, 15, 14, 22, 18, 21, 20, 19], [31, 24, 23, 17, 16, 13, 12, 6, 5, 2, 1, 0, 4, 3, 11, 7, 10, 9, 8, 15, 14, 22, 18, 21, 20, 19], [24, 23, 17, 16, 13, 12, 6, 5, 2, 1, 0, 4, 3, 11, 7, 10, 9, 8, 15, 14, 22, 18, 21, 20, 19], [32, 31, 24, 23, 17, 16, 13, 12, 6, 5, 2, 1, 0, 4, 3, 11, 7, 10, 9, 8, 15, 14, 22, 18, 21, 20, 19, 33], [34, 32, 31, 24, 23, 17, 16, 13, 12, 6, 5, 2, 1, 0, 4, 3, 11, 7, 10, 9, 8, 15, 14, 22, 18, 21, 20, 19, 33], [35, 34, 32, 31, 24, 23, 17, 16, 13, 12, 6, 5, 2, 1, 0, 4, 3, 11, 7, 10, 9, 8, 15, 14, 22, 18, 21, 20, 19, 33], [30, 29, 28, 26, 25, 24, 23, 17, 16, 13, 12, 6, 5, 2, 1, 0, 4, 3, 11, 7, 10, 9, 8, 15, 14, 22, 18, 21, 20, 19, 27, 36, 35, 34, 32, 31, 33], [24, 23, 17, 16, 13, 12, 6, 5, 2, 1, 0, 4, 3, 11, 7, 10, 9, 8, 15, 14, 22, 18, 21, 20, 19, 37, 30, 29, 28, 26, 25, 27, 36, 35, 34, 32, 31, 33], [38, 24, 23, 17, 16, 13, 12, 6, 5, 2, 1, 0, 4, 3, 11, 7, 10, 9, 8, 15, 14, 22, 18, 21, 20, 19, 37, 30, 29, 28, 26, 25, 27, 36, 35, 34, 32, 31, 33]], [], (.q 0 (.q 1 (.q 2 (.q 3 (.q 4 (.q 5 (.q 6 (.q 7 (.q 8 (.q 9 (.q 10 (.q 11 (.q 12 (.q 13 (.q 14 (.q 15 (.q 16 (.q 17 (.q 18 (.q 19 (.q 20 (.q 21 (.q 22 (.q 23 (.q 24 (.q 25 (.q 26 (.q 27 (.q 28 (.q 29 (.q 30 (.q 31 (.q 32 (.q 33 (.q 34 (.q 35 (.q 36 (.q 37 (.q 38 (.q 39 .done))))))))))))))))))))))))))))))))))))))))⟩
  | 12 => ⟨[[], [0], [], [2], [], [3, 2, 4], [5, 3, 2, 4], [6, 5, 3, 2, 4], [1, 0, 7, 6, 5, 3, 2, 4], [0, 1, 2, 3, 4, 5, 6, 7, 8], [9, 0, 1, 2, 3, 4, 5, 6, 7, 8]], [7, 8, 10], (.q 0 (.q 1 (.q 2 (.q 3 (.q 4 (.q 5 (.q 6 (.a 7 [1] (.a 8 [] (.q 9 (.a 10 [] (.done) (.z))) (.z)) (.z)))))))))⟩
  | 10 => ⟨[[], [0], [], [2], [], [3, 2, 4], [5, 3, 2, 4], [6, 5, 3, 2, 4], [1, 0, 7, 6, 5, 3, 2, 4]], [1, 8], (.q 0 (.q 2 (.q 3 (.q 4 (.q 5 (.q 6 (.q 7 (.a 1 [3, 7] (.a 8 [] (.done) (.z)) (.z)))))))))⟩
  | _ => ⟨[], [], .z⟩
theorem pl4_18 : (pl4 18).plan = .q 0 (.q 1 (.q 2 (.q 3 (.q 4 (.q 5 (.q 6 (.q 7 (.q 8 (.q 9 (.q 10 (.q 11 (.q 12 (.q 13 (.q 14 (.q 15 (.q 16 (.q 17 (.q 18 (.q 19 (.q 20 (.q 21 (.q 22 (.q 23 (.q 24 (.q 25 (.q 26 (.q 27 (.q 28 (.q 29 (.q 30 (.q 31 (.q 32 (.q 33 (.q 34 (.q 35 (.q 36 (.q 37 (.q 38 (.q 39 .done))))))))))))))))))))))))))))))))))))))) := rfl
theorem pl4_12 : (pl4 12).plan = .q 0 (.q 1 (.q 2 (.q 3 (.q 4 (.q 5 (.q 6 (.a 7 [1] (.a 8 [] (.q 9 (.a 10 [] (.done) (.z))) (.z)) (.z)))))))) := rfl
theorem pl4_10 : (pl4 10).plan = .q 0 (.q 2 (.q 3 (.q 4 (.q 5 (.q 6 (.q 7 (.a 1 [3, 7] (.a 8 [] (.done) (.z)) (.z)))))))) := rfl
def pl5 : Nat → RPlan
  | 9 => ⟨[[], [], [1], [0, 2, 1], [], [4], [5, 4], [6, 5, 4], [3, 0, 2, 1, 7, 6, 5, 4], [0, 1, 2, 3, 4, 5, 6, 7, 8], [9, 0, 1, 2, 3, 4, 5, 6, 7, 8]], [0, 3, 7, 8, 10], (.q 1 (.q 2 (.q 4 (.q 5 (.q 6 (.a 0 [2, 5] (.a 3 [5] (.a 7 [2] (.a 8 [] (.q 9 (.a 10 [] (.done) (.z))) (.z)) (.z)) (.a 7 [2] (.a 3 [5] (.a 8 [] (.q 9 (.a 10 [] (.done) (.z))) (.z)) (.z)) (.z))) (.a 7 [2] (.a 0 [2, 5] (.a 3 [5] (.a 8 [] (.q 9 (.a 10 [] (.done) (.z))) (.z)) (.z)) (.z)) (.z))))))))⟩
  | _ => ⟨[], [], .z⟩
theorem pl5_9 : (pl5 9).plan = .q 1 (.q 2 (.q 4 (.q 5 (.q 6 (.a 0 [2, 5] (.a 3 [5] (.a 7 [2] (.a 8 [] (.q 9 (.a 10 [] (.done) (.z))) (.z)) (.z)) (.a 7 [2] (.a 3 [5] (.a 8 [] (.q 9 (.a 10 [] (.done) (.z))) (.z)) (.z)) (.z))) (.a 7 [2] (.a 0 [2, 5] (.a 3 [5] (.a 8 [] (.q 9 (.a 10 [] (.done) (.z))) (.z)) (.z)) (.z)) (.z))))))) := rfl
def pl6 : Nat → RPlan
  | 7 => ⟨[[], [], [1], [], [3], [], [0, 2, 1, 4, 3, 5], [6, 0, 2, 1, 4, 3, 5], [7, 6, 0, 2, 1, 4, 3, 5], [7, 6, 0, 2, 1, 4, 3, 5], [8, 7, 6, 0, 2, 1, 4, 3, 5], [9, 7, 6, 0, 2, 1, 4, 3, 5, 10, 8]], [4, 6], (.q 0 (.q 1 (.q 2 (.q 3 (.q 5 (.a 4 [0, 2, 5] (.a 6 [] (.q 7 (.q 8 (.q 9 (.q 10 (.q 11 .done))))) (.z)) (.z)))))))⟩
  | _ => ⟨[], [], .z⟩
theorem pl6_7 : (pl6 7).plan = .q 0 (.q 1 (.q 2 (.q 3 (.q 5 (.a 4 [0, 2, 5] (.a 6 [] (.q 7 (.q 8 (.q 9 (.q 10 (.q 11 .done))))) (.z)) (.z)))))) := rfl
def pl25 : Nat → RPlan
  | 10 => ⟨[[], [0], [], [], [3], [], [2, 4, 3, 5, 1, 0], [1, 0, 6, 2, 4, 3, 5], [7, 1, 0, 6, 2, 4, 3, 5]], [1, 6, 7], (.q 0 (.q 2 (.q 3 (.q 4 (.q 5 (.a 1 [2, 4, 5] (.a 6 [] (.a 7 [] (.q 8 .done) (.z)) (.z)) (.z)))))))⟩
  | _ => ⟨[], [], .z⟩
theorem pl25_10 : (pl25 10).plan = .q 0 (.q 2 (.q 3 (.q 4 (.q 5 (.a 1 [2, 4, 5] (.a 6 [] (.a 7 [] (.q 8 .done) (.z)) (.z)) (.z)))))) := rfl
def pl37 : Nat → RPlan
  | 9 => ⟨[[], [], [0, 1], [2, 0, 1], [3, 2, 0, 1], [], [], [5, 6], [7, 5, 6], [8, 7, 5, 6], [4, 3, 2, 0, 1, 9, 8, 7, 5, 6]], [], (.q 0 (.q 1 (.q 2 (.q 3 (.q 4 (.q 5 (.q 6 (.q 7 (.q 8 (.q 9 (.q 10 .done)))))))))))⟩
  | 4 => ⟨[[], [], [], [1, 2], [3, 1, 2], [4, 3, 1, 2], [0, 5, 4, 3, 1, 2], [6, 0, 5, 4, 3, 1, 2], [7, 6, 0, 5, 4, 3, 1, 2], [8, 7, 6, 0, 5, 4, 3, 1, 2], [8, 7, 6, 0, 5, 4, 3, 1, 2], [9, 8, 7, 6, 0, 5, 4, 3, 1, 2, 10], [11, 9, 8, 7, 6, 0, 5, 4, 3, 1, 2, 10], [12, 11, 9, 8, 7, 6, 0, 5, 4, 3, 1, 2, 10], [13, 12, 11, 9, 8, 7, 6, 0, 5, 4, 3, 1, 2, 10], [14, 13, 12, 11, 9, 8, 7, 6, 0, 5, 4, 3, 1, 2, 10], [8, 7, 6, 0, 5, 4, 3, 1, 2, 15, 14, 13, 12, 11, 9, 10]], [0, 6, 14], (.q 1 (.q 2 (.q 3 (.q 4 (.q 5 (.a 0 [5] (.a 6 [] (.q 7 (.q 8 (.q 9 (.q 10 (.q 11 (.q 12 (.q 13 (.a 14 [] (.q 15 (.q 16 .done)) (.z))))))))) (.z)) (.z)))))))⟩
  | _ => ⟨[], [], .z⟩
theorem pl37_9 : (pl37 9).plan = .q 0 (.q 1 (.q 2 (.q 3 (.q 4 (.q 5 (.q 6 (.q 7 (.q 8 (.q 9 (.q 10 .done)))))))))) := rfl
theorem pl37_4 : (pl37 4).plan = .q 1 (.q 2 (.q 3 (.q 4 (.q 5 (.a 0 [5] (.a 6 [] (.q 7 (.q 8 (.q 9 (.q 10 (.q 11 (.q 12 (.q 13 (.a 14 [] (.q 15 (.q 16 .done)) (.z))))))))) (.z)) (.z)))))) := rfl
def pl70 : Nat → RPlan
  | 3 => ⟨[[], [0], [], [2], [1, 0, 3, 2]], [3, 4], (.q 0 (.q 1 (.q 2 (.a 3 [] (.a 4 [] (.done) (.z)) (.z)))))⟩
  | _ => ⟨[], [], .z⟩
theorem pl70_3 : (pl70 3).plan = .q 0 (.q 1 (.q 2 (.a 3 [] (.a 4 [] (.done) (.z)) (.z)))) := rfl
def pl88 : Nat → RPlan
  | 7 => ⟨[[], [], [0, 1], [2, 0, 1], [], [], [4, 5], [6, 4, 5], [3, 2, 0, 1, 7, 6, 4, 5]], [], (.q 0 (.q 1 (.q 2 (.q 3 (.q 4 (.q 5 (.q 6 (.q 7 (.q 8 .done)))))))))⟩
  | _ => ⟨[], [], .z⟩
theorem pl88_7 : (pl88 7).plan = .q 0 (.q 1 (.q 2 (.q 3 (.q 4 (.q 5 (.q 6 (.q 7 (.q 8 .done)))))))) := rfl
def pl89 : Nat → RPlan
  | 3 => ⟨[[], [], [0, 1], [], [3], [2, 0, 1, 4, 3], [5, 2, 0, 1, 4, 3], [6, 5, 2, 0, 1, 4, 3], [6, 5, 2, 0, 1, 4, 3], [7, 6, 5, 2, 0, 1, 4, 3], [8, 6, 5, 2, 0, 1, 4, 3, 9, 7]], [2, 5], (.q 0 (.q 1 (.q 3 (.q 4 (.a 2 [4] (.a 5 [] (.q 6 (.q 7 (.q 8 (.q 9 (.q 10 .done))))) (.z)) (.z))))))⟩
  | _ => ⟨[], [], .z⟩
theorem pl89_3 : (pl89 3).plan = .q 0 (.q 1 (.q 3 (.q 4 (.a 2 [4] (.a 5 [] (.q 6 (.q 7 (.q 8 (.q 9 (.q 10 .done))))) (.z)) (.z))))) := rfl
def pl128 : Nat → RPlan
  | 5 => ⟨[[], [], [], [1, 2], [3, 1, 2], [4, 3, 1, 2], [5, 4, 3, 1, 2], [6, 5, 4, 3, 1, 2], [], [], [8, 9], [10, 8, 9], [11, 10, 8, 9], [12, 11, 10, 8, 9], [13, 12, 11, 10, 8, 9], [7, 6, 5, 4, 3, 1, 2, 14, 13, 12, 11, 10, 8, 9], [0, 15, 7, 6, 5, 4, 3, 1, 2, 14, 13, 12, 11, 10, 8, 9], [16, 0, 15, 7, 6, 5, 4, 3, 1, 2, 14, 13, 12, 11, 10, 8, 9]], [6, 17], (.q 0 (.q 1 (.q 2 (.q 3 (.q 4 (.q 5 (.q 8 (.q 9 (.q 10 (.q 11 (.q 12 (.q 13 (.q 14 (.a 6 [12] (.q 7 (.q 15 (.q 16 (.a 17 [] (.done) (.z))))) (.z)))))))))))))))⟩
  | _ => ⟨[], [], .z⟩
theorem pl128_5 : (pl128 5).plan = .q 0 (.q 1 (.q 2 (.q 3 (.q 4 (.q 5 (.q 8 (.q 9 (.q 10 (.q 11 (.q 12 (.q 13 (.q 14 (.a 6 [12] (.q 7 (.q 15 (.q 16 (.a 17 [] (.done) (.z))))) (.z)))))))))))))) := rfl
def pl181 : Nat → RPlan
  | 3 => ⟨[[], [], [0, 1], [], [3], [2, 0, 1, 4, 3], [5, 2, 0, 1, 4, 3], [6, 5, 2, 0, 1, 4, 3], [6, 5, 2, 0, 1, 4, 3], [7, 6, 5, 2, 0, 1, 4, 3], [8, 6, 5, 2, 0, 1, 4, 3, 9, 7]], [2, 5], (.q 0 (.q 1 (.q 3 (.q 4 (.a 2 [4] (.a 5 [] (.q 6 (.q 7 (.q 8 (.q 9 (.q 10 .done))))) (.z)) (.z))))))⟩
  | _ => ⟨[], [], .z⟩
theorem pl181_3 : (pl181 3).plan = .q 0 (.q 1 (.q 3 (.q 4 (.a 2 [4] (.a 5 [] (.q 6 (.q 7 (.q 8 (.q 9 (.q 10 .done))))) (.z)) (.z))))) := rfl
def pl186 : Nat → RPlan
  | 19 => ⟨[[], [0], [1, 0], [2, 1, 0], [3, 2, 1, 0], [4, 3, 2, 1, 0], [3, 2, 1, 0], [3, 2, 1, 0], [6, 3, 2, 1, 0, 7], [5, 4, 3, 2, 1, 0, 8, 6, 7], [3, 2, 1, 0, 9, 5, 4, 8, 6, 7]], [1, 5], (.q 0 (.a 1 [] (.q 2 (.q 3 (.q 4 (.q 6 (.q 7 (.q 8 (.a 5 [] (.q 9 (.q 10 .done)) (.z)))))))) (.z)))⟩
  | _ => ⟨[], [], .z⟩
theorem pl186_19 : (pl186 19).plan = .q 0 (.a 1 [] (.q 2 (.q 3 (.q 4 (.q 6 (.q 7 (.q 8 (.a 5 [] (.q 9 (.q 10 .done)) (.z)))))))) (.z)) := rfl
def pl192 : Nat → RPlan
  | 6 => ⟨[[], [0], [], [1, 0, 2], [], [4], [3, 1, 0, 2, 5, 4], [6, 3, 1, 0, 2, 5, 4]], [3], (.q 0 (.q 1 (.q 2 (.q 4 (.q 5 (.a 3 [5] (.q 6 (.q 7 .done)) (.z)))))))⟩
  | _ => ⟨[], [], .z⟩
theorem pl192_6 : (pl192 6).plan = .q 0 (.q 1 (.q 2 (.q 4 (.q 5 (.a 3 [5] (.q 6 (.q 7 .done)) (.z)))))) := rfl
def pl193 : Nat → RPlan
  | 7 => ⟨[[], [0], [1, 0], [2, 1, 0], [3, 2, 1, 0], [4, 3, 2, 1, 0], [3, 2, 1, 0], [6, 3, 2, 1, 0], [5, 4, 3, 2, 1, 0, 7, 6], [3, 2, 1, 0, 8, 5, 4, 7, 6], [9, 3, 2, 1, 0, 8, 5, 4, 7, 6], [10, 9, 3, 2, 1, 0, 8, 5, 4, 7, 6], [11, 10, 9, 3, 2, 1, 0, 8, 5, 4, 7, 6], [10, 9, 3, 2, 1, 0, 8, 5, 4, 7, 6], [13, 10, 9, 3, 2, 1, 0, 8, 5, 4, 7, 6], [14, 13, 10, 9, 3, 2, 1, 0, 8, 5, 4, 7, 6], [12, 11, 10, 9, 3, 2, 1, 0, 8, 5, 4, 7, 6, 15, 14, 13], [10, 9, 3, 2, 1, 0, 8, 5, 4, 7, 6, 16, 12, 11, 15, 14, 13]], [15], (.q 0 (.q 1 (.q 2 (.q 3 (.q 4 (.q 5 (.q 6 (.q 7 (.q 8 (.q 9 (.q 10 (.q 11 (.q 12 (.q 13 (.q 14 (.a 15 [12] (.q 16 (.q 17 .done)) (.z)))))))))))))))))⟩
  | 1 => ⟨[[], [0], [1, 0], [2, 1, 0], [3, 2, 1, 0], [4, 3, 2, 1, 0], [5, 4, 3, 2, 1, 0], [3, 2, 1, 0, 6, 5, 4], [7, 3, 2, 1, 0, 6, 5, 4], [8, 7, 3, 2, 1, 0, 6, 5, 4], [9, 8, 7, 3, 2, 1, 0, 6, 5, 4], [10, 9, 8, 7, 3, 2, 1, 0, 6, 5, 4], [11, 10, 9, 8, 7, 3, 2, 1, 0, 6, 5, 4], [12, 11, 10, 9, 8, 7, 3, 2, 1, 0, 6, 5, 4], [13, 12, 11, 10, 9, 8, 7, 3, 2, 1, 0, 6, 5, 4], [14, 13, 12, 11, 10, 9, 8, 7, 3, 2, 1, 0, 6, 5, 4], [12, 11, 10, 9, 8, 7, 3, 2, 1, 0, 6, 5, 4], [16, 12, 11, 10, 9, 8, 7, 3, 2, 1, 0, 6, 5, 4], [15, 14, 13, 12, 11, 10, 9, 8, 7, 3, 2, 1, 0, 6, 5, 4, 17, 16], [18, 15, 14, 13, 12, 11, 10, 9, 8, 7, 3, 2, 1, 0, 6, 5, 4, 17, 16], [12, 11, 10, 9, 8, 7, 3, 2, 1, 0, 6, 5, 4, 19, 18, 15, 14, 13, 17, 16], [8, 7, 3, 2, 1, 0, 6, 5, 4, 20, 12, 11, 10, 9, 19, 18, 15, 14, 13, 17, 16], [21, 8, 7, 3, 2, 1, 0, 6, 5, 4, 20, 12, 11, 10, 9, 19, 18, 15, 14, 13, 17, 16], [22, 21, 8, 7, 3, 2, 1, 0, 6, 5, 4, 20, 12, 11, 10, 9, 19, 18, 15, 14, 13, 17, 16], [23, 22, 21, 8, 7, 3, 2, 1, 0, 6, 5, 4, 20, 12, 11, 10, 9, 19, 18, 15, 14, 13, 17, 16], [24, 23, 22, 21, 8, 7, 3, 2, 1, 0, 6, 5, 4, 20, 12, 11, 10, 9, 19, 18, 15, 14, 13, 17, 16], [25, 24, 23, 22, 21, 8, 7, 3, 2, 1, 0, 6, 5, 4, 20, 12, 11, 10, 9, 19, 18, 15, 14, 13, 17, 16], [22, 21, 8, 7, 3, 2, 1, 0, 6, 5, 4, 20, 12, 11, 10, 9, 19, 18, 15, 14, 13, 17, 16, 26, 25, 24, 23], [27, 22, 21, 8, 7, 3, 2, 1, 0, 6, 5, 4, 20, 12, 11, 10, 9, 19, 18, 15, 14, 13, 17, 16, 26, 25, 24, 23], [28, 27, 22, 21, 8, 7, 3, 2, 1, 0, 6, 5, 4, 20, 12, 11, 10, 9, 19, 18, 15, 14, 13, 17, 16, 26, 25, 24, 23], [29, 28, 27, 22, 21, 8, 7, 3, 2, 1, 0, 6, 5, 4, 20, 12, 11, 10, 9, 19, 18, 15, 14, 13, 17, 16, 26, 25, 24, 23], [30, 29, 28, 27, 22, 21, 8, 7, 3, 2, 1, 0, 6, 5, 4, 20, 12, 11, 10, 9, 19, 18, 15, 14, 13, 17, 16, 26, 25, 24, 23], [31, 30, 29, 28, 27, 22, 21, 8, 7, 3, 2, 1, 0, 6, 5, 4, 20, 12, 11, 10, 9, 19, 18, 15, 14, 13, 17, 16, 26, 25, 24, 23], [28, 27, 22, 21, 8, 7, 3, 2, 1, 0, 6, 5, 4, 20, 12, 11, 10, 9, 19, 18, 15, 14, 13, 17, 16, 26, 25, 24, 23, 32, 31, 30, 29]], [15, 18], (.q 0 (.q 1 (.q 2 (.q 3 (.q 4 (.q 5 (.q 6 (.q 7 (.q 8 (.q 9 (.q 10 (.q 11 (.q 12 (.q 13 (.q 14 (.q 16 (.q 17 (.a 15 [17] (.a 18 [] (.q 19 (.q 20 (.q 21 (.q 22 (.q 23 (.q 24 (.q 25 (.q 26 (.q 27 (.q 28 (.q 29 (.q 30 (.q 31 (.q 32 (.q 33 .done))))))))))))))) (.z)) (.z)))))))))))))))))))⟩
  | _ => ⟨[], [], .z⟩
theorem pl193_7 : (pl193 7).plan = .q 0 (.q 1 (.q 2 (.q 3 (.q 4 (.q 5 (.q 6 (.q 7 (.q 8 (.q 9 (.q 10 (.q 11 (.q 12 (.q 13 (.q 14 (.a 15 [12] (.q 16 (.q 17 .done)) (.z)))))))))))))))) := rfl
theorem pl193_1 : (pl193 1).plan = .q 0 (.q 1 (.q 2 (.q 3 (.q 4 (.q 5 (.q 6 (.q 7 (.q 8 (.q 9 (.q 10 (.q 11 (.q 12 (.q 13 (.q 14 (.q 16 (.q 17 (.a 15 [17] (.a 18 [] (.q 19 (.q 20 (.q 21 (.q 22 (.q 23 (.q 24 (.q 25 (.q 26 (.q 27 (.q 28 (.q 29 (.q 30 (.q 31 (.q 32 (.q 33 .done))))))))))))))) (.z)) (.z)))))))))))))))))) := rfl
def pl204 : Nat → RPlan
  | 6 => ⟨[[], [0], [], [1, 0, 2], [], [4], [3, 1, 0, 2, 5, 4], [6, 3, 1, 0, 2, 5, 4]], [3], (.q 0 (.q 1 (.q 2 (.q 4 (.q 5 (.a 3 [5] (.q 6 (.q 7 .done)) (.z)))))))⟩
  | _ => ⟨[], [], .z⟩
theorem pl204_6 : (pl204 6).plan = .q 0 (.q 1 (.q 2 (.q 4 (.q 5 (.a 3 [5] (.q 6 (.q 7 .done)) (.z)))))) := rfl
def pl207 : Nat → RPlan
  | 6 => ⟨[[], [0], [1, 0], [2, 1, 0], [3, 2, 1, 0], [4, 3, 2, 1, 0], [3, 2, 1, 0], [6, 3, 2, 1, 0], [5, 4, 3, 2, 1, 0, 7, 6], [3, 2, 1, 0, 8, 5, 4, 7, 6], [9, 3, 2, 1, 0, 8, 5, 4, 7, 6], [10, 9, 3, 2, 1, 0, 8, 5, 4, 7, 6], [11, 10, 9, 3, 2, 1, 0, 8, 5, 4, 7, 6], [10, 9, 3, 2, 1, 0, 8, 5, 4, 7, 6], [13, 10, 9, 3, 2, 1, 0, 8, 5, 4, 7, 6], [14, 13, 10, 9, 3, 2, 1, 0, 8, 5, 4, 7, 6], [12, 11, 10, 9, 3, 2, 1, 0, 8, 5, 4, 7, 6, 15, 14, 13], [10, 9, 3, 2, 1, 0, 8, 5, 4, 7, 6, 16, 12, 11, 15, 14, 13]], [15], (.q 0 (.q 1 (.q 2 (.q 3 (.q 4 (.q 5 (.q 6 (.q 7 (.q 8 (.q 9 (.q 10 (.q 11 (.q 12 (.q 13 (.q 14 (.a 15 [12] (.q 16 (.q 17 .done)) (.z)))))))))))))))))⟩
  | _ => ⟨[], [], .z⟩
theorem pl207_6 : (pl207 6).plan = .q 0 (.q 1 (.q 2 (.q 3 (.q 4 (.q 5 (.q 6 (.q 7 (.q 8 (.q 9 (.q 10 (.q 11 (.q 12 (.q 13 (.q 14 (.a 15 [12] (.q 16 (.q 17 .done)) (.z)))))))))))))))) := rfl
def pl260 : Nat → RPlan
  | 8 => ⟨[[], [], [1], [2, 1], [3, 2, 1], [4, 3, 2, 1], [5, 4, 3, 2, 1], [3, 2, 1, 6, 5, 4], [0, 5, 4, 3, 2, 1], [7, 3, 2, 1, 6, 5, 4, 8, 0]], [5, 8], (.q 0 (.q 1 (.q 2 (.q 3 (.q 4 (.a 5 [0] (.q 6 (.q 7 (.a 8 [] (.q 9 .done) (.z)))) (.z)))))))⟩
  | _ => ⟨[], [], .z⟩
theorem pl260_8 : (pl260 8).plan = .q 0 (.q 1 (.q 2 (.q 3 (.q 4 (.a 5 [0] (.q 6 (.q 7 (.a 8 [] (.q 9 .done) (.z)))) (.z)))))) := rfl
def pl347 : Nat → RPlan
  | 3 => ⟨[[], [], [0, 1], [], [], [], [5], [4, 6, 5], [3, 7, 4, 6, 5], [2, 0, 1], [8, 3, 7, 4, 6, 5, 9, 2, 0, 1], [10, 8, 3, 7, 4, 6, 5, 9, 2, 0, 1]], [], (.q 0 (.q 1 (.q 2 (.q 3 (.q 4 (.q 5 (.q 6 (.q 7 (.q 8 (.q 9 (.q 10 (.q 11 .done))))))))))))⟩
  | _ => ⟨[], [], .z⟩
theorem pl347_3 : (pl347 3).plan = .q 0 (.q 1 (.q 2 (.q 3 (.q 4 (.q 5 (.q 6 (.q 7 (.q 8 (.q 9 (.q 10 (.q 11 .done))))))))))) := rfl
end Go.Proofs.Tryz

namespace Go.Proofs
open Go.Shelf
def Tryz.lays103_ren : Go.Shelf.Ren := ⟨fun | 103 => 252 | 210 => 307 | 206 => 305 | n => n, fun | 9 => 9 | 4 => 4 | 24 => 150 | 3 => 3 | n => n, fun | n => n⟩
theorem Tryz.lays103 : Go.Proofs.Lays.n103 Tryz.prog Tryz.lays103_ren := {
  mixed := by kernel_rfl
  f103 := Tryz.func252.trans (congrArg some (by kernel_rfl))
  f206 := Tryz.func305.trans (congrArg some (by kernel_rfl))
  f210 := Tryz.func307.trans (congrArg some (by kernel_rfl))
  t3 := Tryz.underlying3
  a3 := Tryz.isAgg3
  z3 := Tryz.sizeOf3
  v3 := Tryz.zeroValue3
  t4 := Tryz.underlying4
  a4 := Tryz.isAgg4
  z4 := Tryz.sizeOf4
  v4 := Tryz.zeroValue4
  t9 := Tryz.underlying9
  a9 := Tryz.isAgg9
  z9 := Tryz.sizeOf9
  v9 := Tryz.zeroValue9
  t24 := Tryz.underlying150
  a24 := Tryz.isAgg150
  z24 := Tryz.sizeOf150
  v24 := Tryz.zeroValue150 }
def Tryz.lays219_ren : Go.Shelf.Ren := ⟨fun | 219 => 360 | 217 => 363 | 225 => 391 | 224 => 392 | 267 => 393 | 266 => 394 | 314 => 414 | n => n, fun | 9 => 9 | 3 => 3 | 4 => 4 | 5 => 5 | 46 => 378 | 146 => 428 | 51 => 405 | n => n, fun | 1 => 0 | n => n⟩
theorem Tryz.lays219 : Go.Proofs.Lays.n219 Tryz.prog Tryz.lays219_ren := {
  mixed := by kernel_rfl
  f217 := Tryz.func363.trans (congrArg some (by kernel_rfl))
  f219 := Tryz.func360.trans (congrArg some (by kernel_rfl))
  f224 := Tryz.func392.trans (congrArg some (by kernel_rfl))
  f225 := Tryz.func391.trans (congrArg some (by kernel_rfl))
  f266 := Tryz.func394.trans (congrArg some (by kernel_rfl))
  f267 := Tryz.func393.trans (congrArg some (by kernel_rfl))
  f314 := Tryz.func414.trans (congrArg some (by kernel_rfl))
  t3 := Tryz.underlying3
  a3 := Tryz.isAgg3
  z3 := Tryz.sizeOf3
  v3 := Tryz.zeroValue3
  t4 := Tryz.underlying4
  a4 := Tryz.isAgg4
  z4 := Tryz.sizeOf4
  v4 := Tryz.zeroValue4
  t5 := Tryz.underlying5
  a5 := Tryz.isAgg5
  z5 := Tryz.sizeOf5
  v5 := Tryz.zeroValue5
  t9 := Tryz.underlying9
  a9 := Tryz.isAgg9
  z9 := Tryz.sizeOf9
  v9 := Tryz.zeroValue9
  t46 := Tryz.underlying378
  a46 := Tryz.isAgg378
  z46 := Tryz.sizeOf378
  v46 := Tryz.zeroValue378
  t51 := Tryz.underlying405
  a51 := Tryz.isAgg405
  z51 := Tryz.sizeOf405
  v51 := Tryz.zeroValue405
  t146 := Tryz.underlying428
  a146 := Tryz.isAgg428
  z146 := Tryz.sizeOf428
  v146 := Tryz.zeroValue428
  g1 := by kernel_rfl }
def Tryz.lays160_ren : Go.Shelf.Ren := ⟨fun | 160 => 348 | 232 => 350 | 231 => 383 | 227 => 351 | 234 => 352 | 233 => 384 | 236 => 353 | 235 => 385 | 228 => 386 | 271 => 387 | 151 => 388 | 197 => 406 | 120 => 407 | 152 => 408 | 260 => 418 | 137 => 326 | 119 => 419 | 224 => 392 | 225 => 391 | 217 => 363 | 266 => 394 | n => n, fun | 9 => 9 | 4 => 4 | 3 => 3 | 5 => 5 | 117 => 382 | 116 => 381 | 0 => 0 | 124 => 385 | 21 => 21 | 105 => 406 | 46 => 378 | 119 => 440 | 139 => 443 | 138 => 442 | n => n, fun | 3 => 6 | 4 => 7 | n => n⟩
theorem Tryz.lays160 : Go.Proofs.Lays.n160 Tryz.prog Tryz.lays160_ren := {
  mixed := by kernel_rfl
  f119 := Tryz.func419.trans (congrArg some (by kernel_rfl))
  f120 := Tryz.func407.trans (congrArg some (by kernel_rfl))
  f137 := Tryz.func326.trans (congrArg some (by kernel_rfl))
  f151 := Tryz.func388.trans (congrArg some (by kernel_rfl))
  f152 := Tryz.func408.trans (congrArg some (by kernel_rfl))
  f160 := Tryz.func348.trans (congrArg some (by kernel_rfl))
  f197 := Tryz.func406.trans (congrArg some (by kernel_rfl))
  f217 := Tryz.func363.trans (congrArg some (by kernel_rfl))
  f224 := Tryz.func392.trans (congrArg some (by kernel_rfl))
  f225 := Tryz.func391.trans (congrArg some (by kernel_rfl))
  f227 := Tryz.func351.trans (congrArg some (by kernel_rfl))
  f228 := Tryz.func386.trans (congrArg some (by kernel_rfl))
  f231 := Tryz.func383.trans (congrArg some (by kernel_rfl))
  f232 := Tryz.func350.trans (congrArg some (by kernel_rfl))
  f233 := Tryz.func384.trans (congrArg some (by kernel_rfl))
  f234 := Tryz.func352.trans (congrArg some (by kernel_rfl))
  f235 := Tryz.func385.trans (congrArg some (by kernel_rfl))
  f236 := Tryz.func353.trans (congrArg some (by kernel_rfl))
  f260 := Tryz.func418.trans (congrArg some (by kernel_rfl))
  f266 := Tryz.func394.trans (congrArg some (by kernel_rfl))
  f271 := Tryz.func387.trans (congrArg some (by kernel_rfl))
  t0 := Tryz.underlying0
  a0 := Tryz.isAgg0
  z0 := Tryz.sizeOf0
  v0 := Tryz.zeroValue0
  t3 := Tryz.underlying3
  a3 := Tryz.isAgg3
  z3 := Tryz.sizeOf3
  v3 := Tryz.zeroValue3
  t4 := Tryz.underlying4
  a4 := Tryz.isAgg4
  z4 := Tryz.sizeOf4
  v4 := Tryz.zeroValue4
  t5 := Tryz.underlying5
  a5 := Tryz.isAgg5
  z5 := Tryz.sizeOf5
  v5 := Tryz.zeroValue5
  t9 := Tryz.underlying9
  a9 := Tryz.isAgg9
  z9 := Tryz.sizeOf9
  v9 := Tryz.zeroValue9
  t21 := Tryz.underlying21
  a21 := Tryz.isAgg21
  z21 := Tryz.sizeOf21
  v21 := Tryz.zeroValue21
  t46 := Tryz.underlying378
  a46 := Tryz.isAgg378
  z46 := Tryz.sizeOf378
  v46 := Tryz.zeroValue378
  t105 := Tryz.underlying406
  a105 := Tryz.isAgg406
  z105 := Tryz.sizeOf406
  v105 := Tryz.zeroValue406
  t116 := Tryz.underlying381
  a116 := Tryz.isAgg381
  z116 := Tryz.sizeOf381
  t117 := Tryz.underlying382
  a117 := Tryz.isAgg382
  z117 := Tryz.sizeOf382
  v117 := Tryz.zeroValue382
  t119 := Tryz.underlying440
  a119 := Tryz.isAgg440
  z119 := Tryz.sizeOf440
  t124 := Tryz.underlying385
  a124 := Tryz.isAgg385
  z124 := Tryz.sizeOf385
  v124 := Tryz.zeroValue385
  t138 := Tryz.underlying442
  a138 := Tryz.isAgg442
  z138 := Tryz.sizeOf442
  v138 := Tryz.zeroValue442
  t139 := Tryz.underlying443
  a139 := Tryz.isAgg443
  z139 := Tryz.sizeOf443
  v139 := Tryz.zeroValue443
  g3 := by kernel_rfl
  g4 := by kernel_rfl }
def Tryz.lays162_ren : Go.Shelf.Ren := ⟨fun | 162 => 315 | 232 => 350 | 227 => 351 | 234 => 352 | 236 => 353 | 228 => 386 | 271 => 387 | 151 => 388 | 120 => 407 | 197 => 406 | 152 => 408 | 260 => 418 | 137 => 326 | 119 => 419 | 224 => 392 | 225 => 391 | 217 => 363 | 266 => 394 | n => n, fun | 9 => 9 | 4 => 4 | 3 => 3 | 5 => 5 | 117 => 382 | 116 => 381 | 0 => 0 | 124 => 385 | 21 => 21 | 105 => 406 | 46 => 378 | 119 => 440 | 139 => 443 | 138 => 442 | n => n, fun | 3 => 6 | 4 => 7 | n => n⟩
theorem Tryz.lays162 : Go.Proofs.Lays.n162 Tryz.prog Tryz.lays162_ren := {
  mixed := by kernel_rfl
  f119 := Tryz.func419.trans (congrArg some (by kernel_rfl))
  f120 := Tryz.func407.trans (congrArg some (by kernel_rfl))
  f137 := Tryz.func326.trans (congrArg some (by kernel_rfl))
  f151 := Tryz.func388.trans (congrArg some (by kernel_rfl))
  f152 := Tryz.func408.trans (congrArg some (by kernel_rfl))
  f162 := Tryz.func315.trans (congrArg some (by kernel_rfl))
  f197 := Tryz.func406.trans (congrArg some (by kernel_rfl))
  f217 := Tryz.func363.trans (congrArg some (by kernel_rfl))
  f224 := Tryz.func392.trans (congrArg some (by kernel_rfl))
  f225 := Tryz.func391.trans (congrArg some (by kernel_rfl))
  f227 := Tryz.func351.trans (congrArg some (by kernel_rfl))
  f228 := Tryz.func386.trans (congrArg some (by kernel_rfl))
  f232 := Tryz.func350.trans (congrArg some (by kernel_rfl))
  f234 := Tryz.func352.trans (congrArg some (by kernel_rfl))
  f236 := Tryz.func353.trans (congrArg some (by kernel_rfl))
  f260 := Tryz.func418.trans (congrArg some (by kernel_rfl))
  f266 := Tryz.func394.trans (congrArg some (by kernel_rfl))
  f271 := Tryz.func387.trans (congrArg some (by kernel_rfl))
  t0 := Tryz.underlying0
  a0 := Tryz.isAgg0
  z0 := Tryz.sizeOf0
  v0 := Tryz.zeroValue0
  t3 := Tryz.underlying3
  a3 := Tryz.isAgg3
  z3 := Tryz.sizeOf3
  v3 := Tryz.zeroValue3
  t4 := Tryz.underlying4
  a4 := Tryz.isAgg4
  z4 := Tryz.sizeOf4
  v4 := Tryz.zeroValue4
  t5 := Tryz.underlying5
  a5 := Tryz.isAgg5
  z5 := Tryz.sizeOf5
  v5 := Tryz.zeroValue5
  t9 := Tryz.underlying9
  a9 := Tryz.isAgg9
  z9 := Tryz.sizeOf9
  v9 := Tryz.zeroValue9
  t21 := Tryz.underlying21
  a21 := Tryz.isAgg21
  z21 := Tryz.sizeOf21
  v21 := Tryz.zeroValue21
  t46 := Tryz.underlying378
  a46 := Tryz.isAgg378
  z46 := Tryz.sizeOf378
  v46 := Tryz.zeroValue378
  t105 := Tryz.underlying406
  a105 := Tryz.isAgg406
  z105 := Tryz.sizeOf406
  v105 := Tryz.zeroValue406
  t116 := Tryz.underlying381
  a116 := Tryz.isAgg381
  z116 := Tryz.sizeOf381
  t117 := Tryz.underlying382
  a117 := Tryz.isAgg382
  z117 := Tryz.sizeOf382
  v117 := Tryz.zeroValue382
  t119 := Tryz.underlying440
  a119 := Tryz.isAgg440
  z119 := Tryz.sizeOf440
  t124 := Tryz.underlying385
  a124 := Tryz.isAgg385
  z124 := Tryz.sizeOf385
  v124 := Tryz.zeroValue385
  t138 := Tryz.underlying442
  a138 := Tryz.isAgg442
  z138 := Tryz.sizeOf442
  v138 := Tryz.zeroValue442
  t139 := Tryz.underlying443
  a139 := Tryz.isAgg443
  z139 := Tryz.sizeOf443
  v139 := Tryz.zeroValue443
  g3 := by kernel_rfl
  g4 := by kernel_rfl }
def Tryz.lays172_ren : Go.Shelf.Ren := ⟨fun | 172 => 354 | 244 => 389 | 245 => 390 | 247 => 409 | 279 => 410 | 280 => 411 | 281 => 412 | 282 => 413 | 287 => 420 | 316 => 421 | 171 => 254 | 205 => 422 | 321 => 423 | 322 => 424 | 243 => 308 | 246 => 344 | 283 => 368 | 284 => 369 | 285 => 370 | 286 => 371 | 129 => 382 | 317 => 396 | 318 => 397 | 319 => 398 | 320 => 399 | 337 => 415 | 338 => 416 | n => n, fun | 9 => 9 | 3 => 3 | 75 => 371 | 76 => 386 | 4 => 4 | 5 => 5 | 167 => 422 | 37 => 305 | 0 => 0 | 85 => 423 | 2 => 2 | 168 => 425 | 53 => 323 | 175 => 433 | 46 => 378 | 210 => 436 | 127 => 391 | 145 => 447 | 143 => 445 | 21 => 21 | 171 => 392 | 173 => 395 | 212 => 413 | 51 => 405 | 20 => 20 | 213 => 414 | 232 => 438 | 233 => 439 | 80 => 359 | n => n, fun | 15 => 2 | 16 => 3 | 17 => 1 | 18 => 4 | 19 => 5 | n => n⟩
theorem Tryz.lays172 : Go.Proofs.Lays.n172 Tryz.prog Tryz.lays172_ren := {
  mixed := by kernel_rfl
  f129 := Tryz.func382.trans (congrArg some (by kernel_rfl))
  f171 := Tryz.func254.trans (congrArg some (by kernel_rfl))
  f172 := Tryz.func354.trans (congrArg some (by kernel_rfl))
  f205 := Tryz.func422.trans (congrArg some (by kernel_rfl))
  f243 := Tryz.func308.trans (congrArg some (by kernel_rfl))
  f244 := Tryz.func389.trans (congrArg some (by kernel_rfl))
  f245 := Tryz.func390.trans (congrArg some (by kernel_rfl))
  f246 := Tryz.func344.trans (congrArg some (by kernel_rfl))
  f247 := Tryz.func409.trans (congrArg some (by kernel_rfl))
  f279 := Tryz.func410.trans (congrArg some (by kernel_rfl))
  f280 := Tryz.func411.trans (congrArg some (by kernel_rfl))
  f281 := Tryz.func412.trans (congrArg some (by kernel_rfl))
  f282 := Tryz.func413.trans (congrArg some (by kernel_rfl))
  f283 := Tryz.func368.trans (congrArg some (by kernel_rfl))
  f284 := Tryz.func369.trans (congrArg some (by kernel_rfl))
  f285 := Tryz.func370.trans (congrArg some (by kernel_rfl))
  f286 := Tryz.func371.trans (congrArg some (by kernel_rfl))
  f287 := Tryz.func420.trans (congrArg some (by kernel_rfl))
  f316 := Tryz.func421.trans (congrArg some (by kernel_rfl))
  f317 := Tryz.func396.trans (congrArg some (by kernel_rfl))
  f318 := Tryz.func397.trans (congrArg some (by kernel_rfl))
  f319 := Tryz.func398.trans (congrArg some (by kernel_rfl))
  f320 := Tryz.func399.trans (congrArg some (by kernel_rfl))
  f321 := Tryz.func423.trans (congrArg some (by kernel_rfl))
  f322 := Tryz.func424.trans (congrArg some (by kernel_rfl))
  f337 := Tryz.func415.trans (congrArg some (by kernel_rfl))
  f338 := Tryz.func416.trans (congrArg some (by kernel_rfl))
  t0 := Tryz.underlying0
  a0 := Tryz.isAgg0
  z0 := Tryz.sizeOf0
  v0 := Tryz.zeroValue0
  t2 := Tryz.underlying2
  a2 := Tryz.isAgg2
  z2 := Tryz.sizeOf2
  v2 := Tryz.zeroValue2
  t3 := Tryz.underlying3
  a3 := Tryz.isAgg3
  z3 := Tryz.sizeOf3
  v3 := Tryz.zeroValue3
  t4 := Tryz.underlying4
  a4 := Tryz.isAgg4
  z4 := Tryz.sizeOf4
  v4 := Tryz.zeroValue4
  t5 := Tryz.underlying5
  a5 := Tryz.isAgg5
  z5 := Tryz.sizeOf5
  v5 := Tryz.zeroValue5
  t9 := Tryz.underlying9
  a9 := Tryz.isAgg9
  z9 := Tryz.sizeOf9
  v9 := Tryz.zeroValue9
  t20 := Tryz.underlying20
  a20 := Tryz.isAgg20
  z20 := Tryz.sizeOf20
  v20 := Tryz.zeroValue20
  t21 := Tryz.underlying21
  a21 := Tryz.isAgg21
  z21 := Tryz.sizeOf21
  v21 := Tryz.zeroValue21
  t37 := Tryz.underlying305
  a37 := Tryz.isAgg305
  z37 := Tryz.sizeOf305
  v37 := Tryz.zeroValue305
  t46 := Tryz.underlying378
  a46 := Tryz.isAgg378
  z46 := Tryz.sizeOf378
  v46 := Tryz.zeroValue378
  t51 := Tryz.underlying405
  a51 := Tryz.isAgg405
  z51 := Tryz.sizeOf405
  v51 := Tryz.zeroValue405
  t53 := Tryz.underlying323
  a53 := Tryz.isAgg323
  z53 := Tryz.sizeOf323
  v53 := Tryz.zeroValue323
  t75 := Tryz.underlying371
  a75 := Tryz.isAgg371
  z75 := Tryz.sizeOf371
  v75 := Tryz.zeroValue371
  t76 := Tryz.underlying386
  a76 := Tryz.isAgg386
  z76 := Tryz.sizeOf386
  v76 := Tryz.zeroValue386
  t85 := Tryz.underlying423
  a85 := Tryz.isAgg423
  z85 := Tryz.sizeOf423
  v85 := Tryz.zeroValue423
  t127 := Tryz.underlying391
  a127 := Tryz.isAgg391
  z127 := Tryz.sizeOf391
  v127 := Tryz.zeroValue391
  t143 := Tryz.underlying445
  a143 := Tryz.isAgg445
  z143 := Tryz.sizeOf445
  v143 := Tryz.zeroValue445
  t145 := Tryz.underlying447
  a145 := Tryz.isAgg447
  z145 := Tryz.sizeOf447
  v145 := Tryz.zeroValue447
  t167 := Tryz.underlying422
  a167 := Tryz.isAgg422
  z167 := Tryz.sizeOf422
  v167 := Tryz.zeroValue422
  t168 := Tryz.underlying425
  a168 := Tryz.isAgg425
  z168 := Tryz.sizeOf425
  v168 := Tryz.zeroValue425
  t171 := Tryz.underlying392
  a171 := Tryz.isAgg392
  z171 := Tryz.sizeOf392
  v171 := Tryz.zeroValue392
  t173 := Tryz.underlying395
  a173 := Tryz.isAgg395
  z173 := Tryz.sizeOf395
  v173 := Tryz.zeroValue395
  t175 := Tryz.underlying433
  a175 := Tryz.isAgg433
  z175 := Tryz.sizeOf433
  v175 := Tryz.zeroValue433
  t210 := Tryz.underlying436
  a210 := Tryz.isAgg436
  z210 := Tryz.sizeOf436
  v210 := Tryz.zeroValue436
  t212 := Tryz.underlying413
  a212 := Tryz.isAgg413
  z212 := Tryz.sizeOf413
  v212 := Tryz.zeroValue413
  t213 := Tryz.underlying414
  a213 := Tryz.isAgg414
  z213 := Tryz.sizeOf414
  t232 := Tryz.underlying438
  a232 := Tryz.isAgg438
  z232 := Tryz.sizeOf438
  v232 := Tryz.zeroValue438
  t233 := Tryz.underlying439
  a233 := Tryz.isAgg439
  z233 := Tryz.sizeOf439
  v233 := Tryz.zeroValue439
  g15 := by kernel_rfl
  g16 := by kernel_rfl
  g17 := by kernel_rfl
  g18 := by kernel_rfl
  g19 := by kernel_rfl }
def Tryz.lays16_ren : Go.Shelf.Ren := ⟨fun | 16 => 169 | n => n, fun | 24 => 28 | 9 => 9 | 4 => 4 | n => n, fun | n => n⟩
theorem Tryz.lays16 : Go.Proofs.Lays2.n16 Tryz.prog Tryz.lays16_ren := {
  mixed := by kernel_rfl
  f16 := Tryz.func169.trans (congrArg some (by kernel_rfl))
  t4 := Tryz.underlying4
  a4 := Tryz.isAgg4
  z4 := Tryz.sizeOf4
  v4 := Tryz.zeroValue4
  t9 := Tryz.underlying9
  a9 := Tryz.isAgg9
  z9 := Tryz.sizeOf9
  v9 := Tryz.zeroValue9
  t24 := Tryz.underlying28
  a24 := Tryz.isAgg28
  z24 := Tryz.sizeOf28
  v24 := Tryz.zeroValue28
  i9 := by kernel_rfl }
end Go.Proofs
