/-
  Part of a proof: contracts of functions in abstract values.
-/
import Derived.Test.YtejdblkohdbhaaaGreatDoorNaae
import Derived.Shelf.Small.Wraps
import Derived.Shelf.Strings.Search2
import Derived.Shelf.Strings.SlTrimAscii
import Derived.Shelf.Strconv.Atoi
import Derived.Shelf.Slices.Clone
import Derived.Ground.NamesProg
import Derived.Test.YtejdblkohdbhaaaGreatDoorProg
set_option linter.unusedVariables false
set_option linter.unusedSimpArgs false
namespace Go.Proofs.Tryz
open Go Go.Abs
def pl0 : Nat → RPlan := fun _ => ⟨[], [], .z⟩
def pl25 : Nat → RPlan
  | 10 => ⟨[[], [0], [], [], [3], [], [2, 4, 3, 5, 1, 0], [1, 0, 6, 2, 4, 3, 5], [7, 1, 0, 6, 2, 4, 3, 5]], [1, 6, 7], (.q 0 (.q 2 (.q 3 (.q 4 (.q 5 (.a 1 [2, 4, 5] (.a 6 [] (.a 7 [] (.q 8 .done) (.z)) (.z)) (.z)))))))⟩
  | _ => ⟨[], [], .z⟩
theorem pl25_10 : (pl25 10).plan = .q 0 (.q 2 (.q 3 (.q 4 (.q 5 (.a 1 [2, 4, 5] (.a 6 [] (.a 7 [] (.q 8 .done) (.z)) (.z)) (.z)))))) := rfl
def pl37 : Nat → RPlan
  | 9 => ⟨[[], [], [0, 1], [2, 0, 1], [3, 2, 0, 1], [], [], [5, 6], [7, 5, 6], [8, 7, 5, 6], [4, 3, 2, 0, 1, 9, 8, 7, 5, 6]], [], (.q 0 (.q 1 (.q 2 (.q 3 (.q 4 (.q 5 (.q 6 (.q 7 (.q 8 (.q 9 (.q 10 .done)))))))))))⟩
  | 4 => ⟨[[], [], [], [1, 2], [3, 1, 2], [4, 3, 1, 2], [0, 5, 4, 3, 1, 2], [6, 0, 5, 4, 3, 1, 2], [7, 6, 0, 5, 4, 3, 1, 2], [8, 7, 6, 0, 5, 4, 3, 1, 2], [8, 7, 6, 0, 5, 4, 3, 1, 2], [9, 8, 7, 6, 0, 5, 4, 3, 1, 2, 10], [11, 9, 8, 7, 6, 0, 5, 4, 3, 1, 2, 10], [12, 11, 9, 8, 7, 6, 0, 5, 4, 3, 1, 2, 10], [13, 12, 11, 9, 8, 7, 6, 0, 5, 4, 3, 1, 2, 10], [14, 13, 12, 11, 9, 8, 7, 6, 0, 5, 4, 3, 1, 2, 10], [8, 7, 6, 0, 5, 4, 3, 1, 2, 15, 14, 13, 12, 11, 9, 10]], [0, 6, 14], (.q 1 (.q 2 (.q 3 (.q 4 (.q 5 (.a 0 [5] (.a 6 [] (.q 7 (.q 8 (.q 9 (.q 10 (.q 11 (.q 12 (.q 13 (.a 14 [] (.q 15 (.q 16 .done)) (.z))))))))) (.z)) (.z)))))))⟩
  | _ => ⟨[], [], .z⟩
theorem pl37_9 : (pl37 9).plan = .q 0 (.q 1 (.q 2 (.q 3 (.q 4 (.q 5 (.q 6 (.q 7 (.q 8 (.q 9 (.q 10 .done)))))))))) := rfl
theorem pl37_4 : (pl37 4).plan = .q 1 (.q 2 (.q 3 (.q 4 (.q 5 (.a 0 [5] (.a 6 [] (.q 7 (.q 8 (.q 9 (.q 10 (.q 11 (.q 12 (.q 13 (.a 14 [] (.q 15 (.q 16 .done)) (.z))))))))) (.z)) (.z)))))) := rfl
def pl70 : Nat → RPlan
  | 3 => ⟨[[], [0], [], [2], [1, 0, 3, 2]], [3, 4], (.q 0 (.q 1 (.q 2 (.a 3 [] (.a 4 [] (.done) (.z)) (.z)))))⟩
  | _ => ⟨[], [], .z⟩
theorem pl70_3 : (pl70 3).plan = .q 0 (.q 1 (.q 2 (.a 3 [] (.a 4 [] (.done) (.z)) (.z)))) := rfl
def pl88 : Nat → RPlan
  | 7 => ⟨[[], [], [0, 1], [2, 0, 1], [], [], [4, 5], [6, 4, 5], [3, 2, 0, 1, 7, 6, 4, 5]], [], (.q 0 (.q 1 (.q 2 (.q 3 (.q 4 (.q 5 (.q 6 (.q 7 (.q 8 .done)))))))))⟩
  | _ => ⟨[], [], .z⟩
theorem pl88_7 : (pl88 7).plan = .q 0 (.q 1 (.q 2 (.q 3 (.q 4 (.q 5 (.q 6 (.q 7 (.q 8 .done)))))))) := rfl
def pl89 : Nat → RPlan
  | 3 => ⟨[[], [], [0, 1], [], [3], [2, 0, 1, 4, 3], [5, 2, 0, 1, 4, 3], [6, 5, 2, 0, 1, 4, 3], [6, 5, 2, 0, 1, 4, 3], [7, 6, 5, 2, 0, 1, 4, 3], [8, 6, 5, 2, 0, 1, 4, 3, 9, 7]], [2, 5], (.q 0 (.q 1 (.q 3 (.q 4 (.a 2 [4] (.a 5 [] (.q 6 (.q 7 (.q 8 (.q 9 (.q 10 .done))))) (.z)) (.z))))))⟩
  | _ => ⟨[], [], .z⟩
theorem pl89_3 : (pl89 3).plan = .q 0 (.q 1 (.q 3 (.q 4 (.a 2 [4] (.a 5 [] (.q 6 (.q 7 (.q 8 (.q 9 (.q 10 .done))))) (.z)) (.z))))) := rfl
def pl128 : Nat → RPlan
  | 5 => ⟨[[], [], [], [1, 2], [3, 1, 2], [4, 3, 1, 2], [5, 4, 3, 1, 2], [6, 5, 4, 3, 1, 2], [], [], [8, 9], [10, 8, 9], [11, 10, 8, 9], [12, 11, 10, 8, 9], [13, 12, 11, 10, 8, 9], [7, 6, 5, 4, 3, 1, 2, 14, 13, 12, 11, 10, 8, 9], [0, 15, 7, 6, 5, 4, 3, 1, 2, 14, 13, 12, 11, 10, 8, 9], [16, 0, 15, 7, 6, 5, 4, 3, 1, 2, 14, 13, 12, 11, 10, 8, 9]], [6, 17], (.q 0 (.q 1 (.q 2 (.q 3 (.q 4 (.q 5 (.q 8 (.q 9 (.q 10 (.q 11 (.q 12 (.q 13 (.q 14 (.a 6 [12] (.q 7 (.q 15 (.q 16 (.a 17 [] (.done) (.z))))) (.z)))))))))))))))⟩
  | _ => ⟨[], [], .z⟩
theorem pl128_5 : (pl128 5).plan = .q 0 (.q 1 (.q 2 (.q 3 (.q 4 (.q 5 (.q 8 (.q 9 (.q 10 (.q 11 (.q 12 (.q 13 (.q 14 (.a 6 [12] (.q 7 (.q 15 (.q 16 (.a 17 [] (.done) (.z))))) (.z)))))))))))))) := rfl
def pl181 : Nat → RPlan
  | 3 => ⟨[[], [], [0, 1], [], [3], [2, 0, 1, 4, 3], [5, 2, 0, 1, 4, 3], [6, 5, 2, 0, 1, 4, 3], [6, 5, 2, 0, 1, 4, 3], [7, 6, 5, 2, 0, 1, 4, 3], [8, 6, 5, 2, 0, 1, 4, 3, 9, 7]], [2, 5], (.q 0 (.q 1 (.q 3 (.q 4 (.a 2 [4] (.a 5 [] (.q 6 (.q 7 (.q 8 (.q 9 (.q 10 .done))))) (.z)) (.z))))))⟩
  | _ => ⟨[], [], .z⟩
theorem pl181_3 : (pl181 3).plan = .q 0 (.q 1 (.q 3 (.q 4 (.a 2 [4] (.a 5 [] (.q 6 (.q 7 (.q 8 (.q 9 (.q 10 .done))))) (.z)) (.z))))) := rfl
def pl192 : Nat → RPlan
  | 6 => ⟨[[], [0], [], [1, 0, 2], [], [4], [3, 1, 0, 2, 5, 4], [6, 3, 1, 0, 2, 5, 4]], [3], (.q 0 (.q 1 (.q 2 (.q 4 (.q 5 (.a 3 [5] (.q 6 (.q 7 .done)) (.z)))))))⟩
  | _ => ⟨[], [], .z⟩
theorem pl192_6 : (pl192 6).plan = .q 0 (.q 1 (.q 2 (.q 4 (.q 5 (.a 3 [5] (.q 6 (.q 7 .done)) (.z)))))) := rfl
def pl193 : Nat → RPlan
  | 7 => ⟨[[], [0], [1, 0], [2, 1, 0], [3, 2, 1, 0], [4, 3, 2, 1, 0], [3, 2, 1, 0], [6, 3, 2, 1, 0], [5, 4, 3, 2, 1, 0, 7, 6], [3, 2, 1, 0, 8, 5, 4, 7, 6], [9, 3, 2, 1, 0, 8, 5, 4, 7, 6], [10, 9, 3, 2, 1, 0, 8, 5, 4, 7, 6], [11, 10, 9, 3, 2, 1, 0, 8, 5, 4, 7, 6], [10, 9, 3, 2, 1, 0, 8, 5, 4, 7, 6], [13, 10, 9, 3, 2, 1, 0, 8, 5, 4, 7, 6], [14, 13, 10, 9, 3, 2, 1, 0, 8, 5, 4, 7, 6], [12, 11, 10, 9, 3, 2, 1, 0, 8, 5, 4, 7, 6, 15, 14, 13], [10, 9, 3, 2, 1, 0, 8, 5, 4, 7, 6, 16, 12, 11, 15, 14, 13]], [15], (.q 0 (.q 1 (.q 2 (.q 3 (.q 4 (.q 5 (.q 6 (.q 7 (.q 8 (.q 9 (.q 10 (.q 11 (.q 12 (.q 13 (.q 14 (.a 15 [12] (.q 16 (.q 17 .done)) (.z)))))))))))))))))⟩
  | 1 => ⟨[[], [0], [1, 0], [2, 1, 0], [3, 2, 1, 0], [4, 3, 2, 1, 0], [5, 4, 3, 2, 1, 0], [3, 2, 1, 0, 6, 5, 4], [7, 3, 2, 1, 0, 6, 5, 4], [8, 7, 3, 2, 1, 0, 6, 5, 4], [9, 8, 7, 3, 2, 1, 0, 6, 5, 4], [10, 9, 8, 7, 3, 2, 1, 0, 6, 5, 4], [11, 10, 9, 8, 7, 3, 2, 1, 0, 6, 5, 4], [12, 11, 10, 9, 8, 7, 3, 2, 1, 0, 6, 5, 4], [13, 12, 11, 10, 9, 8, 7, 3, 2, 1, 0, 6, 5, 4], [14, 13, 12, 11, 10, 9, 8, 7, 3, 2, 1, 0, 6, 5, 4], [12, 11, 10, 9, 8, 7, 3, 2, 1, 0, 6, 5, 4], [16, 12, 11, 10, 9, 8, 7, 3, 2, 1, 0, 6, 5, 4], [15, 14, 13, 12, 11, 10, 9, 8, 7, 3, 2, 1, 0, 6, 5, 4, 17, 16], [18, 15, 14, 13, 12, 11, 10, 9, 8, 7, 3, 2, 1, 0, 6, 5, 4, 17, 16], [12, 11, 10, 9, 8, 7, 3, 2, 1, 0, 6, 5, 4, 19, 18, 15, 14, 13, 17, 16], [8, 7, 3, 2, 1, 0, 6, 5, 4, 20, 12, 11, 10, 9, 19, 18, 15, 14, 13, 17, 16], [21, 8, 7, 3, 2, 1, 0, 6, 5, 4, 20, 12, 11, 10, 9, 19, 18, 15, 14, 13, 17, 16], [22, 21, 8, 7, 3, 2, 1, 0, 6, 5, 4, 20, 12, 11, 10, 9, 19, 18, 15, 14, 13, 17, 16], [23, 22, 21, 8, 7, 3, 2, 1, 0, 6, 5, 4, 20, 12, 11, 10, 9, 19, 18, 15, 14, 13, 17, 16], [24, 23, 22, 21, 8, 7, 3, 2, 1, 0, 6, 5, 4, 20, 12, 11, 10, 9, 19, 18, 15, 14, 13, 17, 16], [25, 24, 23, 22, 21, 8, 7, 3, 2, 1, 0, 6, 5, 4, 20, 12, 11, 10, 9, 19, 18, 15, 14, 13, 17, 16], [22, 21, 8, 7, 3, 2, 1, 0, 6, 5, 4, 20, 12, 11, 10, 9, 19, 18, 15, 14, 13, 17, 16, 26, 25, 24, 23], [27, 22, 21, 8, 7, 3, 2, 1, 0, 6, 5, 4, 20, 12, 11, 10, 9, 19, 18, 15, 14, 13, 17, 16, 26, 25, 24, 23], [28, 27, 22, 21, 8, 7, 3, 2, 1, 0, 6, 5, 4, 20, 12, 11, 10, 9, 19, 18, 15, 14, 13, 17, 16, 26, 25, 24, 23], [29, 28, 27, 22, 21, 8, 7, 3, 2, 1, 0, 6, 5, 4, 20, 12, 11, 10, 9, 19, 18, 15, 14, 13, 17, 16, 26, 25, 24, 23], [30, 29, 28, 27, 22, 21, 8, 7, 3, 2, 1, 0, 6, 5, 4, 20, 12, 11, 10, 9, 19, 18, 15, 14, 13, 17, 16, 26, 25, 24, 23], [31, 30, 29, 28, 27, 22, 21, 8, 7, 3, 2, 1, 0, 6, 5, 4, 20, 12, 11, 10, 9, 19, 18, 15, 14, 13, 17, 16, 26, 25, 24, 23], [28, 27, 22, 21, 8, 7, 3, 2, 1, 0, 6, 5, 4, 20, 12, 11, 10, 9, 19, 18, 15, 14, 13, 17, 16, 26, 25, 24, 23, 32, 31, 30, 29]], [15, 18], (.q 0 (.q 1 (.q 2 (.q 3 (.q 4 (.q 5 (.q 6 (.q 7 (.q 8 (.q 9 (.q 10 (.q 11 (.q 12 (.q 13 (.q 14 (.q 16 (.q 17 (.a 15 [17] (.a 18 [] (.q 19 (.q 20 (.q 21 (.q 22 (.q 23 (.q 24 (.q 25 (.q 26 (.q 27 (.q 28 (.q 29 (.q 30 (.q 31 (.q 32 (.q 33 .done))))))))))))))) (.z)) (.z)))))))))))))))))))⟩
  | _ => ⟨[], [], .z⟩
theorem pl193_7 : (pl193 7).plan = .q 0 (.q 1 (.q 2 (.q 3 (.q 4 (.q 5 (.q 6 (.q 7 (.q 8 (.q 9 (.q 10 (.q 11 (.q 12 (.q 13 (.q 14 (.a 15 [12] (.q 16 (.q 17 .done)) (.z)))))))))))))))) := rfl
theorem pl193_1 : (pl193 1).plan = .q 0 (.q 1 (.q 2 (.q 3 (.q 4 (.q 5 (.q 6 (.q 7 (.q 8 (.q 9 (.q 10 (.q 11 (.q 12 (.q 13 (.q 14 (.q 16 (.q 17 (.a 15 [17] (.a 18 [] (.q 19 (.q 20 (.q 21 (.q 22 (.q 23 (.q 24 (.q 25 (.q 26 (.q 27 (.q 28 (.q 29 (.q 30 (.q 31 (.q 32 (.q 33 .done))))))))))))))) (.z)) (.z)))))))))))))))))) := rfl
def pl203 : Nat → RPlan
  | 16 => ⟨[[], [0], [1, 0], [2, 1, 0], [], [4], [5, 4], [6, 5, 4], [], [3, 2, 1, 0, 8], [7, 6, 5, 4, 9, 3, 2, 1, 0, 8]], [], (.q 0 (.q 1 (.q 2 (.q 3 (.q 4 (.q 5 (.q 6 (.q 7 (.q 8 (.q 9 (.q 10 .done)))))))))))⟩
  | _ => ⟨[], [], .z⟩
theorem pl203_16 : (pl203 16).plan = .q 0 (.q 1 (.q 2 (.q 3 (.q 4 (.q 5 (.q 6 (.q 7 (.q 8 (.q 9 (.q 10 .done)))))))))) := rfl
def pl204 : Nat → RPlan
  | 6 => ⟨[[], [0], [], [1, 0, 2], [], [4], [3, 1, 0, 2, 5, 4], [6, 3, 1, 0, 2, 5, 4]], [3], (.q 0 (.q 1 (.q 2 (.q 4 (.q 5 (.a 3 [5] (.q 6 (.q 7 .done)) (.z)))))))⟩
  | _ => ⟨[], [], .z⟩
theorem pl204_6 : (pl204 6).plan = .q 0 (.q 1 (.q 2 (.q 4 (.q 5 (.a 3 [5] (.q 6 (.q 7 .done)) (.z)))))) := rfl
def pl207 : Nat → RPlan
  | 6 => ⟨[[], [0], [1, 0], [2, 1, 0], [3, 2, 1, 0], [4, 3, 2, 1, 0], [3, 2, 1, 0], [6, 3, 2, 1, 0], [5, 4, 3, 2, 1, 0, 7, 6], [3, 2, 1, 0, 8, 5, 4, 7, 6], [9, 3, 2, 1, 0, 8, 5, 4, 7, 6], [10, 9, 3, 2, 1, 0, 8, 5, 4, 7, 6], [11, 10, 9, 3, 2, 1, 0, 8, 5, 4, 7, 6], [10, 9, 3, 2, 1, 0, 8, 5, 4, 7, 6], [13, 10, 9, 3, 2, 1, 0, 8, 5, 4, 7, 6], [14, 13, 10, 9, 3, 2, 1, 0, 8, 5, 4, 7, 6], [12, 11, 10, 9, 3, 2, 1, 0, 8, 5, 4, 7, 6, 15, 14, 13], [10, 9, 3, 2, 1, 0, 8, 5, 4, 7, 6, 16, 12, 11, 15, 14, 13]], [15], (.q 0 (.q 1 (.q 2 (.q 3 (.q 4 (.q 5 (.q 6 (.q 7 (.q 8 (.q 9 (.q 10 (.q 11 (.q 12 (.q 13 (.q 14 (.a 15 [12] (.q 16 (.q 17 .done)) (.z)))))))))))))))))⟩
  | _ => ⟨[], [], .z⟩
theorem pl207_6 : (pl207 6).plan = .q 0 (.q 1 (.q 2 (.q 3 (.q 4 (.q 5 (.q 6 (.q 7 (.q 8 (.q 9 (.q 10 (.q 11 (.q 12 (.q 13 (.q 14 (.a 15 [12] (.q 16 (.q 17 .done)) (.z)))))))))))))))) := rfl
def pl260 : Nat → RPlan
  | 8 => ⟨[[], [], [1], [2, 1], [3, 2, 1], [4, 3, 2, 1], [5, 4, 3, 2, 1], [3, 2, 1, 6, 5, 4], [0, 5, 4, 3, 2, 1], [7, 3, 2, 1, 6, 5, 4, 8, 0]], [5, 8], (.q 0 (.q 1 (.q 2 (.q 3 (.q 4 (.a 5 [0] (.q 6 (.q 7 (.a 8 [] (.q 9 .done) (.z)))) (.z)))))))⟩
  | _ => ⟨[], [], .z⟩
theorem pl260_8 : (pl260 8).plan = .q 0 (.q 1 (.q 2 (.q 3 (.q 4 (.a 5 [0] (.q 6 (.q 7 (.a 8 [] (.q 9 .done) (.z)))) (.z)))))) := rfl
def pl277 : Nat → RPlan
  | 16 => ⟨[[], [0], [], [], [], [4], [5, 4], [2, 3, 6, 5, 4], [7, 2, 3, 6, 5, 4], [1, 0, 8, 7, 2, 3, 6, 5, 4], [0, 1, 2, 3, 4, 5, 6, 7, 8, 9], [10, 0, 1, 2, 3, 4, 5, 6, 7, 8, 9]], [7, 8, 9, 11], (.q 0 (.q 1 (.q 2 (.q 3 (.q 4 (.q 5 (.q 6 (.a 7 [1] (.a 8 [1] (.a 9 [] (.q 10 (.a 11 [] (.done) (.z))) (.z)) (.z)) (.z)))))))))⟩
  | _ => ⟨[], [], .z⟩
theorem pl277_16 : (pl277 16).plan = .q 0 (.q 1 (.q 2 (.q 3 (.q 4 (.q 5 (.q 6 (.a 7 [1] (.a 8 [1] (.a 9 [] (.q 10 (.a 11 [] (.done) (.z))) (.z)) (.z)) (.z)))))))) := rfl
def pl278 : Nat → RPlan
  | 0 => ⟨[[], [0], [1, 0], [2, 1, 0], [], [4], [5, 4], [6, 5, 4], [7, 6, 5, 4], [3, 2, 1, 0, 8, 7, 6, 5, 4], [9, 3, 2, 1, 0, 8, 7, 6, 5, 4], [10, 9, 3, 2, 1, 0, 8, 7, 6, 5, 4], [11, 10, 9, 3, 2, 1, 0, 8, 7, 6, 5, 4], [12, 11, 10, 9, 3, 2, 1, 0, 8, 7, 6, 5, 4], [13, 12, 11, 10, 9, 3, 2, 1, 0, 8, 7, 6, 5, 4], [10, 9, 3, 2, 1, 0, 8, 7, 6, 5, 4], [15, 10, 9, 3, 2, 1, 0, 8, 7, 6, 5, 4], [16, 15, 10, 9, 3, 2, 1, 0, 8, 7, 6, 5, 4], [17, 16, 15, 10, 9, 3, 2, 1, 0, 8, 7, 6, 5, 4], [14, 13, 12, 11, 10, 9, 3, 2, 1, 0, 8, 7, 6, 5, 4, 18, 17, 16, 15], [19, 14, 13, 12, 11, 10, 9, 3, 2, 1, 0, 8, 7, 6, 5, 4, 18, 17, 16, 15], [20, 19, 14, 13, 12, 11, 10, 9, 3, 2, 1, 0, 8, 7, 6, 5, 4, 18, 17, 16, 15], [10, 9, 3, 2, 1, 0, 8, 7, 6, 5, 4, 21, 20, 19, 14, 13, 12, 11, 18, 17, 16, 15]], [20], (.q 0 (.q 1 (.q 2 (.q 3 (.q 4 (.q 5 (.q 6 (.q 7 (.q 8 (.q 9 (.q 10 (.q 11 (.q 12 (.q 13 (.q 14 (.q 15 (.q 16 (.q 17 (.q 18 (.q 19 (.a 20 [] (.q 21 (.q 22 .done)) (.z))))))))))))))))))))))⟩
  | _ => ⟨[], [], .z⟩
theorem pl278_0 : (pl278 0).plan = .q 0 (.q 1 (.q 2 (.q 3 (.q 4 (.q 5 (.q 6 (.q 7 (.q 8 (.q 9 (.q 10 (.q 11 (.q 12 (.q 13 (.q 14 (.q 15 (.q 16 (.q 17 (.q 18 (.q 19 (.a 20 [] (.q 21 (.q 22 .done)) (.z))))))))))))))))))))) := rfl
def pl320 : Nat → RPlan
  | 2 => ⟨[[], [0], [1, 0], [2, 1, 0], [], [4], [5, 4], [6, 5, 4], [3, 2, 1, 0, 7, 6, 5, 4], [8, 3, 2, 1, 0, 7, 6, 5, 4]], [], (.q 0 (.q 1 (.q 2 (.q 3 (.q 4 (.q 5 (.q 6 (.q 7 (.q 8 (.q 9 .done))))))))))⟩
  | _ => ⟨[], [], .z⟩
theorem pl320_2 : (pl320 2).plan = .q 0 (.q 1 (.q 2 (.q 3 (.q 4 (.q 5 (.q 6 (.q 7 (.q 8 (.q 9 .done))))))))) := rfl
def pl347 : Nat → RPlan
  | 3 => ⟨[[], [], [0, 1], [], [], [], [5], [4, 6, 5], [3, 7, 4, 6, 5], [2, 0, 1], [8, 3, 7, 4, 6, 5, 9, 2, 0, 1], [10, 8, 3, 7, 4, 6, 5, 9, 2, 0, 1]], [], (.q 0 (.q 1 (.q 2 (.q 3 (.q 4 (.q 5 (.q 6 (.q 7 (.q 8 (.q 9 (.q 10 (.q 11 .done))))))))))))⟩
  | _ => ⟨[], [], .z⟩
theorem pl347_3 : (pl347 3).plan = .q 0 (.q 1 (.q 2 (.q 3 (.q 4 (.q 5 (.q 6 (.q 7 (.q 8 (.q 9 (.q 10 (.q 11 .done))))))))))) := rfl
end Go.Proofs.Tryz

namespace Go.Proofs
open Go.Shelf
def Tryz.lays103_ren : Go.Shelf.Ren := ⟨fun | 103 => 252 | 210 => 307 | 206 => 305 | n => n, fun | 9 => 9 | 4 => 4 | 24 => 150 | 3 => 3 | n => n, fun | n => n⟩
theorem Tryz.lays103 : Go.Proofs.Lays.n103 Tryz.prog Tryz.lays103_ren := {
  mixed := by kernel_rfl
  f103 := Tryz.func252.trans (congrArg some (by kernel_rfl))
  f206 := Tryz.func305.trans (congrArg some (by kernel_rfl))
  f210 := Tryz.func307.trans (congrArg some (by kernel_rfl))
  t3 := Tryz.underlying3
  a3 := Tryz.isAgg3
  z3 := Tryz.sizeOf3
  v3 := Tryz.zeroValue3
  t4 := Tryz.underlying4
  a4 := Tryz.isAgg4
  z4 := Tryz.sizeOf4
  v4 := Tryz.zeroValue4
  t9 := Tryz.underlying9
  a9 := Tryz.isAgg9
  z9 := Tryz.sizeOf9
  v9 := Tryz.zeroValue9
  t24 := Tryz.underlying150
  a24 := Tryz.isAgg150
  z24 := Tryz.sizeOf150
  v24 := Tryz.zeroValue150 }
def Tryz.lays219_ren : Go.Shelf.Ren := ⟨fun | 219 => 360 | 217 => 363 | 225 => 391 | 224 => 392 | 267 => 393 | 266 => 394 | 314 => 414 | n => n, fun | 9 => 9 | 3 => 3 | 4 => 4 | 5 => 5 | 46 => 378 | 146 => 428 | 51 => 405 | n => n, fun | 1 => 0 | n => n⟩
theorem Tryz.lays219 : Go.Proofs.Lays.n219 Tryz.prog Tryz.lays219_ren := {
  mixed := by kernel_rfl
  f217 := Tryz.func363.trans (congrArg some (by kernel_rfl))
  f219 := Tryz.func360.trans (congrArg some (by kernel_rfl))
  f224 := Tryz.func392.trans (congrArg some (by kernel_rfl))
  f225 := Tryz.func391.trans (congrArg some (by kernel_rfl))
  f266 := Tryz.func394.trans (congrArg some (by kernel_rfl))
  f267 := Tryz.func393.trans (congrArg some (by kernel_rfl))
  f314 := Tryz.func414.trans (congrArg some (by kernel_rfl))
  t3 := Tryz.underlying3
  a3 := Tryz.isAgg3
  z3 := Tryz.sizeOf3
  v3 := Tryz.zeroValue3
  t4 := Tryz.underlying4
  a4 := Tryz.isAgg4
  z4 := Tryz.sizeOf4
  v4 := Tryz.zeroValue4
  t5 := Tryz.underlying5
  a5 := Tryz.isAgg5
  z5 := Tryz.sizeOf5
  v5 := Tryz.zeroValue5
  t9 := Tryz.underlying9
  a9 := Tryz.isAgg9
  z9 := Tryz.sizeOf9
  v9 := Tryz.zeroValue9
  t46 := Tryz.underlying378
  a46 := Tryz.isAgg378
  z46 := Tryz.sizeOf378
  v46 := Tryz.zeroValue378
  t51 := Tryz.underlying405
  a51 := Tryz.isAgg405
  z51 := Tryz.sizeOf405
  v51 := Tryz.zeroValue405
  t146 := Tryz.underlying428
  a146 := Tryz.isAgg428
  z146 := Tryz.sizeOf428
  v146 := Tryz.zeroValue428
  g1 := by kernel_rfl }
def Tryz.lays160_ren : Go.Shelf.Ren := ⟨fun | 160 => 348 | 232 => 350 | 231 => 383 | 227 => 351 | 234 => 352 | 233 => 384 | 236 => 353 | 235 => 385 | 228 => 386 | 271 => 387 | 151 => 388 | 197 => 406 | 120 => 407 | 152 => 408 | 260 => 418 | 137 => 326 | 119 => 419 | 224 => 392 | 225 => 391 | 217 => 363 | 266 => 394 | n => n, fun | 9 => 9 | 4 => 4 | 3 => 3 | 5 => 5 | 117 => 382 | 116 => 381 | 0 => 0 | 124 => 385 | 21 => 21 | 105 => 406 | 46 => 378 | 119 => 440 | 139 => 443 | 138 => 442 | n => n, fun | 3 => 6 | 4 => 7 | n => n⟩
theorem Tryz.lays160 : Go.Proofs.Lays.n160 Tryz.prog Tryz.lays160_ren := {
  mixed := by kernel_rfl
  f119 := Tryz.func419.trans (congrArg some (by kernel_rfl))
  f120 := Tryz.func407.trans (congrArg some (by kernel_rfl))
  f137 := Tryz.func326.trans (congrArg some (by kernel_rfl))
  f151 := Tryz.func388.trans (congrArg some (by kernel_rfl))
  f152 := Tryz.func408.trans (congrArg some (by kernel_rfl))
  f160 := Tryz.func348.trans (congrArg some (by kernel_rfl))
  f197 := Tryz.func406.trans (congrArg some (by kernel_rfl))
  f217 := Tryz.func363.trans (congrArg some (by kernel_rfl))
  f224 := Tryz.func392.trans (congrArg some (by kernel_rfl))
  f225 := Tryz.func391.trans (congrArg some (by kernel_rfl))
  f227 := Tryz.func351.trans (congrArg some (by kernel_rfl))
  f228 := Tryz.func386.trans (congrArg some (by kernel_rfl))
  f231 := Tryz.func383.trans (congrArg some (by kernel_rfl))
  f232 := Tryz.func350.trans (congrArg some (by kernel_rfl))
  f233 := Tryz.func384.trans (congrArg some (by kernel_rfl))
  f234 := Tryz.func352.trans (congrArg some (by kernel_rfl))
  f235 := Tryz.func385.trans (congrArg some (by kernel_rfl))
  f236 := Tryz.func353.trans (congrArg some (by kernel_rfl))
  f260 := Tryz.func418.trans (congrArg some (by kernel_rfl))
  f266 := Tryz.func394.trans (congrArg some (by kernel_rfl))
  f271 := Tryz.func387.trans (congrArg some (by kernel_rfl))
  t0 := Tryz.underlying0
  a0 := Tryz.isAgg0
  z0 := Tryz.sizeOf0
  v0 := Tryz.zeroValue0
  t3 := Tryz.underlying3
  a3 := Tryz.isAgg3
  z3 := Tryz.sizeOf3
  v3 := Tryz.zeroValue3
  t4 := Tryz.underlying4
  a4 := Tryz.isAgg4
  z4 := Tryz.sizeOf4
  v4 := Tryz.zeroValue4
  t5 := Tryz.underlying5
  a5 := Tryz.isAgg5
  z5 := Tryz.sizeOf5
  v5 := Tryz.zeroValue5
  t9 := Tryz.underlying9
  a9 := Tryz.isAgg9
  z9 := Tryz.sizeOf9
  v9 := Tryz.zeroValue9
  t21 := Tryz.underlying21
  a21 := Tryz.isAgg21
  z21 := Tryz.sizeOf21
  v21 := Tryz.zeroValue21
  t46 := Tryz.underlying378
  a46 := Tryz.isAgg378
  z46 := Tryz.sizeOf378
  v46 := Tryz.zeroValue378
  t105 := Tryz.underlying406
  a105 := Tryz.isAgg406
  z105 := Tryz.sizeOf406
  v105 := Tryz.zeroValue406
  t116 := Tryz.underlying381
  a116 := Tryz.isAgg381
  z116 := Tryz.sizeOf381
  t117 := Tryz.underlying382
  a117 := Tryz.isAgg382
  z117 := Tryz.sizeOf382
  v117 := Tryz.zeroValue382
  t119 := Tryz.underlying440
  a119 := Tryz.isAgg440
  z119 := Tryz.sizeOf440
  t124 := Tryz.underlying385
  a124 := Tryz.isAgg385
  z124 := Tryz.sizeOf385
  v124 := Tryz.zeroValue385
  t138 := Tryz.underlying442
  a138 := Tryz.isAgg442
  z138 := Tryz.sizeOf442
  v138 := Tryz.zeroValue442
  t139 := Tryz.underlying443
  a139 := Tryz.isAgg443
  z139 := Tryz.sizeOf443
  v139 := Tryz.zeroValue443
  g3 := by kernel_rfl
  g4 := by kernel_rfl }
def Tryz.lays162_ren : Go.Shelf.Ren := ⟨fun | 162 => 315 | 232 => 350 | 227 => 351 | 234 => 352 | 236 => 353 | 228 => 386 | 271 => 387 | 151 => 388 | 120 => 407 | 197 => 406 | 152 => 408 | 260 => 418 | 137 => 326 | 119 => 419 | 224 => 392 | 225 => 391 | 217 => 363 | 266 => 394 | n => n, fun | 9 => 9 | 4 => 4 | 3 => 3 | 5 => 5 | 117 => 382 | 116 => 381 | 0 => 0 | 124 => 385 | 21 => 21 | 105 => 406 | 46 => 378 | 119 => 440 | 139 => 443 | 138 => 442 | n => n, fun | 3 => 6 | 4 => 7 | n => n⟩
theorem Tryz.lays162 : Go.Proofs.Lays.n162 Tryz.prog Tryz.lays162_ren := {
  mixed := by kernel_rfl
  f119 := Tryz.func419.trans (congrArg some (by kernel_rfl))
  f120 := Tryz.func407.trans (congrArg some (by kernel_rfl))
  f137 := Tryz.func326.trans (congrArg some (by kernel_rfl))
  f151 := Tryz.func388.trans (congrArg some (by kernel_rfl))
  f152 := Tryz.func408.trans (congrArg some (by kernel_rfl))
  f162 := Tryz.func315.trans (congrArg some (by kernel_rfl))
  f197 := Tryz.func406.trans (congrArg some (by kernel_rfl))
  f217 := Tryz.func363.trans (congrArg some (by kernel_rfl))
  f224 := Tryz.func392.trans (congrArg some (by kernel_rfl))
  f225 := Tryz.func391.trans (congrArg some (by kernel_rfl))
  f227 := Tryz.func351.trans (congrArg some (by kernel_rfl))
  f228 := Tryz.func386.trans (congrArg some (by kernel_rfl))
  f232 := Tryz.func350.trans (congrArg some (by kernel_rfl))
  f234 := Tryz.func352.trans (congrArg some (by kernel_rfl))
  f236 := Tryz.func353.trans (congrArg some (by kernel_rfl))
  f260 := Tryz.func418.trans (congrArg some (by kernel_rfl))
  f266 := Tryz.func394.trans (congrArg some (by kernel_rfl))
  f271 := Tryz.func387.trans (congrArg some (by kernel_rfl))
  t0 := Tryz.underlying0
  a0 := Tryz.isAgg0
  z0 := Tryz.sizeOf0
  v0 := Tryz.zeroValue0
  t3 := Tryz.underlying3
  a3 := Tryz.isAgg3
  z3 := Tryz.sizeOf3
  v3 := Tryz.zeroValue3
  t4 := Tryz.underlying4
  a4 := Tryz.isAgg4
  z4 := Tryz.sizeOf4
  v4 := Tryz.zeroValue4
  t5 := Tryz.underlying5
  a5 := Tryz.isAgg5
  z5 := Tryz.sizeOf5
  v5 := Tryz.zeroValue5
  t9 := Tryz.underlying9
  a9 := Tryz.isAgg9
  z9 := Tryz.sizeOf9
  v9 := Tryz.zeroValue9
  t21 := Tryz.underlying21
  a21 := Tryz.isAgg21
  z21 := Tryz.sizeOf21
  v21 := Tryz.zeroValue21
  t46 := Tryz.underlying378
  a46 := Tryz.isAgg378
  z46 := Tryz.sizeOf378
  v46 := Tryz.zeroValue378
  t105 := Tryz.underlying406
  a105 := Tryz.isAgg406
  z105 := Tryz.sizeOf406
  v105 := Tryz.zeroValue406
  t116 := Tryz.underlying381
  a116 := Tryz.isAgg381
  z116 := Tryz.sizeOf381
  t117 := Tryz.underlying382
  a117 := Tryz.isAgg382
  z117 := Tryz.sizeOf382
  v117 := Tryz.zeroValue382
  t119 := Tryz.underlying440
  a119 := Tryz.isAgg440
  z119 := Tryz.sizeOf440
  t124 := Tryz.underlying385
  a124 := Tryz.isAgg385
  z124 := Tryz.sizeOf385
  v124 := Tryz.zeroValue385
  t138 := Tryz.underlying442
  a138 := Tryz.isAgg442
  z138 := Tryz.sizeOf442
  v138 := Tryz.zeroValue442
  t139 := Tryz.underlying443
  a139 := Tryz.isAgg443
  z139 := Tryz.sizeOf443
  v139 := Tryz.zeroValue443
  g3 := by kernel_rfl
  g4 := by kernel_rfl }
def Tryz.lays172_ren : Go.Shelf.Ren := ⟨fun | 172 => 354 | 244 => 389 | 245 => 390 | 247 => 409 | 279 => 410 | 280 => 411 | 281 => 412 | 282 => 413 | 287 => 420 | 316 => 421 | 171 => 254 | 205 => 422 | 321 => 423 | 322 => 424 | 243 => 308 | 246 => 344 | 283 => 368 | 284 => 369 | 285 => 370 | 286 => 371 | 129 => 382 | 317 => 396 | 318 => 397 | 319 => 398 | 320 => 399 | 337 => 415 | 338 => 416 | n => n, fun | 9 => 9 | 3 => 3 | 75 => 371 | 76 => 386 | 4 => 4 | 5 => 5 | 167 => 422 | 37 => 305 | 0 => 0 | 85 => 423 | 2 => 2 | 168 => 425 | 53 => 323 | 175 => 433 | 46 => 378 | 210 => 436 | 127 => 391 | 145 => 447 | 143 => 445 | 21 => 21 | 171 => 392 | 173 => 395 | 212 => 413 | 51 => 405 | 20 => 20 | 213 => 414 | 232 => 438 | 233 => 439 | 80 => 359 | n => n, fun | 15 => 2 | 16 => 3 | 17 => 1 | 18 => 4 | 19 => 5 | n => n⟩
theorem Tryz.lays172 : Go.Proofs.Lays.n172 Tryz.prog Tryz.lays172_ren := {
  mixed := by kernel_rfl
  f129 := Tryz.func382.trans (congrArg some (by kernel_rfl))
  f171 := Tryz.func254.trans (congrArg some (by kernel_rfl))
  f172 := Tryz.func354.trans (congrArg some (by kernel_rfl))
  f205 := Tryz.func422.trans (congrArg some (by kernel_rfl))
  f243 := Tryz.func308.trans (congrArg some (by kernel_rfl))
  f244 := Tryz.func389.trans (congrArg some (by kernel_rfl))
  f245 := Tryz.func390.trans (congrArg some (by kernel_rfl))
  f246 := Tryz.func344.trans (congrArg some (by kernel_rfl))
  f247 := Tryz.func409.trans (congrArg some (by kernel_rfl))
  f279 := Tryz.func410.trans (congrArg some (by kernel_rfl))
  f280 := Tryz.func411.trans (congrArg some (by kernel_rfl))
  f281 := Tryz.func412.trans (congrArg some (by kernel_rfl))
  f282 := Tryz.func413.trans (congrArg some (by kernel_rfl))
  f283 := Tryz.func368.trans (congrArg some (by kernel_rfl))
  f284 := Tryz.func369.trans (congrArg some (by kernel_rfl))
  f285 := Tryz.func370.trans (congrArg some (by kernel_rfl))
  f286 := Tryz.func371.trans (congrArg some (by kernel_rfl))
  f287 := Tryz.func420.trans (congrArg some (by kernel_rfl))
  f316 := Tryz.func421.trans (congrArg some (by kernel_rfl))
  f317 := Tryz.func396.trans (congrArg some (by kernel_rfl))
  f318 := Tryz.func397.trans (congrArg some (by kernel_rfl))
  f319 := Tryz.func398.trans (congrArg some (by kernel_rfl))
  f320 := Tryz.func399.trans (congrArg some (by kernel_rfl))
  f321 := Tryz.func423.trans (congrArg some (by kernel_rfl))
  f322 := Tryz.func424.trans (congrArg some (by kernel_rfl))
  f337 := Tryz.func415.trans (congrArg some (by kernel_rfl))
  f338 := Tryz.func416.trans (congrArg some (by kernel_rfl))
  t0 := Tryz.underlying0
  a0 := Tryz.isAgg0
  z0 := Tryz.sizeOf0
  v0 := Tryz.zeroValue0
  t2 := Tryz.underlying2
  a2 := Tryz.isAgg2
  z2 := Tryz.sizeOf2
  v2 := Tryz.zeroValue2
  t3 := Tryz.underlying3
  a3 := Tryz.isAgg3
  z3 := Tryz.sizeOf3
  v3 := Tryz.zeroValue3
  t4 := Tryz.underlying4
  a4 := Tryz.isAgg4
  z4 := Tryz.sizeOf4
  v4 := Tryz.zeroValue4
  t5 := Tryz.underlying5
  a5 := Tryz.isAgg5
  z5 := Tryz.sizeOf5
  v5 := Tryz.zeroValue5
  t9 := Tryz.underlying9
  a9 := Tryz.isAgg9
  z9 := Tryz.sizeOf9
  v9 := Tryz.zeroValue9
  t20 := Tryz.underlying20
  a20 := Tryz.isAgg20
  z20 := Tryz.sizeOf20
  v20 := Tryz.zeroValue20
  t21 := Tryz.underlying21
  a21 := Tryz.isAgg21
  z21 := Tryz.sizeOf21
  v21 := Tryz.zeroValue21
  t37 := Tryz.underlying305
  a37 := Tryz.isAgg305
  z37 := Tryz.sizeOf305
  v37 := Tryz.zeroValue305
  t46 := Tryz.underlying378
  a46 := Tryz.isAgg378
  z46 := Tryz.sizeOf378
  v46 := Tryz.zeroValue378
  t51 := Tryz.underlying405
  a51 := Tryz.isAgg405
  z51 := Tryz.sizeOf405
  v51 := Tryz.zeroValue405
  t53 := Tryz.underlying323
  a53 := Tryz.isAgg323
  z53 := Tryz.sizeOf323
  v53 := Tryz.zeroValue323
  t75 := Tryz.underlying371
  a75 := Tryz.isAgg371
  z75 := Tryz.sizeOf371
  v75 := Tryz.zeroValue371
  t76 := Tryz.underlying386
  a76 := Tryz.isAgg386
  z76 := Tryz.sizeOf386
  v76 := Tryz.zeroValue386
  t85 := Tryz.underlying423
  a85 := Tryz.isAgg423
  z85 := Tryz.sizeOf423
  v85 := Tryz.zeroValue423
  t127 := Tryz.underlying391
  a127 := Tryz.isAgg391
  z127 := Tryz.sizeOf391
  v127 := Tryz.zeroValue391
  t143 := Tryz.underlying445
  a143 := Tryz.isAgg445
  z143 := Tryz.sizeOf445
  v143 := Tryz.zeroValue445
  t145 := Tryz.underlying447
  a145 := Tryz.isAgg447
  z145 := Tryz.sizeOf447
  v145 := Tryz.zeroValue447
  t167 := Tryz.underlying422
  a167 := Tryz.isAgg422
  z167 := Tryz.sizeOf422
  v167 := Tryz.zeroValue422
  t168 := Tryz.underlying425
  a168 := Tryz.isAgg425
  z168 := Tryz.sizeOf425
  v168 := Tryz.zeroValue425
  t171 := Tryz.underlying392
  a171 := Tryz.isAgg392
  z171 := Tryz.sizeOf392
  v171 := Tryz.zeroValue392
  t173 := Tryz.underlying395
  a173 := Tryz.isAgg395
  z173 := Tryz.sizeOf395
  v173 := Tryz.zeroValue395
  t175 := Tryz.underlying433
  a175 := Tryz.isAgg433
  z175 := Tryz.sizeOf433
  v175 := Tryz.zeroValue433
  t210 := Tryz.underlying436
  a210 := Tryz.isAgg436
  z210 := Tryz.sizeOf436
  v210 := Tryz.zeroValue436
  t212 := Tryz.underlying413
  a212 := Tryz.isAgg413
  z212 := Tryz.sizeOf413
  v212 := Tryz.zeroValue413
  t213 := Tryz.underlying414
  a213 := Tryz.isAgg414
  z213 := Tryz.sizeOf414
  t232 := Tryz.underlying438
  a232 := Tryz.isAgg438
  z232 := Tryz.sizeOf438
  v232 := Tryz.zeroValue438
  t233 := Tryz.underlying439
  a233 := Tryz.isAgg439
  z233 := Tryz.sizeOf439
  v233 := Tryz.zeroValue439
  g15 := by kernel_rfl
  g16 := by kernel_rfl
  g17 := by kernel_rfl
  g18 := by kernel_rfl
  g19 := by kernel_rfl }
def Tryz.lays16_ren : Go.Shelf.Ren := ⟨fun | 16 => 169 | n => n, fun | 24 => 28 | 9 => 9 | 4 => 4 | n => n, fun | n => n⟩
theorem Tryz.lays16 : Go.Proofs.Lays2.n16 Tryz.prog Tryz.lays16_ren := {
  mixed := by kernel_rfl
  f16 := Tryz.func169.trans (congrArg some (by kernel_rfl))
  t4 := Tryz.underlying4
  a4 := Tryz.isAgg4
  z4 := Tryz.sizeOf4
  v4 := Tryz.zeroValue4
  t9 := Tryz.underlying9
  a9 := Tryz.isAgg9
  z9 := Tryz.sizeOf9
  v9 := Tryz.zeroValue9
  t24 := Tryz.underlying28
  a24 := Tryz.isAgg28
  z24 := Tryz.sizeOf28
  v24 := Tryz.zeroValue28
  i9 := by kernel_rfl }
end Go.Proofs

namespace Go.Proofs.Tryz
open Go Go.Abs
theorem wt0 : type_of% (And.intro T0_3 <| And.intro T0_4 <| And.intro T0_5 <| And.intro T0_9 <| And.intro T0_22 <| And.intro T0_28 <| And.intro T0_30 <| And.intro T0_31 <| And.intro T0_32 <| And.intro T0_34 <| And.intro T0_35 <| And.intro T0_38 <| And.intro T0_44 <| And.intro T0_46 <| And.intro T0_47 <| And.intro T0_55 <| And.intro T0_64 <| And.intro T0_66 <| And.intro T0_107 <| And.intro T0_133 <| And.intro T0_137 <| And.intro T0_138 <| And.intro T0_140 <| And.intro T0_141 T0_307) :=
  And.intro T0_3 <| And.intro T0_4 <| And.intro T0_5 <| And.intro T0_9 <| And.intro T0_22 <| And.intro T0_28 <| And.intro T0_30 <| And.intro T0_31 <| And.intro T0_32 <| And.intro T0_34 <| And.intro T0_35 <| And.intro T0_38 <| And.intro T0_44 <| And.intro T0_46 <| And.intro T0_47 <| And.intro T0_55 <| And.intro T0_64 <| And.intro T0_66 <| And.intro T0_107 <| And.intro T0_133 <| And.intro T0_137 <| And.intro T0_138 <| And.intro T0_140 <| And.intro T0_141 T0_307
end Go.Proofs.Tryz

namespace Go.Proofs.Tryz
open Go Go.Abs
set_option linter.unusedSimpArgs false

abbrev Str := List UInt8
def strs (l : List Str) : AV := .sl 1 (l.map .str)

theorem mo : prog.follows .mixedOrders = true := by rfl

/-- The first string wanted that is a key. -/
def firstK (keys : List Str) : List Str → Int
  | [] => -1
  | w :: l => match keys.findIdx? (· == w) with
    | some k => k
    | none => firstK keys l

theorem firstK_none (keys : List Str) : ∀ (want : List Str) (i : Nat) (hi : i ≤ want.length), (∀ a, (h : a < want.length) → a < i → keys.findIdx? (· == want[a]) = none) → firstK keys want = firstK keys (want.drop i)
  | _, 0, _, _ => rfl
  | [], i + 1, hi, _ => by simp at hi
  | w :: l, i + 1, hi, h => by
    have h0 := h 0 (by simp) (by omega)
    simp only [List.getElem_cons_zero] at h0
    simp only [firstK, h0, List.drop_succ_cons]
    exact firstK_none keys l i (by simpa using hi) fun a ha hai => by
      have := h (a + 1) (by simpa using ha) (by omega)
      simpa using this

theorem s88 (keys want : List Str) (hk : keys.length < 1099511627776) (hw : want.length < 1099511627776) : FSv prog 88 [strs keys, strs want] (.int .i64 (firstK keys want)) := by
  refine FSv_code T0_ok mo pl88 _ func88 (by decide) rfl _ rfl (by rfl) (by simp) _ rfl ?_
  simp only [f88]
  simp -dsimp only [eWC_skip, eWC_exit, eWC_ret, eWC_seq, eWC_block, eWC_cond, eWC_regF, eWC_regT, eWC_loop, eWOps_nil, eWOps_cons, eWOp_eq, eWPl_done, eWPl_z, eWPl_q, eWPl_a, eAW_eq, ↓AW, evalQ, guardG, SV.noU, SV.un, beq_iff_eq, quiet, evO, ofConst, St.put, SV.of, SV.no, binQ, unQ, arQ, loadQ, sliceQ, partsQ, fillAV, fillOk, isU8, byteOf, shapeOk, isAggD, isAggV, cell1, cellsOf, isSeq, pOk, capsOk, pureCall, pickB_or, pickB_and, belowV, belowL, elemsOf, Proms, Prom, svLe, tagLe, isLoad, lk, thenQ, blockQ, retV, retQ, resL, resQ, oneRes, if_false, if_true, reduceIte, forall_const, true_implies, false_implies, implies_true, Nat.reduceEqDiff, Nat.reduceAdd, Nat.reduceSub, Nat.reduceLT, Nat.reduceLeDiff, Nat.reduceMul, Nat.reduceBEq, Nat.reduceBNe, Int.reduceToNat, Int.reduceLT, Int.reduceLE, Int.reduceEq, Int.reduceNeg, Int.reduceAdd, Int.reduceSub, reduceCtorEq, List.filter_nil, List.filter_cons, List.find?_cons, List.find?_nil, ne_eq, beq_self_eq_true, eq_self, imp_self, wz, T0_3, T0_4, T0_5, T0_9, T0_22, T0_28, T0_30, T0_31, T0_32, T0_34, T0_35, T0_38, T0_44, T0_46, T0_47, T0_55, T0_64, T0_66, T0_107, T0_133, T0_137, T0_138, T0_140, T0_141, T0_307, S0, strs]
  refine T3_for T0_ok mo pl88 want.length (fun i (_ : Unit) => ⟨[(5, SV.of (.int .i64 (i : Nat))), (0, SV.of (strs keys)), (1, SV.of (strs want))], 29, ⟨2, [], [], 0⟩, 0⟩)
    (fun i _ => ∀ a, (h : a < want.length) → a < i → keys.findIdx? (· == want[a]) = none) 29 (fun _ _ => rfl) (by rfl) () (fun a _ h => by omega) (Le_lit ?_) (fun i _ hi hI => ?_) (fun _ hI => ?_)
  · simp [frLe, lk, SV.of, avLe, strs]
  · simp -dsimp only [eWC_skip, eWC_exit, eWC_ret, eWC_seq, eWC_block, eWC_cond, eWC_regF, eWC_regT, eWC_loop, eWOps_nil, eWOps_cons, eWOp_eq, eWPl_done, eWPl_z, eWPl_q, eWPl_a, eAW_eq, ↓AW, evalQ, guardG, SV.noU, SV.un, beq_iff_eq, quiet, evO, ofConst, St.put, SV.of, SV.no, binQ, unQ, arQ, loadQ, sliceQ, partsQ, fillAV, fillOk, isU8, byteOf, shapeOk, isAggD, isAggV, cell1, cellsOf, isSeq, pOk, capsOk, pureCall, pickB_or, pickB_and, belowV, belowL, elemsOf, Proms, Prom, svLe, tagLe, isLoad, lk, thenQ, blockQ, retV, retQ, resL, resQ, oneRes, if_false, if_true, reduceIte, forall_const, true_implies, false_implies, implies_true, Nat.reduceEqDiff, Nat.reduceAdd, Nat.reduceSub, Nat.reduceLT, Nat.reduceLeDiff, Nat.reduceMul, Nat.reduceBEq, Nat.reduceBNe, Int.reduceToNat, Int.reduceLT, Int.reduceLE, Int.reduceEq, Int.reduceNeg, Int.reduceAdd, Int.reduceSub, reduceCtorEq, List.filter_nil, List.filter_cons, List.find?_cons, List.find?_nil, ne_eq, beq_self_eq_true, eq_self, imp_self, wz, T0_3, T0_4, T0_5, T0_9, T0_22, T0_28, T0_30, T0_31, T0_32, T0_34, T0_35, T0_38, T0_44, T0_46, T0_47, T0_55, T0_64, T0_66, T0_107, T0_133, T0_137, T0_138, T0_140, T0_141, T0_307, dlt hi, strs]
    refine T3_for T0_ok mo pl88 keys.length (fun j (_ : Unit) => ⟨[(6, SV.of (.int .i64 (j : Nat))), (5, SV.of (.int .i64 (i : Nat))), (0, SV.of (strs keys)), (1, SV.of (strs want))], 29, ⟨2, [], [], 0⟩, 0⟩)
      (fun j _ => ∀ a, (h : a < keys.length) → a < j → keys[a] ≠ want[i]) 29 (fun _ _ => rfl) (by rfl) () (fun a _ h => by omega) (Le_lit ?_) (fun j _ hj hJ => ?_) (fun _ hJ => ?_)
    · simp [frLe, lk, SV.of, avLe, strs]
    · simp -dsimp only [eWC_skip, eWC_exit, eWC_ret, eWC_seq, eWC_block, eWC_cond, eWC_regF, eWC_regT, eWC_loop, eWOps_nil, eWOps_cons, eWOp_eq, eWPl_done, eWPl_z, eWPl_q, eWPl_a, eAW_eq, ↓AW, evalQ, guardG, SV.noU, SV.un, beq_iff_eq, quiet, evO, ofConst, St.put, SV.of, SV.no, binQ, unQ, arQ, loadQ, sliceQ, partsQ, fillAV, fillOk, isU8, byteOf, shapeOk, isAggD, isAggV, cell1, cellsOf, isSeq, pOk, capsOk, pureCall, pickB_or, pickB_and, belowV, belowL, elemsOf, Proms, Prom, svLe, tagLe, isLoad, lk, thenQ, blockQ, retV, retQ, resL, resQ, oneRes, if_false, if_true, reduceIte, forall_const, true_implies, false_implies, implies_true, Nat.reduceEqDiff, Nat.reduceAdd, Nat.reduceSub, Nat.reduceLT, Nat.reduceLeDiff, Nat.reduceMul, Nat.reduceBEq, Nat.reduceBNe, Int.reduceToNat, Int.reduceLT, Int.reduceLE, Int.reduceEq, Int.reduceNeg, Int.reduceAdd, Int.reduceSub, reduceCtorEq, List.filter_nil, List.filter_cons, List.find?_cons, List.find?_nil, ne_eq, beq_self_eq_true, eq_self, imp_self, wz, T0_3, T0_4, T0_5, T0_9, T0_22, T0_28, T0_30, T0_31, T0_32, T0_34, T0_35, T0_38, T0_44, T0_46, T0_47, T0_55, T0_64, T0_66, T0_107, T0_133, T0_137, T0_138, T0_140, T0_141, T0_307, dlt hj, strs, gd AV.str keys j _ hj, gd AV.str want i _ hi, pl88_7]
      refine ⟨by omega, by omega, fun h => ?_, fun h => ⟨by unfold I64; omega, (), fun a ha haj => ?_, Le_lit ?_⟩⟩
      · have he : keys[j] = want[i] := by simpa using h
        rw [firstK_none keys want i (by omega) hI, List.drop_eq_getElem_cons hi]
        simp only [firstK]
        rw [show keys.findIdx? (· == want[i]) = some j from List.findIdx?_eq_some_iff_getElem.2 ⟨hj, by simpa using h, fun a ha => by simpa using hJ a (by omega) ha⟩]
        simp [avLe]
      · rcases Nat.lt_or_ge a j with h1 | h1
        · exact hJ a ha h1
        · have : a = j := by omega
          subst this
          simpa using h
      · simp [frLe, lk, avLe]
    · simp -dsimp only [eWC_skip, eWC_exit, eWC_ret, eWC_seq, eWC_block, eWC_cond, eWC_regF, eWC_regT, eWC_loop, eWOps_nil, eWOps_cons, eWOp_eq, eWPl_done, eWPl_z, eWPl_q, eWPl_a, eAW_eq, ↓AW, evalQ, guardG, SV.noU, SV.un, beq_iff_eq, quiet, evO, ofConst, St.put, SV.of, SV.no, binQ, unQ, arQ, loadQ, sliceQ, partsQ, fillAV, fillOk, isU8, byteOf, shapeOk, isAggD, isAggV, cell1, cellsOf, isSeq, pOk, capsOk, pureCall, pickB_or, pickB_and, belowV, belowL, elemsOf, Proms, Prom, svLe, tagLe, isLoad, lk, thenQ, blockQ, retV, retQ, resL, resQ, oneRes, if_false, if_true, reduceIte, forall_const, true_implies, false_implies, implies_true, Nat.reduceEqDiff, Nat.reduceAdd, Nat.reduceSub, Nat.reduceLT, Nat.reduceLeDiff, Nat.reduceMul, Nat.reduceBEq, Nat.reduceBNe, Int.reduceToNat, Int.reduceLT, Int.reduceLE, Int.reduceEq, Int.reduceNeg, Int.reduceAdd, Int.reduceSub, reduceCtorEq, List.filter_nil, List.filter_cons, List.find?_cons, List.find?_nil, ne_eq, beq_self_eq_true, eq_self, imp_self, wz, T0_3, T0_4, T0_5, T0_9, T0_22, T0_28, T0_30, T0_31, T0_32, T0_34, T0_35, T0_38, T0_44, T0_46, T0_47, T0_55, T0_64, T0_66, T0_107, T0_133, T0_137, T0_138, T0_140, T0_141, T0_307, dge (Nat.le_refl keys.length), strs]
      refine ⟨by unfold I64; omega, (), fun a ha hai => ?_, Le_lit ?_⟩
      · rcases Nat.lt_or_ge a i with h1 | h1
        · exact hI a ha h1
        · have : a = i := by omega
          subst this
          rw [List.findIdx?_eq_none_iff]
          intro x hx
          obtain ⟨b, hb, rfl⟩ := List.getElem_of_mem hx
          simpa using hJ b hb hb
      · simp [frLe, lk, avLe]
  · simp -dsimp only [eWC_skip, eWC_exit, eWC_ret, eWC_seq, eWC_block, eWC_cond, eWC_regF, eWC_regT, eWC_loop, eWOps_nil, eWOps_cons, eWOp_eq, eWPl_done, eWPl_z, eWPl_q, eWPl_a, eAW_eq, ↓AW, evalQ, guardG, SV.noU, SV.un, beq_iff_eq, quiet, evO, ofConst, St.put, SV.of, SV.no, binQ, unQ, arQ, loadQ, sliceQ, partsQ, fillAV, fillOk, isU8, byteOf, shapeOk, isAggD, isAggV, cell1, cellsOf, isSeq, pOk, capsOk, pureCall, pickB_or, pickB_and, belowV, belowL, elemsOf, Proms, Prom, svLe, tagLe, isLoad, lk, thenQ, blockQ, retV, retQ, resL, resQ, oneRes, if_false, if_true, reduceIte, forall_const, true_implies, false_implies, implies_true, Nat.reduceEqDiff, Nat.reduceAdd, Nat.reduceSub, Nat.reduceLT, Nat.reduceLeDiff, Nat.reduceMul, Nat.reduceBEq, Nat.reduceBNe, Int.reduceToNat, Int.reduceLT, Int.reduceLE, Int.reduceEq, Int.reduceNeg, Int.reduceAdd, Int.reduceSub, reduceCtorEq, List.filter_nil, List.filter_cons, List.find?_cons, List.find?_nil, ne_eq, beq_self_eq_true, eq_self, imp_self, wz, T0_3, T0_4, T0_5, T0_9, T0_22, T0_28, T0_30, T0_31, T0_32, T0_34, T0_35, T0_38, T0_44, T0_46, T0_47, T0_55, T0_64, T0_66, T0_107, T0_133, T0_137, T0_138, T0_140, T0_141, T0_307, dge (Nat.le_refl want.length), strs]
    rw [firstK_none keys want want.length (Nat.le_refl _) hI, List.drop_length]
    simp [firstK, avLe]
end Go.Proofs.Tryz

namespace Go.Proofs.Tryz
open Go Go.Abs
set_option linter.unusedSimpArgs false

structure Val where
  name : Str
  type : Int
  text : Str
  date : Int
  list : List Str
def Val.av (v : Val) : AV := .agg [.str v.name, .int .i64 v.type, .str v.text, .int .i64 v.date, strs v.list]
structure Spn where
  lo : Int
  hi : Int
def Spn.av (s : Spn) : AV := .agg [.int .i64 s.lo, .int .i64 s.hi]
structure Rln where
  operand : Int
  mod : Int
  not : Bool
  spans : List Spn
def Rln.av (r : Rln) : AV := .agg [.int .i64 r.operand, .int .i64 r.mod, .bool r.not, .sl 2 (r.spans.map Spn.av)]
def listAV (l : List Rln) : AV := .sl 4 (l.map Rln.av)
abbrev Cnd := List (List Rln)
def condAV (c : Cnd) : AV := .sl 1 (c.map listAV)
structure Rul where
  cls : Str
  cond : Cnd
def Rul.av (r : Rul) : AV := .agg [.str r.cls, condAV r.cond]
def rulesAV (l : List Rul) : AV := .sl 2 (l.map Rul.av)

def idxF {α : Type} (p : α → Bool) (xs : List α) : Int := match xs.findIdx? p with
  | some k => k
  | none => -1
theorem idxF_at {α : Type} {p : α → Bool} {xs : List α} {i : Nat} (h : i < xs.length) (hp : p xs[i] = true) (hn : ∀ a, (h : a < xs.length) → a < i → p xs[a] = false) : idxF p xs = i := by
  unfold idxF
  rw [show xs.findIdx? p = some i from List.findIdx?_eq_some_iff_getElem.2 ⟨h, hp, fun a ha => by simpa using hn a (by omega) ha⟩]
theorem idxF_none {α : Type} {p : α → Bool} {xs : List α} (hn : ∀ a, (h : a < xs.length) → a < xs.length → p xs[a] = false) : idxF p xs = -1 := by
  unfold idxF
  rw [show xs.findIdx? p = none from List.findIdx?_eq_none_iff.2 fun x hx => by
    obtain ⟨b, hb, rfl⟩ := List.getElem_of_mem hx
    exact hn b hb hb]
theorem idxF_ge {α : Type} (p : α → Bool) (xs : List α) : decide (0 ≤ idxF p xs) = xs.any p := by
  unfold idxF
  cases h : xs.findIdx? p with
  | some k =>
    obtain ⟨h1, h2, _⟩ := List.findIdx?_eq_some_iff_getElem.1 h
    simp only [show (0 : Int) ≤ (k : Int) by omega, decide_true]
    exact (List.any_eq_true.2 ⟨xs[k], List.getElem_mem _, h2⟩).symm
  | none =>
    have h1 := List.findIdx?_eq_none_iff.1 h
    simp only [show ¬ (0 : Int) ≤ -1 by omega, decide_false]
    exact (List.any_eq_false.2 fun x hx => by simp [h1 x hx]).symm

theorem s182 (xs : List Str) (y : Str) (hx : xs.length < 1099511627776) : FSv prog 182 [strs xs, .str y] (.int .i64 (idxF (fun x => y == x) xs)) := by
  refine FSv_code T0_ok mo pl0 _ func182 (by decide) rfl _ rfl (by rfl) (by simp) _ rfl ?_
  simp only [f182]
  simp -dsimp only [eWC_skip, eWC_exit, eWC_ret, eWC_seq, eWC_block, eWC_cond, eWC_regF, eWC_regT, eWC_loop, eWOps_nil, eWOps_cons, eWOp_eq, eWPl_done, eWPl_z, eWPl_q, eWPl_a, eAW_eq, ↓AW, evalQ, guardG, SV.noU, SV.un, beq_iff_eq, quiet, evO, ofConst, St.put, SV.of, SV.no, binQ, unQ, arQ, loadQ, sliceQ, partsQ, fillAV, fillOk, isU8, byteOf, shapeOk, isAggD, isAggV, cell1, cellsOf, isSeq, pOk, capsOk, pureCall, pickB_or, pickB_and, belowV, belowL, elemsOf, Proms, Prom, svLe, tagLe, isLoad, lk, thenQ, blockQ, retV, retQ, resL, resQ, oneRes, if_false, if_true, reduceIte, forall_const, true_implies, false_implies, implies_true, Nat.reduceEqDiff, Nat.reduceAdd, Nat.reduceSub, Nat.reduceLT, Nat.reduceLeDiff, Nat.reduceMul, Nat.reduceBEq, Nat.reduceBNe, Int.reduceToNat, Int.reduceLT, Int.reduceLE, Int.reduceEq, Int.reduceNeg, Int.reduceAdd, Int.reduceSub, reduceCtorEq, List.filter_nil, List.filter_cons, List.find?_cons, List.find?_nil, ne_eq, beq_self_eq_true, eq_self, imp_self, wz, T0_3, T0_4, T0_5, T0_9, T0_22, T0_28, T0_30, T0_31, T0_32, T0_34, T0_35, T0_38, T0_44, T0_46, T0_47, T0_55, T0_64, T0_66, T0_107, T0_133, T0_137, T0_138, T0_140, T0_141, T0_307, S0, strs]
  refine T3_for T0_ok mo pl0 xs.length (fun i (_ : Unit) => ⟨[(8, SV.of (.int .i64 (i : Nat))), (7, SV.of (.int .i64 (xs.length : Nat))), (0, SV.of (strs xs)), (1, SV.of (.str y))], 19, ⟨2, [], [], 0⟩, 0⟩)
    (fun i _ => ∀ a, (h : a < xs.length) → a < i → (y == xs[a]) = false) 19 (fun _ _ => rfl) (by rfl) () (fun a _ h => by omega) (Le_lit ?_) (fun i _ hi hI => ?_) (fun _ hI => ?_)
  · simp [frLe, lk, SV.of, avLe, strs]
  · simp -dsimp only [eWC_skip, eWC_exit, eWC_ret, eWC_seq, eWC_block, eWC_cond, eWC_regF, eWC_regT, eWC_loop, eWOps_nil, eWOps_cons, eWOp_eq, eWPl_done, eWPl_z, eWPl_q, eWPl_a, eAW_eq, ↓AW, evalQ, guardG, SV.noU, SV.un, beq_iff_eq, quiet, evO, ofConst, St.put, SV.of, SV.no, binQ, unQ, arQ, loadQ, sliceQ, partsQ, fillAV, fillOk, isU8, byteOf, shapeOk, isAggD, isAggV, cell1, cellsOf, isSeq, pOk, capsOk, pureCall, pickB_or, pickB_and, belowV, belowL, elemsOf, Proms, Prom, svLe, tagLe, isLoad, lk, thenQ, blockQ, retV, retQ, resL, resQ, oneRes, if_false, if_true, reduceIte, forall_const, true_implies, false_implies, implies_true, Nat.reduceEqDiff, Nat.reduceAdd, Nat.reduceSub, Nat.reduceLT, Nat.reduceLeDiff, Nat.reduceMul, Nat.reduceBEq, Nat.reduceBNe, Int.reduceToNat, Int.reduceLT, Int.reduceLE, Int.reduceEq, Int.reduceNeg, Int.reduceAdd, Int.reduceSub, reduceCtorEq, List.filter_nil, List.filter_cons, List.find?_cons, List.find?_nil, ne_eq, beq_self_eq_true, eq_self, imp_self, wz, T0_3, T0_4, T0_5, T0_9, T0_22, T0_28, T0_30, T0_31, T0_32, T0_34, T0_35, T0_38, T0_44, T0_46, T0_47, T0_55, T0_64, T0_66, T0_107, T0_133, T0_137, T0_138, T0_140, T0_141, T0_307, dlt hi, strs, gd AV.str xs i _ hi]
    refine ⟨by omega, fun h => ?_, fun h => ⟨by unfold I64; omega, (), fun a ha hai => ?_, Le_lit ?_⟩⟩
    · rw [idxF_at (p := fun x => y == x) hi (by simpa using h) hI]; simp [avLe]
    · rcases Nat.lt_or_ge a i with h1 | h1
      · exact hI a ha h1
      · have : a = i := by omega
        subst this
        simpa using h
    · simp [frLe, lk, avLe]
  · simp -dsimp only [eWC_skip, eWC_exit, eWC_ret, eWC_seq, eWC_block, eWC_cond, eWC_regF, eWC_regT, eWC_loop, eWOps_nil, eWOps_cons, eWOp_eq, eWPl_done, eWPl_z, eWPl_q, eWPl_a, eAW_eq, ↓AW, evalQ, guardG, SV.noU, SV.un, beq_iff_eq, quiet, evO, ofConst, St.put, SV.of, SV.no, binQ, unQ, arQ, loadQ, sliceQ, partsQ, fillAV, fillOk, isU8, byteOf, shapeOk, isAggD, isAggV, cell1, cellsOf, isSeq, pOk, capsOk, pureCall, pickB_or, pickB_and, belowV, belowL, elemsOf, Proms, Prom, svLe, tagLe, isLoad, lk, thenQ, blockQ, retV, retQ, resL, resQ, oneRes, if_false, if_true, reduceIte, forall_const, true_implies, false_implies, implies_true, Nat.reduceEqDiff, Nat.reduceAdd, Nat.reduceSub, Nat.reduceLT, Nat.reduceLeDiff, Nat.reduceMul, Nat.reduceBEq, Nat.reduceBNe, Int.reduceToNat, Int.reduceLT, Int.reduceLE, Int.reduceEq, Int.reduceNeg, Int.reduceAdd, Int.reduceSub, reduceCtorEq, List.filter_nil, List.filter_cons, List.find?_cons, List.find?_nil, ne_eq, beq_self_eq_true, eq_self, imp_self, wz, T0_3, T0_4, T0_5, T0_9, T0_22, T0_28, T0_30, T0_31, T0_32, T0_34, T0_35, T0_38, T0_44, T0_46, T0_47, T0_55, T0_64, T0_66, T0_107, T0_133, T0_137, T0_138, T0_140, T0_141, T0_307, dge (Nat.le_refl xs.length), strs]
    rw [idxF_none (p := fun x => y == x) hI]; simp [avLe]

theorem s138 (xs : List Str) (y : Str) (hx : xs.length < 1099511627776) : FSv prog 138 [strs xs, .str y] (.bool (xs.contains y)) := by
  refine FSv_code T0_ok mo pl0 _ func138 (by decide) rfl _ rfl (by rfl) (by simp) _ rfl ?_
  simp only [f138]
  simp -dsimp only [eWC_skip, eWC_exit, eWC_ret, eWC_seq, eWC_block, eWC_cond, eWC_regF, eWC_regT, eWC_loop, eWOps_nil, eWOps_cons, eWOp_eq, eWPl_done, eWPl_z, eWPl_q, eWPl_a, eAW_eq, ↓AW, evalQ, guardG, SV.noU, SV.un, beq_iff_eq, quiet, evO, ofConst, St.put, SV.of, SV.no, binQ, unQ, arQ, loadQ, sliceQ, partsQ, fillAV, fillOk, isU8, byteOf, shapeOk, isAggD, isAggV, cell1, cellsOf, isSeq, pOk, capsOk, pureCall, pickB_or, pickB_and, belowV, belowL, elemsOf, Proms, Prom, svLe, tagLe, isLoad, lk, thenQ, blockQ, retV, retQ, resL, resQ, oneRes, if_false, if_true, reduceIte, forall_const, true_implies, false_implies, implies_true, Nat.reduceEqDiff, Nat.reduceAdd, Nat.reduceSub, Nat.reduceLT, Nat.reduceLeDiff, Nat.reduceMul, Nat.reduceBEq, Nat.reduceBNe, Int.reduceToNat, Int.reduceLT, Int.reduceLE, Int.reduceEq, Int.reduceNeg, Int.reduceAdd, Int.reduceSub, reduceCtorEq, List.filter_nil, List.filter_cons, List.find?_cons, List.find?_nil, ne_eq, beq_self_eq_true, eq_self, imp_self, wz, T0_3, T0_4, T0_5, T0_9, T0_22, T0_28, T0_30, T0_31, T0_32, T0_34, T0_35, T0_38, T0_44, T0_46, T0_47, T0_55, T0_64, T0_66, T0_107, T0_133, T0_137, T0_138, T0_140, T0_141, T0_307, S0, strs]
  refine callG_v _ (s182 xs y hx) (by simp) (by simp [belowL, belowV]) (by simp [belowV]) ?_
  simp -dsimp only [eWC_skip, eWC_exit, eWC_ret, eWC_seq, eWC_block, eWC_cond, eWC_regF, eWC_regT, eWC_loop, eWOps_nil, eWOps_cons, eWOp_eq, eWPl_done, eWPl_z, eWPl_q, eWPl_a, eAW_eq, ↓AW, evalQ, guardG, SV.noU, SV.un, beq_iff_eq, quiet, evO, ofConst, St.put, SV.of, SV.no, binQ, unQ, arQ, loadQ, sliceQ, partsQ, fillAV, fillOk, isU8, byteOf, shapeOk, isAggD, isAggV, cell1, cellsOf, isSeq, pOk, capsOk, pureCall, pickB_or, pickB_and, belowV, belowL, elemsOf, Proms, Prom, svLe, tagLe, isLoad, lk, thenQ, blockQ, retV, retQ, resL, resQ, oneRes, if_false, if_true, reduceIte, forall_const, true_implies, false_implies, implies_true, Nat.reduceEqDiff, Nat.reduceAdd, Nat.reduceSub, Nat.reduceLT, Nat.reduceLeDiff, Nat.reduceMul, Nat.reduceBEq, Nat.reduceBNe, Int.reduceToNat, Int.reduceLT, Int.reduceLE, Int.reduceEq, Int.reduceNeg, Int.reduceAdd, Int.reduceSub, reduceCtorEq, List.filter_nil, List.filter_cons, List.find?_cons, List.find?_nil, ne_eq, beq_self_eq_true, eq_self, imp_self, wz, T0_3, T0_4, T0_5, T0_9, T0_22, T0_28, T0_30, T0_31, T0_32, T0_34, T0_35, T0_38, T0_44, T0_46, T0_47, T0_55, T0_64, T0_66, T0_107, T0_133, T0_137, T0_138, T0_140, T0_141, T0_307]
  rw [idxF_ge, List.any_beq]
  simp [avLe]

theorem s208 (g : FuncId) (caps : List AV) (H : List Box) (p : Rul → Bool) (xs : List Rul) (hx : xs.length < 1099511627776) (hp : ∀ x ∈ xs, FSr prog g (Rul.av x :: caps) H (.bool (p x))) :
    FSr prog 208 [.sl 2 (xs.map Rul.av), .fn g caps] H (.int .i64 (idxF p xs)) := by
  refine FSr_code T0_ok mo pl0 _ func208 (by decide) rfl _ rfl (by rfl) (by simp only [belowV]) (by simp) _ rfl ?_
  simp only [f208]
  simp -dsimp only [eWC_skip, eWC_exit, eWC_ret, eWC_seq, eWC_block, eWC_cond, eWC_regF, eWC_regT, eWC_loop, eWOps_nil, eWOps_cons, eWOp_eq, eWPl_done, eWPl_z, eWPl_q, eWPl_a, eAW_eq, ↓AW, evalQ, guardG, SV.noU, SV.un, beq_iff_eq, quiet, evO, ofConst, St.put, SV.of, SV.no, binQ, unQ, arQ, loadQ, sliceQ, partsQ, fillAV, fillOk, isU8, byteOf, shapeOk, isAggD, isAggV, cell1, cellsOf, isSeq, pOk, capsOk, pureCall, pickB_or, pickB_and, belowV, belowL, elemsOf, Proms, Prom, svLe, tagLe, isLoad, lk, thenQ, blockQ, retV, retQ, resL, resQ, oneRes, if_false, if_true, reduceIte, forall_const, true_implies, false_implies, implies_true, Nat.reduceEqDiff, Nat.reduceAdd, Nat.reduceSub, Nat.reduceLT, Nat.reduceLeDiff, Nat.reduceMul, Nat.reduceBEq, Nat.reduceBNe, Int.reduceToNat, Int.reduceLT, Int.reduceLE, Int.reduceEq, Int.reduceNeg, Int.reduceAdd, Int.reduceSub, reduceCtorEq, List.filter_nil, List.filter_cons, List.find?_cons, List.find?_nil, ne_eq, beq_self_eq_true, eq_self, imp_self, wz, T0_3, T0_4, T0_5, T0_9, T0_22, T0_28, T0_30, T0_31, T0_32, T0_34, T0_35, T0_38, T0_44, T0_46, T0_47, T0_55, T0_64, T0_66, T0_107, T0_133, T0_137, T0_138, T0_140, T0_141, T0_307, S0]
  refine T3_for T0_ok mo pl0 xs.length (fun i st => ⟨[(8, SV.of (.int .i64 (i : Nat))), (7, SV.of (.int .i64 (xs.length : Nat))), (0, SV.of (.sl 2 (xs.map Rul.av))), (1, SV.of (.fn g caps))], 19, ⟨2, [], H, st⟩, H.length⟩)
    (fun i _ => ∀ a, (h : a < xs.length) → a < i → p xs[a] = false) 19 (fun _ _ => rfl) (by rfl) 0 (fun a _ h => by omega) (Le_lit ?_) (fun i st hi hI => ?_) (fun st hI => ?_)
  · simp [frLe, lk, SV.of, avLe]
  · simp -dsimp only [eWC_skip, eWC_exit, eWC_ret, eWC_seq, eWC_block, eWC_cond, eWC_regF, eWC_regT, eWC_loop, eWOps_nil, eWOps_cons, eWOp_eq, eWPl_done, eWPl_z, eWPl_q, eWPl_a, eAW_eq, ↓AW, evalQ, guardG, SV.noU, SV.un, beq_iff_eq, quiet, evO, ofConst, St.put, SV.of, SV.no, binQ, unQ, arQ, loadQ, sliceQ, partsQ, fillAV, fillOk, isU8, byteOf, shapeOk, isAggD, isAggV, cell1, cellsOf, isSeq, pOk, capsOk, pureCall, pickB_or, pickB_and, belowV, belowL, elemsOf, Proms, Prom, svLe, tagLe, isLoad, lk, thenQ, blockQ, retV, retQ, resL, resQ, oneRes, if_false, if_true, reduceIte, forall_const, true_implies, false_implies, implies_true, Nat.reduceEqDiff, Nat.reduceAdd, Nat.reduceSub, Nat.reduceLT, Nat.reduceLeDiff, Nat.reduceMul, Nat.reduceBEq, Nat.reduceBNe, Int.reduceToNat, Int.reduceLT, Int.reduceLE, Int.reduceEq, Int.reduceNeg, Int.reduceAdd, Int.reduceSub, reduceCtorEq, List.filter_nil, List.filter_cons, List.find?_cons, List.find?_nil, ne_eq, beq_self_eq_true, eq_self, imp_self, wz, T0_3, T0_4, T0_5, T0_9, T0_22, T0_28, T0_30, T0_31, T0_32, T0_34, T0_35, T0_38, T0_44, T0_46, T0_47, T0_55, T0_64, T0_66, T0_107, T0_133, T0_137, T0_138, T0_140, T0_141, T0_307, dlt hi, gd Rul.av xs i _ hi, Rul.av]
    refine ⟨by omega, ?_⟩
    refine callG_r (.bool (p xs[i])) ?_ ?_ ?_
    · have := hp xs[i] (List.getElem_mem _)
      simpa [SV.of, Function.comp_def, Rul.av] using this
    · simp [SV.of]
    · simp -dsimp only [eWC_skip, eWC_exit, eWC_ret, eWC_seq, eWC_block, eWC_cond, eWC_regF, eWC_regT, eWC_loop, eWOps_nil, eWOps_cons, eWOp_eq, eWPl_done, eWPl_z, eWPl_q, eWPl_a, eAW_eq, ↓AW, evalQ, guardG, SV.noU, SV.un, beq_iff_eq, quiet, evO, ofConst, St.put, SV.of, SV.no, binQ, unQ, arQ, loadQ, sliceQ, partsQ, fillAV, fillOk, isU8, byteOf, shapeOk, isAggD, isAggV, cell1, cellsOf, isSeq, pOk, capsOk, pureCall, pickB_or, pickB_and, belowV, belowL, elemsOf, Proms, Prom, svLe, tagLe, isLoad, lk, thenQ, blockQ, retV, retQ, resL, resQ, oneRes, if_false, if_true, reduceIte, forall_const, true_implies, false_implies, implies_true, Nat.reduceEqDiff, Nat.reduceAdd, Nat.reduceSub, Nat.reduceLT, Nat.reduceLeDiff, Nat.reduceMul, Nat.reduceBEq, Nat.reduceBNe, Int.reduceToNat, Int.reduceLT, Int.reduceLE, Int.reduceEq, Int.reduceNeg, Int.reduceAdd, Int.reduceSub, reduceCtorEq, List.filter_nil, List.filter_cons, List.find?_cons, List.find?_nil, ne_eq, beq_self_eq_true, eq_self, imp_self, wz, T0_3, T0_4, T0_5, T0_9, T0_22, T0_28, T0_30, T0_31, T0_32, T0_34, T0_35, T0_38, T0_44, T0_46, T0_47, T0_55, T0_64, T0_66, T0_107, T0_133, T0_137, T0_138, T0_140, T0_141, T0_307, retR]
      refine ⟨fun h => ?_, fun h => ⟨by unfold I64; omega, st + 1, fun a ha hai => ?_, Le_lit ?_⟩⟩
      · rw [idxF_at (p := p) hi h hI]; simp [avLe]
      · rcases Nat.lt_or_ge a i with h1 | h1
        · exact hI a ha h1
        · have : a = i := by omega
          subst this
          exact h
      · simp [frLe, lk, avLe]
  · simp -dsimp only [eWC_skip, eWC_exit, eWC_ret, eWC_seq, eWC_block, eWC_cond, eWC_regF, eWC_regT, eWC_loop, eWOps_nil, eWOps_cons, eWOp_eq, eWPl_done, eWPl_z, eWPl_q, eWPl_a, eAW_eq, ↓AW, evalQ, guardG, SV.noU, SV.un, beq_iff_eq, quiet, evO, ofConst, St.put, SV.of, SV.no, binQ, unQ, arQ, loadQ, sliceQ, partsQ, fillAV, fillOk, isU8, byteOf, shapeOk, isAggD, isAggV, cell1, cellsOf, isSeq, pOk, capsOk, pureCall, pickB_or, pickB_and, belowV, belowL, elemsOf, Proms, Prom, svLe, tagLe, isLoad, lk, thenQ, blockQ, retV, retQ, resL, resQ, oneRes, if_false, if_true, reduceIte, forall_const, true_implies, false_implies, implies_true, Nat.reduceEqDiff, Nat.reduceAdd, Nat.reduceSub, Nat.reduceLT, Nat.reduceLeDiff, Nat.reduceMul, Nat.reduceBEq, Nat.reduceBNe, Int.reduceToNat, Int.reduceLT, Int.reduceLE, Int.reduceEq, Int.reduceNeg, Int.reduceAdd, Int.reduceSub, reduceCtorEq, List.filter_nil, List.filter_cons, List.find?_cons, List.find?_nil, ne_eq, beq_self_eq_true, eq_self, imp_self, wz, T0_3, T0_4, T0_5, T0_9, T0_22, T0_28, T0_30, T0_31, T0_32, T0_34, T0_35, T0_38, T0_44, T0_46, T0_47, T0_55, T0_64, T0_66, T0_107, T0_133, T0_137, T0_138, T0_140, T0_141, T0_307, dge (Nat.le_refl xs.length), retR]
    rw [idxF_none (p := p) hI]; simp [avLe]

theorem s123 (g : FuncId) (caps : List AV) (H : List Box) (p : Rul → Bool) (xs : List Rul) (hx : xs.length < 1099511627776) (hp : ∀ x ∈ xs, FSr prog g (Rul.av x :: caps) H (.bool (p x))) :
    FSr prog 123 [.sl 2 (xs.map Rul.av), .fn g caps] H (.bool (xs.any p)) := by
  refine FSr_code T0_ok mo pl0 _ func123 (by decide) rfl _ rfl (by rfl) (by simp only [belowV]) (by simp) _ rfl ?_
  simp only [f123]
  simp -dsimp only [eWC_skip, eWC_exit, eWC_ret, eWC_seq, eWC_block, eWC_cond, eWC_regF, eWC_regT, eWC_loop, eWOps_nil, eWOps_cons, eWOp_eq, eWPl_done, eWPl_z, eWPl_q, eWPl_a, eAW_eq, ↓AW, evalQ, guardG, SV.noU, SV.un, beq_iff_eq, quiet, evO, ofConst, St.put, SV.of, SV.no, binQ, unQ, arQ, loadQ, sliceQ, partsQ, fillAV, fillOk, isU8, byteOf, shapeOk, isAggD, isAggV, cell1, cellsOf, isSeq, pOk, capsOk, pureCall, pickB_or, pickB_and, belowV, belowL, elemsOf, Proms, Prom, svLe, tagLe, isLoad, lk, thenQ, blockQ, retV, retQ, resL, resQ, oneRes, if_false, if_true, reduceIte, forall_const, true_implies, false_implies, implies_true, Nat.reduceEqDiff, Nat.reduceAdd, Nat.reduceSub, Nat.reduceLT, Nat.reduceLeDiff, Nat.reduceMul, Nat.reduceBEq, Nat.reduceBNe, Int.reduceToNat, Int.reduceLT, Int.reduceLE, Int.reduceEq, Int.reduceNeg, Int.reduceAdd, Int.reduceSub, reduceCtorEq, List.filter_nil, List.filter_cons, List.find?_cons, List.find?_nil, ne_eq, beq_self_eq_true, eq_self, imp_self, wz, T0_3, T0_4, T0_5, T0_9, T0_22, T0_28, T0_30, T0_31, T0_32, T0_34, T0_35, T0_38, T0_44, T0_46, T0_47, T0_55, T0_64, T0_66, T0_107, T0_133, T0_137, T0_138, T0_140, T0_141, T0_307, S0]
  refine callG_r (.int .i64 (idxF p xs)) (s208 g caps H p xs hx hp) (by simp) ?_
  simp -dsimp only [eWC_skip, eWC_exit, eWC_ret, eWC_seq, eWC_block, eWC_cond, eWC_regF, eWC_regT, eWC_loop, eWOps_nil, eWOps_cons, eWOp_eq, eWPl_done, eWPl_z, eWPl_q, eWPl_a, eAW_eq, ↓AW, evalQ, guardG, SV.noU, SV.un, beq_iff_eq, quiet, evO, ofConst, St.put, SV.of, SV.no, binQ, unQ, arQ, loadQ, sliceQ, partsQ, fillAV, fillOk, isU8, byteOf, shapeOk, isAggD, isAggV, cell1, cellsOf, isSeq, pOk, capsOk, pureCall, pickB_or, pickB_and, belowV, belowL, elemsOf, Proms, Prom, svLe, tagLe, isLoad, lk, thenQ, blockQ, retV, retQ, resL, resQ, oneRes, if_false, if_true, reduceIte, forall_const, true_implies, false_implies, implies_true, Nat.reduceEqDiff, Nat.reduceAdd, Nat.reduceSub, Nat.reduceLT, Nat.reduceLeDiff, Nat.reduceMul, Nat.reduceBEq, Nat.reduceBNe, Int.reduceToNat, Int.reduceLT, Int.reduceLE, Int.reduceEq, Int.reduceNeg, Int.reduceAdd, Int.reduceSub, reduceCtorEq, List.filter_nil, List.filter_cons, List.find?_cons, List.find?_nil, ne_eq, beq_self_eq_true, eq_self, imp_self, wz, T0_3, T0_4, T0_5, T0_9, T0_22, T0_28, T0_30, T0_31, T0_32, T0_34, T0_35, T0_38, T0_44, T0_46, T0_47, T0_55, T0_64, T0_66, T0_107, T0_133, T0_137, T0_138, T0_140, T0_141, T0_307, retR]
  rw [idxF_ge]
  simp [avLe]

theorem s262 (g : FuncId) (caps : List AV) (H : List Box) (p : Rln → Bool) (xs : List Rln) (hx : xs.length < 1099511627776) (hp : ∀ x ∈ xs, FSr prog g (Rln.av x :: caps) H (.bool (p x))) :
    FSr prog 262 [.sl 4 (xs.map Rln.av), .fn g caps] H (.int .i64 (idxF p xs)) := by
  refine FSr_code T0_ok mo pl0 _ func262 (by decide) rfl _ rfl (by rfl) (by simp only [belowV]) (by simp) _ rfl ?_
  simp only [f262]
  simp -dsimp only [eWC_skip, eWC_exit, eWC_ret, eWC_seq, eWC_block, eWC_cond, eWC_regF, eWC_regT, eWC_loop, eWOps_nil, eWOps_cons, eWOp_eq, eWPl_done, eWPl_z, eWPl_q, eWPl_a, eAW_eq, ↓AW, evalQ, guardG, SV.noU, SV.un, beq_iff_eq, quiet, evO, ofConst, St.put, SV.of, SV.no, binQ, unQ, arQ, loadQ, sliceQ, partsQ, fillAV, fillOk, isU8, byteOf, shapeOk, isAggD, isAggV, cell1, cellsOf, isSeq, pOk, capsOk, pureCall, pickB_or, pickB_and, belowV, belowL, elemsOf, Proms, Prom, svLe, tagLe, isLoad, lk, thenQ, blockQ, retV, retQ, resL, resQ, oneRes, if_false, if_true, reduceIte, forall_const, true_implies, false_implies, implies_true, Nat.reduceEqDiff, Nat.reduceAdd, Nat.reduceSub, Nat.reduceLT, Nat.reduceLeDiff, Nat.reduceMul, Nat.reduceBEq, Nat.reduceBNe, Int.reduceToNat, Int.reduceLT, Int.reduceLE, Int.reduceEq, Int.reduceNeg, Int.reduceAdd, Int.reduceSub, reduceCtorEq, List.filter_nil, List.filter_cons, List.find?_cons, List.find?_nil, ne_eq, beq_self_eq_true, eq_self, imp_self, wz, T0_3, T0_4, T0_5, T0_9, T0_22, T0_28, T0_30, T0_31, T0_32, T0_34, T0_35, T0_38, T0_44, T0_46, T0_47, T0_55, T0_64, T0_66, T0_107, T0_133, T0_137, T0_138, T0_140, T0_141, T0_307, S0]
  refine T3_for T0_ok mo pl0 xs.length (fun i st => ⟨[(8, SV.of (.int .i64 (i : Nat))), (7, SV.of (.int .i64 (xs.length : Nat))), (0, SV.of (.sl 4 (xs.map Rln.av))), (1, SV.of (.fn g caps))], 19, ⟨2, [], H, st⟩, H.length⟩)
    (fun i _ => ∀ a, (h : a < xs.length) → a < i → p xs[a] = false) 19 (fun _ _ => rfl) (by rfl) 0 (fun a _ h => by omega) (Le_lit ?_) (fun i st hi hI => ?_) (fun st hI => ?_)
  · simp [frLe, lk, SV.of, avLe]
  · simp -dsimp only [eWC_skip, eWC_exit, eWC_ret, eWC_seq, eWC_block, eWC_cond, eWC_regF, eWC_regT, eWC_loop, eWOps_nil, eWOps_cons, eWOp_eq, eWPl_done, eWPl_z, eWPl_q, eWPl_a, eAW_eq, ↓AW, evalQ, guardG, SV.noU, SV.un, beq_iff_eq, quiet, evO, ofConst, St.put, SV.of, SV.no, binQ, unQ, arQ, loadQ, sliceQ, partsQ, fillAV, fillOk, isU8, byteOf, shapeOk, isAggD, isAggV, cell1, cellsOf, isSeq, pOk, capsOk, pureCall, pickB_or, pickB_and, belowV, belowL, elemsOf, Proms, Prom, svLe, tagLe, isLoad, lk, thenQ, blockQ, retV, retQ, resL, resQ, oneRes, if_false, if_true, reduceIte, forall_const, true_implies, false_implies, implies_true, Nat.reduceEqDiff, Nat.reduceAdd, Nat.reduceSub, Nat.reduceLT, Nat.reduceLeDiff, Nat.reduceMul, Nat.reduceBEq, Nat.reduceBNe, Int.reduceToNat, Int.reduceLT, Int.reduceLE, Int.reduceEq, Int.reduceNeg, Int.reduceAdd, Int.reduceSub, reduceCtorEq, List.filter_nil, List.filter_cons, List.find?_cons, List.find?_nil, ne_eq, beq_self_eq_true, eq_self, imp_self, wz, T0_3, T0_4, T0_5, T0_9, T0_22, T0_28, T0_30, T0_31, T0_32, T0_34, T0_35, T0_38, T0_44, T0_46, T0_47, T0_55, T0_64, T0_66, T0_107, T0_133, T0_137, T0_138, T0_140, T0_141, T0_307, dlt hi, gd Rln.av xs i _ hi, Rln.av]
    refine ⟨by omega, ?_⟩
    refine callG_r (.bool (p xs[i])) ?_ ?_ ?_
    · have := hp xs[i] (List.getElem_mem _)
      simpa [SV.of, Function.comp_def, Rln.av] using this
    · simp [SV.of]
    · simp -dsimp only [eWC_skip, eWC_exit, eWC_ret, eWC_seq, eWC_block, eWC_cond, eWC_regF, eWC_regT, eWC_loop, eWOps_nil, eWOps_cons, eWOp_eq, eWPl_done, eWPl_z, eWPl_q, eWPl_a, eAW_eq, ↓AW, evalQ, guardG, SV.noU, SV.un, beq_iff_eq, quiet, evO, ofConst, St.put, SV.of, SV.no, binQ, unQ, arQ, loadQ, sliceQ, partsQ, fillAV, fillOk, isU8, byteOf, shapeOk, isAggD, isAggV, cell1, cellsOf, isSeq, pOk, capsOk, pureCall, pickB_or, pickB_and, belowV, belowL, elemsOf, Proms, Prom, svLe, tagLe, isLoad, lk, thenQ, blockQ, retV, retQ, resL, resQ, oneRes, if_false, if_true, reduceIte, forall_const, true_implies, false_implies, implies_true, Nat.reduceEqDiff, Nat.reduceAdd, Nat.reduceSub, Nat.reduceLT, Nat.reduceLeDiff, Nat.reduceMul, Nat.reduceBEq, Nat.reduceBNe, Int.reduceToNat, Int.reduceLT, Int.reduceLE, Int.reduceEq, Int.reduceNeg, Int.reduceAdd, Int.reduceSub, reduceCtorEq, List.filter_nil, List.filter_cons, List.find?_cons, List.find?_nil, ne_eq, beq_self_eq_true, eq_self, imp_self, wz, T0_3, T0_4, T0_5, T0_9, T0_22, T0_28, T0_30, T0_31, T0_32, T0_34, T0_35, T0_38, T0_44, T0_46, T0_47, T0_55, T0_64, T0_66, T0_107, T0_133, T0_137, T0_138, T0_140, T0_141, T0_307, retR]
      refine ⟨fun h => ?_, fun h => ⟨by unfold I64; omega, st + 1, fun a ha hai => ?_, Le_lit ?_⟩⟩
      · rw [idxF_at (p := p) hi h hI]; simp [avLe]
      · rcases Nat.lt_or_ge a i with h1 | h1
        · exact hI a ha h1
        · have : a = i := by omega
          subst this
          exact h
      · simp [frLe, lk, avLe]
  · simp -dsimp only [eWC_skip, eWC_exit, eWC_ret, eWC_seq, eWC_block, eWC_cond, eWC_regF, eWC_regT, eWC_loop, eWOps_nil, eWOps_cons, eWOp_eq, eWPl_done, eWPl_z, eWPl_q, eWPl_a, eAW_eq, ↓AW, evalQ, guardG, SV.noU, SV.un, beq_iff_eq, quiet, evO, ofConst, St.put, SV.of, SV.no, binQ, unQ, arQ, loadQ, sliceQ, partsQ, fillAV, fillOk, isU8, byteOf, shapeOk, isAggD, isAggV, cell1, cellsOf, isSeq, pOk, capsOk, pureCall, pickB_or, pickB_and, belowV, belowL, elemsOf, Proms, Prom, svLe, tagLe, isLoad, lk, thenQ, blockQ, retV, retQ, resL, resQ, oneRes, if_false, if_true, reduceIte, forall_const, true_implies, false_implies, implies_true, Nat.reduceEqDiff, Nat.reduceAdd, Nat.reduceSub, Nat.reduceLT, Nat.reduceLeDiff, Nat.reduceMul, Nat.reduceBEq, Nat.reduceBNe, Int.reduceToNat, Int.reduceLT, Int.reduceLE, Int.reduceEq, Int.reduceNeg, Int.reduceAdd, Int.reduceSub, reduceCtorEq, List.filter_nil, List.filter_cons, List.find?_cons, List.find?_nil, ne_eq, beq_self_eq_true, eq_self, imp_self, wz, T0_3, T0_4, T0_5, T0_9, T0_22, T0_28, T0_30, T0_31, T0_32, T0_34, T0_35, T0_38, T0_44, T0_46, T0_47, T0_55, T0_64, T0_66, T0_107, T0_133, T0_137, T0_138, T0_140, T0_141, T0_307, dge (Nat.le_refl xs.length), retR]
    rw [idxF_none (p := p) hI]; simp [avLe]

theorem s190 (g : FuncId) (caps : List AV) (H : List Box) (p : Rln → Bool) (xs : List Rln) (hx : xs.length < 1099511627776) (hp : ∀ x ∈ xs, FSr prog g (Rln.av x :: caps) H (.bool (p x))) :
    FSr prog 190 [.sl 4 (xs.map Rln.av), .fn g caps] H (.bool (xs.any p)) := by
  refine FSr_code T0_ok mo pl0 _ func190 (by decide) rfl _ rfl (by rfl) (by simp only [belowV]) (by simp) _ rfl ?_
  simp only [f190]
  simp -dsimp only [eWC_skip, eWC_exit, eWC_ret, eWC_seq, eWC_block, eWC_cond, eWC_regF, eWC_regT, eWC_loop, eWOps_nil, eWOps_cons, eWOp_eq, eWPl_done, eWPl_z, eWPl_q, eWPl_a, eAW_eq, ↓AW, evalQ, guardG, SV.noU, SV.un, beq_iff_eq, quiet, evO, ofConst, St.put, SV.of, SV.no, binQ, unQ, arQ, loadQ, sliceQ, partsQ, fillAV, fillOk, isU8, byteOf, shapeOk, isAggD, isAggV, cell1, cellsOf, isSeq, pOk, capsOk, pureCall, pickB_or, pickB_and, belowV, belowL, elemsOf, Proms, Prom, svLe, tagLe, isLoad, lk, thenQ, blockQ, retV, retQ, resL, resQ, oneRes, if_false, if_true, reduceIte, forall_const, true_implies, false_implies, implies_true, Nat.reduceEqDiff, Nat.reduceAdd, Nat.reduceSub, Nat.reduceLT, Nat.reduceLeDiff, Nat.reduceMul, Nat.reduceBEq, Nat.reduceBNe, Int.reduceToNat, Int.reduceLT, Int.reduceLE, Int.reduceEq, Int.reduceNeg, Int.reduceAdd, Int.reduceSub, reduceCtorEq, List.filter_nil, List.filter_cons, List.find?_cons, List.find?_nil, ne_eq, beq_self_eq_true, eq_self, imp_self, wz, T0_3, T0_4, T0_5, T0_9, T0_22, T0_28, T0_30, T0_31, T0_32, T0_34, T0_35, T0_38, T0_44, T0_46, T0_47, T0_55, T0_64, T0_66, T0_107, T0_133, T0_137, T0_138, T0_140, T0_141, T0_307, S0]
  refine callG_r (.int .i64 (idxF p xs)) (s262 g caps H p xs hx hp) (by simp) ?_
  simp -dsimp only [eWC_skip, eWC_exit, eWC_ret, eWC_seq, eWC_block, eWC_cond, eWC_regF, eWC_regT, eWC_loop, eWOps_nil, eWOps_cons, eWOp_eq, eWPl_done, eWPl_z, eWPl_q, eWPl_a, eAW_eq, ↓AW, evalQ, guardG, SV.noU, SV.un, beq_iff_eq, quiet, evO, ofConst, St.put, SV.of, SV.no, binQ, unQ, arQ, loadQ, sliceQ, partsQ, fillAV, fillOk, isU8, byteOf, shapeOk, isAggD, isAggV, cell1, cellsOf, isSeq, pOk, capsOk, pureCall, pickB_or, pickB_and, belowV, belowL, elemsOf, Proms, Prom, svLe, tagLe, isLoad, lk, thenQ, blockQ, retV, retQ, resL, resQ, oneRes, if_false, if_true, reduceIte, forall_const, true_implies, false_implies, implies_true, Nat.reduceEqDiff, Nat.reduceAdd, Nat.reduceSub, Nat.reduceLT, Nat.reduceLeDiff, Nat.reduceMul, Nat.reduceBEq, Nat.reduceBNe, Int.reduceToNat, Int.reduceLT, Int.reduceLE, Int.reduceEq, Int.reduceNeg, Int.reduceAdd, Int.reduceSub, reduceCtorEq, List.filter_nil, List.filter_cons, List.find?_cons, List.find?_nil, ne_eq, beq_self_eq_true, eq_self, imp_self, wz, T0_3, T0_4, T0_5, T0_9, T0_22, T0_28, T0_30, T0_31, T0_32, T0_34, T0_35, T0_38, T0_44, T0_46, T0_47, T0_55, T0_64, T0_66, T0_107, T0_133, T0_137, T0_138, T0_140, T0_141, T0_307, retR]
  rw [idxF_ge]
  simp [avLe]

theorem s261 (g : FuncId) (caps : List AV) (H : List Box) (p : (List Rln) → Bool) (xs : List (List Rln)) (hx : xs.length < 1099511627776) (hp : ∀ x ∈ xs, FSr prog g (listAV x :: caps) H (.bool (p x))) :
    FSr prog 261 [.sl 1 (xs.map listAV), .fn g caps] H (.int .i64 (idxF p xs)) := by
  refine FSr_code T0_ok mo pl0 _ func261 (by decide) rfl _ rfl (by rfl) (by simp only [belowV]) (by simp) _ rfl ?_
  simp only [f261]
  simp -dsimp only [eWC_skip, eWC_exit, eWC_ret, eWC_seq, eWC_block, eWC_cond, eWC_regF, eWC_regT, eWC_loop, eWOps_nil, eWOps_cons, eWOp_eq, eWPl_done, eWPl_z, eWPl_q, eWPl_a, eAW_eq, ↓AW, evalQ, guardG, SV.noU, SV.un, beq_iff_eq, quiet, evO, ofConst, St.put, SV.of, SV.no, binQ, unQ, arQ, loadQ, sliceQ, partsQ, fillAV, fillOk, isU8, byteOf, shapeOk, isAggD, isAggV, cell1, cellsOf, isSeq, pOk, capsOk, pureCall, pickB_or, pickB_and, belowV, belowL, elemsOf, Proms, Prom, svLe, tagLe, isLoad, lk, thenQ, blockQ, retV, retQ, resL, resQ, oneRes, if_false, if_true, reduceIte, forall_const, true_implies, false_implies, implies_true, Nat.reduceEqDiff, Nat.reduceAdd, Nat.reduceSub, Nat.reduceLT, Nat.reduceLeDiff, Nat.reduceMul, Nat.reduceBEq, Nat.reduceBNe, Int.reduceToNat, Int.reduceLT, Int.reduceLE, Int.reduceEq, Int.reduceNeg, Int.reduceAdd, Int.reduceSub, reduceCtorEq, List.filter_nil, List.filter_cons, List.find?_cons, List.find?_nil, ne_eq, beq_self_eq_true, eq_self, imp_self, wz, T0_3, T0_4, T0_5, T0_9, T0_22, T0_28, T0_30, T0_31, T0_32, T0_34, T0_35, T0_38, T0_44, T0_46, T0_47, T0_55, T0_64, T0_66, T0_107, T0_133, T0_137, T0_138, T0_140, T0_141, T0_307, S0]
  refine T3_for T0_ok mo pl0 xs.length (fun i st => ⟨[(8, SV.of (.int .i64 (i : Nat))), (7, SV.of (.int .i64 (xs.length : Nat))), (0, SV.of (.sl 1 (xs.map listAV))), (1, SV.of (.fn g caps))], 19, ⟨2, [], H, st⟩, H.length⟩)
    (fun i _ => ∀ a, (h : a < xs.length) → a < i → p xs[a] = false) 19 (fun _ _ => rfl) (by rfl) 0 (fun a _ h => by omega) (Le_lit ?_) (fun i st hi hI => ?_) (fun st hI => ?_)
  · simp [frLe, lk, SV.of, avLe]
  · simp -dsimp only [eWC_skip, eWC_exit, eWC_ret, eWC_seq, eWC_block, eWC_cond, eWC_regF, eWC_regT, eWC_loop, eWOps_nil, eWOps_cons, eWOp_eq, eWPl_done, eWPl_z, eWPl_q, eWPl_a, eAW_eq, ↓AW, evalQ, guardG, SV.noU, SV.un, beq_iff_eq, quiet, evO, ofConst, St.put, SV.of, SV.no, binQ, unQ, arQ, loadQ, sliceQ, partsQ, fillAV, fillOk, isU8, byteOf, shapeOk, isAggD, isAggV, cell1, cellsOf, isSeq, pOk, capsOk, pureCall, pickB_or, pickB_and, belowV, belowL, elemsOf, Proms, Prom, svLe, tagLe, isLoad, lk, thenQ, blockQ, retV, retQ, resL, resQ, oneRes, if_false, if_true, reduceIte, forall_const, true_implies, false_implies, implies_true, Nat.reduceEqDiff, Nat.reduceAdd, Nat.reduceSub, Nat.reduceLT, Nat.reduceLeDiff, Nat.reduceMul, Nat.reduceBEq, Nat.reduceBNe, Int.reduceToNat, Int.reduceLT, Int.reduceLE, Int.reduceEq, Int.reduceNeg, Int.reduceAdd, Int.reduceSub, reduceCtorEq, List.filter_nil, List.filter_cons, List.find?_cons, List.find?_nil, ne_eq, beq_self_eq_true, eq_self, imp_self, wz, T0_3, T0_4, T0_5, T0_9, T0_22, T0_28, T0_30, T0_31, T0_32, T0_34, T0_35, T0_38, T0_44, T0_46, T0_47, T0_55, T0_64, T0_66, T0_107, T0_133, T0_137, T0_138, T0_140, T0_141, T0_307, dlt hi, gd listAV xs i _ hi, listAV]
    refine ⟨by omega, ?_⟩
    refine callG_r (.bool (p xs[i])) ?_ ?_ ?_
    · have := hp xs[i] (List.getElem_mem _)
      simpa [SV.of, Function.comp_def, listAV] using this
    · simp [SV.of]
    · simp -dsimp only [eWC_skip, eWC_exit, eWC_ret, eWC_seq, eWC_block, eWC_cond, eWC_regF, eWC_regT, eWC_loop, eWOps_nil, eWOps_cons, eWOp_eq, eWPl_done, eWPl_z, eWPl_q, eWPl_a, eAW_eq, ↓AW, evalQ, guardG, SV.noU, SV.un, beq_iff_eq, quiet, evO, ofConst, St.put, SV.of, SV.no, binQ, unQ, arQ, loadQ, sliceQ, partsQ, fillAV, fillOk, isU8, byteOf, shapeOk, isAggD, isAggV, cell1, cellsOf, isSeq, pOk, capsOk, pureCall, pickB_or, pickB_and, belowV, belowL, elemsOf, Proms, Prom, svLe, tagLe, isLoad, lk, thenQ, blockQ, retV, retQ, resL, resQ, oneRes, if_false, if_true, reduceIte, forall_const, true_implies, false_implies, implies_true, Nat.reduceEqDiff, Nat.reduceAdd, Nat.reduceSub, Nat.reduceLT, Nat.reduceLeDiff, Nat.reduceMul, Nat.reduceBEq, Nat.reduceBNe, Int.reduceToNat, Int.reduceLT, Int.reduceLE, Int.reduceEq, Int.reduceNeg, Int.reduceAdd, Int.reduceSub, reduceCtorEq, List.filter_nil, List.filter_cons, List.find?_cons, List.find?_nil, ne_eq, beq_self_eq_true, eq_self, imp_self, wz, T0_3, T0_4, T0_5, T0_9, T0_22, T0_28, T0_30, T0_31, T0_32, T0_34, T0_35, T0_38, T0_44, T0_46, T0_47, T0_55, T0_64, T0_66, T0_107, T0_133, T0_137, T0_138, T0_140, T0_141, T0_307, retR]
      refine ⟨fun h => ?_, fun h => ⟨by unfold I64; omega, st + 1, fun a ha hai => ?_, Le_lit ?_⟩⟩
      · rw [idxF_at (p := p) hi h hI]; simp [avLe]
      · rcases Nat.lt_or_ge a i with h1 | h1
        · exact hI a ha h1
        · have : a = i := by omega
          subst this
          exact h
      · simp [frLe, lk, avLe]
  · simp -dsimp only [eWC_skip, eWC_exit, eWC_ret, eWC_seq, eWC_block, eWC_cond, eWC_regF, eWC_regT, eWC_loop, eWOps_nil, eWOps_cons, eWOp_eq, eWPl_done, eWPl_z, eWPl_q, eWPl_a, eAW_eq, ↓AW, evalQ, guardG, SV.noU, SV.un, beq_iff_eq, quiet, evO, ofConst, St.put, SV.of, SV.no, binQ, unQ, arQ, loadQ, sliceQ, partsQ, fillAV, fillOk, isU8, byteOf, shapeOk, isAggD, isAggV, cell1, cellsOf, isSeq, pOk, capsOk, pureCall, pickB_or, pickB_and, belowV, belowL, elemsOf, Proms, Prom, svLe, tagLe, isLoad, lk, thenQ, blockQ, retV, retQ, resL, resQ, oneRes, if_false, if_true, reduceIte, forall_const, true_implies, false_implies, implies_true, Nat.reduceEqDiff, Nat.reduceAdd, Nat.reduceSub, Nat.reduceLT, Nat.reduceLeDiff, Nat.reduceMul, Nat.reduceBEq, Nat.reduceBNe, Int.reduceToNat, Int.reduceLT, Int.reduceLE, Int.reduceEq, Int.reduceNeg, Int.reduceAdd, Int.reduceSub, reduceCtorEq, List.filter_nil, List.filter_cons, List.find?_cons, List.find?_nil, ne_eq, beq_self_eq_true, eq_self, imp_self, wz, T0_3, T0_4, T0_5, T0_9, T0_22, T0_28, T0_30, T0_31, T0_32, T0_34, T0_35, T0_38, T0_44, T0_46, T0_47, T0_55, T0_64, T0_66, T0_107, T0_133, T0_137, T0_138, T0_140, T0_141, T0_307, dge (Nat.le_refl xs.length), retR]
    rw [idxF_none (p := p) hI]; simp [avLe]

theorem s188 (g : FuncId) (caps : List AV) (H : List Box) (p : (List Rln) → Bool) (xs : List (List Rln)) (hx : xs.length < 1099511627776) (hp : ∀ x ∈ xs, FSr prog g (listAV x :: caps) H (.bool (p x))) :
    FSr prog 188 [.sl 1 (xs.map listAV), .fn g caps] H (.bool (xs.any p)) := by
  refine FSr_code T0_ok mo pl0 _ func188 (by decide) rfl _ rfl (by rfl) (by simp only [belowV]) (by simp) _ rfl ?_
  simp only [f188]
  simp -dsimp only [eWC_skip, eWC_exit, eWC_ret, eWC_seq, eWC_block, eWC_cond, eWC_regF, eWC_regT, eWC_loop, eWOps_nil, eWOps_cons, eWOp_eq, eWPl_done, eWPl_z, eWPl_q, eWPl_a, eAW_eq, ↓AW, evalQ, guardG, SV.noU, SV.un, beq_iff_eq, quiet, evO, ofConst, St.put, SV.of, SV.no, binQ, unQ, arQ, loadQ, sliceQ, partsQ, fillAV, fillOk, isU8, byteOf, shapeOk, isAggD, isAggV, cell1, cellsOf, isSeq, pOk, capsOk, pureCall, pickB_or, pickB_and, belowV, belowL, elemsOf, Proms, Prom, svLe, tagLe, isLoad, lk, thenQ, blockQ, retV, retQ, resL, resQ, oneRes, if_false, if_true, reduceIte, forall_const, true_implies, false_implies, implies_true, Nat.reduceEqDiff, Nat.reduceAdd, Nat.reduceSub, Nat.reduceLT, Nat.reduceLeDiff, Nat.reduceMul, Nat.reduceBEq, Nat.reduceBNe, Int.reduceToNat, Int.reduceLT, Int.reduceLE, Int.reduceEq, Int.reduceNeg, Int.reduceAdd, Int.reduceSub, reduceCtorEq, List.filter_nil, List.filter_cons, List.find?_cons, List.find?_nil, ne_eq, beq_self_eq_true, eq_self, imp_self, wz, T0_3, T0_4, T0_5, T0_9, T0_22, T0_28, T0_30, T0_31, T0_32, T0_34, T0_35, T0_38, T0_44, T0_46, T0_47, T0_55, T0_64, T0_66, T0_107, T0_133, T0_137, T0_138, T0_140, T0_141, T0_307, S0]
  refine callG_r (.int .i64 (idxF p xs)) (s261 g caps H p xs hx hp) (by simp) ?_
  simp -dsimp only [eWC_skip, eWC_exit, eWC_ret, eWC_seq, eWC_block, eWC_cond, eWC_regF, eWC_regT, eWC_loop, eWOps_nil, eWOps_cons, eWOp_eq, eWPl_done, eWPl_z, eWPl_q, eWPl_a, eAW_eq, ↓AW, evalQ, guardG, SV.noU, SV.un, beq_iff_eq, quiet, evO, ofConst, St.put, SV.of, SV.no, binQ, unQ, arQ, loadQ, sliceQ, partsQ, fillAV, fillOk, isU8, byteOf, shapeOk, isAggD, isAggV, cell1, cellsOf, isSeq, pOk, capsOk, pureCall, pickB_or, pickB_and, belowV, belowL, elemsOf, Proms, Prom, svLe, tagLe, isLoad, lk, thenQ, blockQ, retV, retQ, resL, resQ, oneRes, if_false, if_true, reduceIte, forall_const, true_implies, false_implies, implies_true, Nat.reduceEqDiff, Nat.reduceAdd, Nat.reduceSub, Nat.reduceLT, Nat.reduceLeDiff, Nat.reduceMul, Nat.reduceBEq, Nat.reduceBNe, Int.reduceToNat, Int.reduceLT, Int.reduceLE, Int.reduceEq, Int.reduceNeg, Int.reduceAdd, Int.reduceSub, reduceCtorEq, List.filter_nil, List.filter_cons, List.find?_cons, List.find?_nil, ne_eq, beq_self_eq_true, eq_self, imp_self, wz, T0_3, T0_4, T0_5, T0_9, T0_22, T0_28, T0_30, T0_31, T0_32, T0_34, T0_35, T0_38, T0_44, T0_46, T0_47, T0_55, T0_64, T0_66, T0_107, T0_133, T0_137, T0_138, T0_140, T0_141, T0_307, retR]
  rw [idxF_ge]
  simp [avLe]

theorem s179 (g : FuncId) (caps : List AV) (H : List Box) (p : Val → Bool) (xs : List Val) (hx : xs.length < 1099511627776) (hp : ∀ x ∈ xs, FSr prog g (Val.av x :: caps) H (.bool (p x))) :
    FSr prog 179 [.sl 5 (xs.map Val.av), .fn g caps] H (.int .i64 (idxF p xs)) := by
  refine FSr_code T0_ok mo pl0 _ func179 (by decide) rfl _ rfl (by rfl) (by simp only [belowV]) (by simp) _ rfl ?_
  simp only [f179]
  simp -dsimp only [eWC_skip, eWC_exit, eWC_ret, eWC_seq, eWC_block, eWC_cond, eWC_regF, eWC_regT, eWC_loop, eWOps_nil, eWOps_cons, eWOp_eq, eWPl_done, eWPl_z, eWPl_q, eWPl_a, eAW_eq, ↓AW, evalQ, guardG, SV.noU, SV.un, beq_iff_eq, quiet, evO, ofConst, St.put, SV.of, SV.no, binQ, unQ, arQ, loadQ, sliceQ, partsQ, fillAV, fillOk, isU8, byteOf, shapeOk, isAggD, isAggV, cell1, cellsOf, isSeq, pOk, capsOk, pureCall, pickB_or, pickB_and, belowV, belowL, elemsOf, Proms, Prom, svLe, tagLe, isLoad, lk, thenQ, blockQ, retV, retQ, resL, resQ, oneRes, if_false, if_true, reduceIte, forall_const, true_implies, false_implies, implies_true, Nat.reduceEqDiff, Nat.reduceAdd, Nat.reduceSub, Nat.reduceLT, Nat.reduceLeDiff, Nat.reduceMul, Nat.reduceBEq, Nat.reduceBNe, Int.reduceToNat, Int.reduceLT, Int.reduceLE, Int.reduceEq, Int.reduceNeg, Int.reduceAdd, Int.reduceSub, reduceCtorEq, List.filter_nil, List.filter_cons, List.find?_cons, List.find?_nil, ne_eq, beq_self_eq_true, eq_self, imp_self, wz, T0_3, T0_4, T0_5, T0_9, T0_22, T0_28, T0_30, T0_31, T0_32, T0_34, T0_35, T0_38, T0_44, T0_46, T0_47, T0_55, T0_64, T0_66, T0_107, T0_133, T0_137, T0_138, T0_140, T0_141, T0_307, S0]
  refine T3_for T0_ok mo pl0 xs.length (fun i st => ⟨[(8, SV.of (.int .i64 (i : Nat))), (7, SV.of (.int .i64 (xs.length : Nat))), (0, SV.of (.sl 5 (xs.map Val.av))), (1, SV.of (.fn g caps))], 19, ⟨2, [], H, st⟩, H.length⟩)
    (fun i _ => ∀ a, (h : a < xs.length) → a < i → p xs[a] = false) 19 (fun _ _ => rfl) (by rfl) 0 (fun a _ h => by omega) (Le_lit ?_) (fun i st hi hI => ?_) (fun st hI => ?_)
  · simp [frLe, lk, SV.of, avLe]
  · simp -dsimp only [eWC_skip, eWC_exit, eWC_ret, eWC_seq, eWC_block, eWC_cond, eWC_regF, eWC_regT, eWC_loop, eWOps_nil, eWOps_cons, eWOp_eq, eWPl_done, eWPl_z, eWPl_q, eWPl_a, eAW_eq, ↓AW, evalQ, guardG, SV.noU, SV.un, beq_iff_eq, quiet, evO, ofConst, St.put, SV.of, SV.no, binQ, unQ, arQ, loadQ, sliceQ, partsQ, fillAV, fillOk, isU8, byteOf, shapeOk, isAggD, isAggV, cell1, cellsOf, isSeq, pOk, capsOk, pureCall, pickB_or, pickB_and, belowV, belowL, elemsOf, Proms, Prom, svLe, tagLe, isLoad, lk, thenQ, blockQ, retV, retQ, resL, resQ, oneRes, if_false, if_true, reduceIte, forall_const, true_implies, false_implies, implies_true, Nat.reduceEqDiff, Nat.reduceAdd, Nat.reduceSub, Nat.reduceLT, Nat.reduceLeDiff, Nat.reduceMul, Nat.reduceBEq, Nat.reduceBNe, Int.reduceToNat, Int.reduceLT, Int.reduceLE, Int.reduceEq, Int.reduceNeg, Int.reduceAdd, Int.reduceSub, reduceCtorEq, List.filter_nil, List.filter_cons, List.find?_cons, List.find?_nil, ne_eq, beq_self_eq_true, eq_self, imp_self, wz, T0_3, T0_4, T0_5, T0_9, T0_22, T0_28, T0_30, T0_31, T0_32, T0_34, T0_35, T0_38, T0_44, T0_46, T0_47, T0_55, T0_64, T0_66, T0_107, T0_133, T0_137, T0_138, T0_140, T0_141, T0_307, dlt hi, gd Val.av xs i _ hi, Val.av]
    refine ⟨by omega, ?_⟩
    refine callG_r (.bool (p xs[i])) ?_ ?_ ?_
    · have := hp xs[i] (List.getElem_mem _)
      simpa [SV.of, Function.comp_def, Val.av] using this
    · simp [SV.of]
    · simp -dsimp only [eWC_skip, eWC_exit, eWC_ret, eWC_seq, eWC_block, eWC_cond, eWC_regF, eWC_regT, eWC_loop, eWOps_nil, eWOps_cons, eWOp_eq, eWPl_done, eWPl_z, eWPl_q, eWPl_a, eAW_eq, ↓AW, evalQ, guardG, SV.noU, SV.un, beq_iff_eq, quiet, evO, ofConst, St.put, SV.of, SV.no, binQ, unQ, arQ, loadQ, sliceQ, partsQ, fillAV, fillOk, isU8, byteOf, shapeOk, isAggD, isAggV, cell1, cellsOf, isSeq, pOk, capsOk, pureCall, pickB_or, pickB_and, belowV, belowL, elemsOf, Proms, Prom, svLe, tagLe, isLoad, lk, thenQ, blockQ, retV, retQ, resL, resQ, oneRes, if_false, if_true, reduceIte, forall_const, true_implies, false_implies, implies_true, Nat.reduceEqDiff, Nat.reduceAdd, Nat.reduceSub, Nat.reduceLT, Nat.reduceLeDiff, Nat.reduceMul, Nat.reduceBEq, Nat.reduceBNe, Int.reduceToNat, Int.reduceLT, Int.reduceLE, Int.reduceEq, Int.reduceNeg, Int.reduceAdd, Int.reduceSub, reduceCtorEq, List.filter_nil, List.filter_cons, List.find?_cons, List.find?_nil, ne_eq, beq_self_eq_true, eq_self, imp_self, wz, T0_3, T0_4, T0_5, T0_9, T0_22, T0_28, T0_30, T0_31, T0_32, T0_34, T0_35, T0_38, T0_44, T0_46, T0_47, T0_55, T0_64, T0_66, T0_107, T0_133, T0_137, T0_138, T0_140, T0_141, T0_307, retR]
      refine ⟨fun h => ?_, fun h => ⟨by unfold I64; omega, st + 1, fun a ha hai => ?_, Le_lit ?_⟩⟩
      · rw [idxF_at (p := p) hi h hI]; simp [avLe]
      · rcases Nat.lt_or_ge a i with h1 | h1
        · exact hI a ha h1
        · have : a = i := by omega
          subst this
          exact h
      · simp [frLe, lk, avLe]
  · simp -dsimp only [eWC_skip, eWC_exit, eWC_ret, eWC_seq, eWC_block, eWC_cond, eWC_regF, eWC_regT, eWC_loop, eWOps_nil, eWOps_cons, eWOp_eq, eWPl_done, eWPl_z, eWPl_q, eWPl_a, eAW_eq, ↓AW, evalQ, guardG, SV.noU, SV.un, beq_iff_eq, quiet, evO, ofConst, St.put, SV.of, SV.no, binQ, unQ, arQ, loadQ, sliceQ, partsQ, fillAV, fillOk, isU8, byteOf, shapeOk, isAggD, isAggV, cell1, cellsOf, isSeq, pOk, capsOk, pureCall, pickB_or, pickB_and, belowV, belowL, elemsOf, Proms, Prom, svLe, tagLe, isLoad, lk, thenQ, blockQ, retV, retQ, resL, resQ, oneRes, if_false, if_true, reduceIte, forall_const, true_implies, false_implies, implies_true, Nat.reduceEqDiff, Nat.reduceAdd, Nat.reduceSub, Nat.reduceLT, Nat.reduceLeDiff, Nat.reduceMul, Nat.reduceBEq, Nat.reduceBNe, Int.reduceToNat, Int.reduceLT, Int.reduceLE, Int.reduceEq, Int.reduceNeg, Int.reduceAdd, Int.reduceSub, reduceCtorEq, List.filter_nil, List.filter_cons, List.find?_cons, List.find?_nil, ne_eq, beq_self_eq_true, eq_self, imp_self, wz, T0_3, T0_4, T0_5, T0_9, T0_22, T0_28, T0_30, T0_31, T0_32, T0_34, T0_35, T0_38, T0_44, T0_46, T0_47, T0_55, T0_64, T0_66, T0_107, T0_133, T0_137, T0_138, T0_140, T0_141, T0_307, dge (Nat.le_refl xs.length), retR]
    rw [idxF_none (p := p) hI]; simp [avLe]

theorem s355 (g : FuncId) (caps : List AV) (H : List Box) (p : Spn → Bool) (xs : List Spn) (hx : xs.length < 1099511627776) (hp : ∀ x ∈ xs, FSr prog g (Spn.av x :: caps) H (.bool (p x))) :
    FSr prog 355 [.sl 2 (xs.map Spn.av), .fn g caps] H (.int .i64 (idxF p xs)) := by
  refine FSr_code T0_ok mo pl0 _ func355 (by decide) rfl _ rfl (by rfl) (by simp only [belowV]) (by simp) _ rfl ?_
  simp only [f355]
  simp -dsimp only [eWC_skip, eWC_exit, eWC_ret, eWC_seq, eWC_block, eWC_cond, eWC_regF, eWC_regT, eWC_loop, eWOps_nil, eWOps_cons, eWOp_eq, eWPl_done, eWPl_z, eWPl_q, eWPl_a, eAW_eq, ↓AW, evalQ, guardG, SV.noU, SV.un, beq_iff_eq, quiet, evO, ofConst, St.put, SV.of, SV.no, binQ, unQ, arQ, loadQ, sliceQ, partsQ, fillAV, fillOk, isU8, byteOf, shapeOk, isAggD, isAggV, cell1, cellsOf, isSeq, pOk, capsOk, pureCall, pickB_or, pickB_and, belowV, belowL, elemsOf, Proms, Prom, svLe, tagLe, isLoad, lk, thenQ, blockQ, retV, retQ, resL, resQ, oneRes, if_false, if_true, reduceIte, forall_const, true_implies, false_implies, implies_true, Nat.reduceEqDiff, Nat.reduceAdd, Nat.reduceSub, Nat.reduceLT, Nat.reduceLeDiff, Nat.reduceMul, Nat.reduceBEq, Nat.reduceBNe, Int.reduceToNat, Int.reduceLT, Int.reduceLE, Int.reduceEq, Int.reduceNeg, Int.reduceAdd, Int.reduceSub, reduceCtorEq, List.filter_nil, List.filter_cons, List.find?_cons, List.find?_nil, ne_eq, beq_self_eq_true, eq_self, imp_self, wz, T0_3, T0_4, T0_5, T0_9, T0_22, T0_28, T0_30, T0_31, T0_32, T0_34, T0_35, T0_38, T0_44, T0_46, T0_47, T0_55, T0_64, T0_66, T0_107, T0_133, T0_137, T0_138, T0_140, T0_141, T0_307, S0]
  refine T3_for T0_ok mo pl0 xs.length (fun i st => ⟨[(8, SV.of (.int .i64 (i : Nat))), (7, SV.of (.int .i64 (xs.length : Nat))), (0, SV.of (.sl 2 (xs.map Spn.av))), (1, SV.of (.fn g caps))], 19, ⟨2, [], H, st⟩, H.length⟩)
    (fun i _ => ∀ a, (h : a < xs.length) → a < i → p xs[a] = false) 19 (fun _ _ => rfl) (by rfl) 0 (fun a _ h => by omega) (Le_lit ?_) (fun i st hi hI => ?_) (fun st hI => ?_)
  · simp [frLe, lk, SV.of, avLe]
  · simp -dsimp only [eWC_skip, eWC_exit, eWC_ret, eWC_seq, eWC_block, eWC_cond, eWC_regF, eWC_regT, eWC_loop, eWOps_nil, eWOps_cons, eWOp_eq, eWPl_done, eWPl_z, eWPl_q, eWPl_a, eAW_eq, ↓AW, evalQ, guardG, SV.noU, SV.un, beq_iff_eq, quiet, evO, ofConst, St.put, SV.of, SV.no, binQ, unQ, arQ, loadQ, sliceQ, partsQ, fillAV, fillOk, isU8, byteOf, shapeOk, isAggD, isAggV, cell1, cellsOf, isSeq, pOk, capsOk, pureCall, pickB_or, pickB_and, belowV, belowL, elemsOf, Proms, Prom, svLe, tagLe, isLoad, lk, thenQ, blockQ, retV, retQ, resL, resQ, oneRes, if_false, if_true, reduceIte, forall_const, true_implies, false_implies, implies_true, Nat.reduceEqDiff, Nat.reduceAdd, Nat.reduceSub, Nat.reduceLT, Nat.reduceLeDiff, Nat.reduceMul, Nat.reduceBEq, Nat.reduceBNe, Int.reduceToNat, Int.reduceLT, Int.reduceLE, Int.reduceEq, Int.reduceNeg, Int.reduceAdd, Int.reduceSub, reduceCtorEq, List.filter_nil, List.filter_cons, List.find?_cons, List.find?_nil, ne_eq, beq_self_eq_true, eq_self, imp_self, wz, T0_3, T0_4, T0_5, T0_9, T0_22, T0_28, T0_30, T0_31, T0_32, T0_34, T0_35, T0_38, T0_44, T0_46, T0_47, T0_55, T0_64, T0_66, T0_107, T0_133, T0_137, T0_138, T0_140, T0_141, T0_307, dlt hi, gd Spn.av xs i _ hi, Spn.av]
    refine ⟨by omega, ?_⟩
    refine callG_r (.bool (p xs[i])) ?_ ?_ ?_
    · have := hp xs[i] (List.getElem_mem _)
      simpa [SV.of, Function.comp_def, Spn.av] using this
    · simp [SV.of]
    · simp -dsimp only [eWC_skip, eWC_exit, eWC_ret, eWC_seq, eWC_block, eWC_cond, eWC_regF, eWC_regT, eWC_loop, eWOps_nil, eWOps_cons, eWOp_eq, eWPl_done, eWPl_z, eWPl_q, eWPl_a, eAW_eq, ↓AW, evalQ, guardG, SV.noU, SV.un, beq_iff_eq, quiet, evO, ofConst, St.put, SV.of, SV.no, binQ, unQ, arQ, loadQ, sliceQ, partsQ, fillAV, fillOk, isU8, byteOf, shapeOk, isAggD, isAggV, cell1, cellsOf, isSeq, pOk, capsOk, pureCall, pickB_or, pickB_and, belowV, belowL, elemsOf, Proms, Prom, svLe, tagLe, isLoad, lk, thenQ, blockQ, retV, retQ, resL, resQ, oneRes, if_false, if_true, reduceIte, forall_const, true_implies, false_implies, implies_true, Nat.reduceEqDiff, Nat.reduceAdd, Nat.reduceSub, Nat.reduceLT, Nat.reduceLeDiff, Nat.reduceMul, Nat.reduceBEq, Nat.reduceBNe, Int.reduceToNat, Int.reduceLT, Int.reduceLE, Int.reduceEq, Int.reduceNeg, Int.reduceAdd, Int.reduceSub, reduceCtorEq, List.filter_nil, List.filter_cons, List.find?_cons, List.find?_nil, ne_eq, beq_self_eq_true, eq_self, imp_self, wz, T0_3, T0_4, T0_5, T0_9, T0_22, T0_28, T0_30, T0_31, T0_32, T0_34, T0_35, T0_38, T0_44, T0_46, T0_47, T0_55, T0_64, T0_66, T0_107, T0_133, T0_137, T0_138, T0_140, T0_141, T0_307, retR]
      refine ⟨fun h => ?_, fun h => ⟨by unfold I64; omega, st + 1, fun a ha hai => ?_, Le_lit ?_⟩⟩
      · rw [idxF_at (p := p) hi h hI]; simp [avLe]
      · rcases Nat.lt_or_ge a i with h1 | h1
        · exact hI a ha h1
        · have : a = i := by omega
          subst this
          exact h
      · simp [frLe, lk, avLe]
  · simp -dsimp only [eWC_skip, eWC_exit, eWC_ret, eWC_seq, eWC_block, eWC_cond, eWC_regF, eWC_regT, eWC_loop, eWOps_nil, eWOps_cons, eWOp_eq, eWPl_done, eWPl_z, eWPl_q, eWPl_a, eAW_eq, ↓AW, evalQ, guardG, SV.noU, SV.un, beq_iff_eq, quiet, evO, ofConst, St.put, SV.of, SV.no, binQ, unQ, arQ, loadQ, sliceQ, partsQ, fillAV, fillOk, isU8, byteOf, shapeOk, isAggD, isAggV, cell1, cellsOf, isSeq, pOk, capsOk, pureCall, pickB_or, pickB_and, belowV, belowL, elemsOf, Proms, Prom, svLe, tagLe, isLoad, lk, thenQ, blockQ, retV, retQ, resL, resQ, oneRes, if_false, if_true, reduceIte, forall_const, true_implies, false_implies, implies_true, Nat.reduceEqDiff, Nat.reduceAdd, Nat.reduceSub, Nat.reduceLT, Nat.reduceLeDiff, Nat.reduceMul, Nat.reduceBEq, Nat.reduceBNe, Int.reduceToNat, Int.reduceLT, Int.reduceLE, Int.reduceEq, Int.reduceNeg, Int.reduceAdd, Int.reduceSub, reduceCtorEq, List.filter_nil, List.filter_cons, List.find?_cons, List.find?_nil, ne_eq, beq_self_eq_true, eq_self, imp_self, wz, T0_3, T0_4, T0_5, T0_9, T0_22, T0_28, T0_30, T0_31, T0_32, T0_34, T0_35, T0_38, T0_44, T0_46, T0_47, T0_55, T0_64, T0_66, T0_107, T0_133, T0_137, T0_138, T0_140, T0_141, T0_307, dge (Nat.le_refl xs.length), retR]
    rw [idxF_none (p := p) hI]; simp [avLe]

theorem s317 (g : FuncId) (caps : List AV) (H : List Box) (p : Spn → Bool) (xs : List Spn) (hx : xs.length < 1099511627776) (hp : ∀ x ∈ xs, FSr prog g (Spn.av x :: caps) H (.bool (p x))) :
    FSr prog 317 [.sl 2 (xs.map Spn.av), .fn g caps] H (.bool (xs.any p)) := by
  refine FSr_code T0_ok mo pl0 _ func317 (by decide) rfl _ rfl (by rfl) (by simp only [belowV]) (by simp) _ rfl ?_
  simp only [f317]
  simp -dsimp only [eWC_skip, eWC_exit, eWC_ret, eWC_seq, eWC_block, eWC_cond, eWC_regF, eWC_regT, eWC_loop, eWOps_nil, eWOps_cons, eWOp_eq, eWPl_done, eWPl_z, eWPl_q, eWPl_a, eAW_eq, ↓AW, evalQ, guardG, SV.noU, SV.un, beq_iff_eq, quiet, evO, ofConst, St.put, SV.of, SV.no, binQ, unQ, arQ, loadQ, sliceQ, partsQ, fillAV, fillOk, isU8, byteOf, shapeOk, isAggD, isAggV, cell1, cellsOf, isSeq, pOk, capsOk, pureCall, pickB_or, pickB_and, belowV, belowL, elemsOf, Proms, Prom, svLe, tagLe, isLoad, lk, thenQ, blockQ, retV, retQ, resL, resQ, oneRes, if_false, if_true, reduceIte, forall_const, true_implies, false_implies, implies_true, Nat.reduceEqDiff, Nat.reduceAdd, Nat.reduceSub, Nat.reduceLT, Nat.reduceLeDiff, Nat.reduceMul, Nat.reduceBEq, Nat.reduceBNe, Int.reduceToNat, Int.reduceLT, Int.reduceLE, Int.reduceEq, Int.reduceNeg, Int.reduceAdd, Int.reduceSub, reduceCtorEq, List.filter_nil, List.filter_cons, List.find?_cons, List.find?_nil, ne_eq, beq_self_eq_true, eq_self, imp_self, wz, T0_3, T0_4, T0_5, T0_9, T0_22, T0_28, T0_30, T0_31, T0_32, T0_34, T0_35, T0_38, T0_44, T0_46, T0_47, T0_55, T0_64, T0_66, T0_107, T0_133, T0_137, T0_138, T0_140, T0_141, T0_307, S0]
  refine callG_r (.int .i64 (idxF p xs)) (s355 g caps H p xs hx hp) (by simp) ?_
  simp -dsimp only [eWC_skip, eWC_exit, eWC_ret, eWC_seq, eWC_block, eWC_cond, eWC_regF, eWC_regT, eWC_loop, eWOps_nil, eWOps_cons, eWOp_eq, eWPl_done, eWPl_z, eWPl_q, eWPl_a, eAW_eq, ↓AW, evalQ, guardG, SV.noU, SV.un, beq_iff_eq, quiet, evO, ofConst, St.put, SV.of, SV.no, binQ, unQ, arQ, loadQ, sliceQ, partsQ, fillAV, fillOk, isU8, byteOf, shapeOk, isAggD, isAggV, cell1, cellsOf, isSeq, pOk, capsOk, pureCall, pickB_or, pickB_and, belowV, belowL, elemsOf, Proms, Prom, svLe, tagLe, isLoad, lk, thenQ, blockQ, retV, retQ, resL, resQ, oneRes, if_false, if_true, reduceIte, forall_const, true_implies, false_implies, implies_true, Nat.reduceEqDiff, Nat.reduceAdd, Nat.reduceSub, Nat.reduceLT, Nat.reduceLeDiff, Nat.reduceMul, Nat.reduceBEq, Nat.reduceBNe, Int.reduceToNat, Int.reduceLT, Int.reduceLE, Int.reduceEq, Int.reduceNeg, Int.reduceAdd, Int.reduceSub, reduceCtorEq, List.filter_nil, List.filter_cons, List.find?_cons, List.find?_nil, ne_eq, beq_self_eq_true, eq_self, imp_self, wz, T0_3, T0_4, T0_5, T0_9, T0_22, T0_28, T0_30, T0_31, T0_32, T0_34, T0_35, T0_38, T0_44, T0_46, T0_47, T0_55, T0_64, T0_66, T0_107, T0_133, T0_137, T0_138, T0_140, T0_141, T0_307, retR]
  rw [idxF_ge]
  simp [avLe]
end Go.Proofs.Tryz
