/- Parts of a proof, joined by a program. Conditions: none. -/
import Derived.Test.YtlenlhlipmkeeaaRA2
import Derived.Test.YtlenlhlipmkeeaaChecked
import Derived.Shelf.Strings.OnBuilder

section
/- strings.Join of this program is the kit's. Conditions: none. -/
namespace Go.Proofs.Ytlenlhlipmkeeaa.W
open Go Go.AM Go.Proofs Go.Shelf
set_option maxRecDepth 100000
def jf : Nat → Nat := fun x => cond (Nat.beq x 156) 88 ( cond (Nat.beq x 165) 94 ( cond (Nat.beq x 166) 95 ( cond (Nat.beq x 169) 96 ( cond (Nat.beq x 240) 100 ( cond (Nat.beq x 241) 101 ( cond (Nat.beq x 276) 102 ( cond (Nat.beq x 277) 103 (x))))))))
def jt : Nat → Nat := fun x => cond (Nat.beq x 0) 0 ( cond (Nat.beq x 3) 3 ( cond (Nat.beq x 4) 4 ( cond (Nat.beq x 5) 5 ( cond (Nat.beq x 9) 9 ( cond (Nat.beq x 20) 20 ( cond (Nat.beq x 31) 30 ( cond (Nat.beq x 37) 54 ( cond (Nat.beq x 70) 131 ( cond (Nat.beq x 72) 133 ( cond (Nat.beq x 75) 136 ( cond (Nat.beq x 76) 137 ( cond (Nat.beq x 80) 75 ( cond (Nat.beq x 127) 140 ( cond (Nat.beq x 164) 141 (x)))))))))))))))
def ren : Ren := ⟨jf, jt, fun x => x⟩
theorem lays : Lays.n156 Try.prog ren where
  mixed := by kernel_rfl
  f156 := by kernel_rfl
  f165 := by kernel_rfl
  f166 := by kernel_rfl
  f169 := by kernel_rfl
  f240 := by kernel_rfl
  f241 := by kernel_rfl
  f276 := by kernel_rfl
  f277 := by kernel_rfl
  t0 := Try.underlying0
  a0 := Try.isAgg0
  z0 := Try.sizeOf0
  v0 := Try.zeroValue0
  t3 := Try.underlying3
  a3 := Try.isAgg3
  z3 := Try.sizeOf3
  v3 := Try.zeroValue3
  t4 := Try.underlying4
  a4 := Try.isAgg4
  z4 := Try.sizeOf4
  v4 := Try.zeroValue4
  t9 := Try.underlying9
  a9 := Try.isAgg9
  z9 := Try.sizeOf9
  v9 := Try.zeroValue9
  t20 := Try.underlying20
  a20 := Try.isAgg20
  z20 := Try.sizeOf20
  v20 := Try.zeroValue20
  t31 := Try.underlying30
  a31 := Try.isAgg30
  z31 := Try.sizeOf30
  v31 := Try.zeroValue30
  t37 := Try.underlying54
  a37 := Try.isAgg54
  z37 := Try.sizeOf54
  v37 := Try.zeroValue54
  t70 := Try.underlying131
  a70 := Try.isAgg131
  z70 := Try.sizeOf131
  v70 := Try.zeroValue131
  t72 := Try.underlying133
  a72 := Try.isAgg133
  z72 := Try.sizeOf133
  v72 := Try.zeroValue133
  t75 := Try.underlying136
  a75 := Try.isAgg136
  z75 := Try.sizeOf136
  v75 := Try.zeroValue136
  t76 := Try.underlying137
  a76 := Try.isAgg137
  z76 := Try.sizeOf137
  v76 := Try.zeroValue137
  t127 := Try.underlying140
  a127 := Try.isAgg140
  z127 := Try.sizeOf140
  v127 := Try.zeroValue140
  t164 := Try.underlying141
  a164 := Try.isAgg141
  z164 := Try.sizeOf141
  v164 := Try.zeroValue141
theorem extra : Builder.Extra Try.prog ren where
  sizeBuilder := by kernel_rfl
  liesBuilder := by kernel_rfl
  t5 := Try.underlying5
  a5 := Try.isAgg5
  z5 := Try.sizeOf5
  v5 := Try.zeroValue5
  infoByte := by kernel_rfl
  cellsByte := by kernel_rfl
  sizeByte := by kernel_rfl
  neB5 := by decide
theorem join88 : isJoin Try.prog 88 := ⟨ren, rfl, lays, extra⟩
end Go.Proofs.Ytlenlhlipmkeeaa.W
end
