/-
  DERIVED. GIVEN WITH THE SEED: THE CARDS: each row of YtejdblkohdbhaaaGreatDoorRows.lean that lists a variable, with what it lists TIED to the program's text (the seventh form; the later family's looks); each row that meets fmt, with fmt's text TOLD by the authors' own Lean function (tested against real Go, not proved from fmt's source: count such statements apart). THE CARD IS WHAT COUNTS. Prove the row's statement (the work); the ties are given (YtejdblkohdbhaaaGreatDoorTie.lean); close each card by the builder's one call (the guide's Derived/Test/ToyasCard.lean, 'card_holds'). Laid BY PROGRAM, IN A SANDBOX (cutbox-door.mjs). By AI agents, Wed Nov 11 2026. No macro, syntax, notation, axiom, sorry.
-/
import Derived.Test.YtejdblkohdbhaaaGreatDoorRows
import GoSem.ClaimSeven
namespace Go.Proofs.YtejdblkohdbhaaaGreatDoor
namespace Rows

/-- THE TIED CARD OF 'calquelaw31.ChooseCase'. -/
def chooseCaseCard : Claim7 := { stood := { row := chooseCaseRow, standIns := [], harness := (true, "c642ca21844fff264c3d82b052719e5a231fc9259ffcc4451e619313e69de75e"), looks := true }, kinds := [], alts := [], laidByText := true, laidKinds := [.data, .data, .data, .data, .sentinel, .sentinel, .pinned], laidTests := true, laidLooks := .later }
def ChooseCaseCardSaid : Prop := Claim7.holds Tryz.pinned (.plain (OpenSpec.ofChange chooseCaseSpec)) chooseCaseCard

/-- THE TIED CARD OF 'calquelaw31.ChooseOrder'. -/
def chooseOrderCard : Claim7 := { stood := { row := chooseOrderRow, standIns := [], harness := (true, "c642ca21844fff264c3d82b052719e5a231fc9259ffcc4451e619313e69de75e"), looks := true }, kinds := [], alts := [], laidByText := true, laidKinds := [.data, .data, .data, .data, .sentinel, .sentinel, .pinned], laidTests := true, laidLooks := .later }
def ChooseOrderCardSaid : Prop := Claim7.holds Tryz.pinned (.plain (OpenSpec.ofChange chooseOrderSpec)) chooseOrderCard

/-- THE TIED CARD OF 'calquelaw31.ChooseMore'. -/
def chooseMoreCard : Claim7 := { stood := { row := chooseMoreRow, standIns := [], harness := (true, "c642ca21844fff264c3d82b052719e5a231fc9259ffcc4451e619313e69de75e"), looks := true }, kinds := [], alts := [], laidByText := true, laidKinds := [.data, .data, .data, .data, .sentinel, .sentinel, .pinned], laidTests := true, laidLooks := .later }
def ChooseMoreCardSaid : Prop := Claim7.holds Tryz.pinned (.plain (OpenSpec.ofChange chooseMoreSpec)) chooseMoreCard

/-- THE TIED CARD OF 'calquelaw31.ChooseOne'. -/
def chooseOneCard : Claim7 := { stood := { row := chooseOneRow, standIns := [], harness := (true, "c642ca21844fff264c3d82b052719e5a231fc9259ffcc4451e619313e69de75e"), looks := true }, kinds := [], alts := [], laidByText := true, laidKinds := [.data, .data, .data, .data, .sentinel, .sentinel, .pinned], laidTests := true, laidLooks := .later }
def ChooseOneCardSaid : Prop := Claim7.holds Tryz.pinned (.plain (OpenSpec.ofChange chooseOneSpec)) chooseOneCard

/-- THE TIED CARD OF 'calquelaw31.ChooseKey'. -/
def chooseKeyCard : Claim7 := { stood := { row := chooseKeyRow, standIns := [], harness := (true, "c642ca21844fff264c3d82b052719e5a231fc9259ffcc4451e619313e69de75e"), looks := true }, kinds := [], alts := [], laidByText := true, laidKinds := [.data, .data, .data, .data, .sentinel, .sentinel, .pinned], laidTests := true, laidLooks := .later }
def ChooseKeyCardSaid : Prop := Claim7.holds Tryz.pinned (.plain (OpenSpec.ofChange chooseKeySpec)) chooseKeyCard

/-- THE TIED CARD OF 'calquelaw31.ChooseExact'. -/
def chooseExactCard : Claim7 := { stood := { row := chooseExactRow, standIns := [], harness := (true, "c642ca21844fff264c3d82b052719e5a231fc9259ffcc4451e619313e69de75e"), looks := true }, kinds := [], alts := [], laidByText := true, laidKinds := [.data, .data, .data, .data, .sentinel, .sentinel, .pinned], laidTests := true, laidLooks := .later }
def ChooseExactCardSaid : Prop := Claim7.holds Tryz.pinned (.plain (OpenSpec.ofChange chooseExactSpec)) chooseExactCard

/-- THE TIED CARD OF 'calquetop.WholeClasses'. -/
def wholeClassesCard : Claim7 := { stood := { row := wholeClassesRow, standIns := [], harness := (true, "c642ca21844fff264c3d82b052719e5a231fc9259ffcc4451e619313e69de75e"), looks := true }, kinds := [], alts := [], laidByText := true, laidKinds := [.data, .data, .data, .data, .sentinel, .sentinel, .pinned], laidTests := true, laidLooks := .later }
def WholeClassesCardSaid : Prop := Claim7.holds Tryz.pinned (.plain (OpenSpec.ofChange wholeClassesSpec)) wholeClassesCard

/-- THE TIED CARD OF 'calquelaw14.PluralClass'. -/
def pluralClassCard : Claim7 := { stood := { row := pluralClassRow, standIns := [], harness := (true, "c642ca21844fff264c3d82b052719e5a231fc9259ffcc4451e619313e69de75e"), looks := true }, kinds := [], alts := [], laidByText := true, laidKinds := [.data, .data, .data, .data, .sentinel, .sentinel, .pinned], laidTests := true, laidLooks := .later }
def PluralClassCardSaid : Prop := Claim7.holds Tryz.pinned (.plain (OpenSpec.ofChange pluralClassSpec)) pluralClassCard

/-- THE TIED CARD OF 'calquelaw29.VariantsFlat'. -/
def variantsFlatCard : Claim7 := { stood := { row := variantsFlatRow, standIns := [], harness := (true, "c642ca21844fff264c3d82b052719e5a231fc9259ffcc4451e619313e69de75e"), looks := true }, kinds := [], alts := [], laidByText := true, laidKinds := [.data, .data, .data, .data, .sentinel, .sentinel, .pinned], laidTests := true, laidLooks := .later }
def VariantsFlatCardSaid : Prop := Claim7.holds Tryz.pinned (.plain (OpenSpec.ofChange variantsFlatSpec)) variantsFlatCard

/-- THE TIED CARD OF 'calquelaw29.VariantsPlain'. -/
def variantsPlainCard : Claim7 := { stood := { row := variantsPlainRow, standIns := [], harness := (true, "c642ca21844fff264c3d82b052719e5a231fc9259ffcc4451e619313e69de75e"), looks := true }, kinds := [], alts := [], laidByText := true, laidKinds := [.data, .data, .data, .data, .sentinel, .sentinel, .pinned], laidTests := true, laidLooks := .later }
def VariantsPlainCardSaid : Prop := Claim7.holds Tryz.pinned (.plain (OpenSpec.ofChange variantsPlainSpec)) variantsPlainCard

/-- THE TIED CARD OF 'calquelaw14.PluralExample'. -/
def pluralExampleCard : Claim7 := { stood := { row := pluralExampleRow, standIns := [], harness := (true, "c642ca21844fff264c3d82b052719e5a231fc9259ffcc4451e619313e69de75e"), looks := true }, kinds := [], alts := [], laidByText := true, laidKinds := [.data, .data, .data, .data, .sentinel, .sentinel, .pinned], laidTests := true, laidLooks := .later }
def PluralExampleCardSaid : Prop := Claim7.holds Tryz.pinned (.plain (OpenSpec.ofChange pluralExampleSpec)) pluralExampleCard

/-- THE TIED CARD OF 'calquelaw29.VariantsSelect'. -/
def variantsSelectCard : Claim7 := { stood := { row := variantsSelectRow, standIns := [], harness := (true, "c642ca21844fff264c3d82b052719e5a231fc9259ffcc4451e619313e69de75e"), looks := true }, kinds := [], alts := [], laidByText := true, laidKinds := [.data, .data, .data, .data, .sentinel, .sentinel, .pinned], laidTests := true, laidLooks := .later }
def VariantsSelectCardSaid : Prop := Claim7.holds Tryz.pinned (.plain (OpenSpec.ofChange variantsSelectSpec)) variantsSelectCard

/-- THE TIED CARD OF 'calquelaw14.PluralClasses'. -/
def pluralClassesCard : Claim7 := { stood := { row := pluralClassesRow, standIns := [], harness := (true, "c642ca21844fff264c3d82b052719e5a231fc9259ffcc4451e619313e69de75e"), looks := true }, kinds := [], alts := [], laidByText := true, laidKinds := [.data, .data, .data, .data, .sentinel, .sentinel, .pinned], laidTests := true, laidLooks := .later }
def PluralClassesCardSaid : Prop := Claim7.holds Tryz.pinned (.plain (OpenSpec.ofChange pluralClassesSpec)) pluralClassesCard

/-- THE TIED CARD OF 'calquelaw14.PluralOccurs'. -/
def pluralOccursCard : Claim7 := { stood := { row := pluralOccursRow, standIns := [], harness := (true, "c642ca21844fff264c3d82b052719e5a231fc9259ffcc4451e619313e69de75e"), looks := true }, kinds := [], alts := [], laidByText := true, laidKinds := [.data, .data, .data, .data, .sentinel, .sentinel, .pinned], laidTests := true, laidLooks := .later }
def PluralOccursCardSaid : Prop := Claim7.holds Tryz.pinned (.plain (OpenSpec.ofChange pluralOccursSpec)) pluralOccursCard

/-- THE TIED CARD OF 'calquelaw14.PluralOrder'. -/
def pluralOrderCard : Claim7 := { stood := { row := pluralOrderRow, standIns := [], harness := (true, "c642ca21844fff264c3d82b052719e5a231fc9259ffcc4451e619313e69de75e"), looks := true }, kinds := [], alts := [], laidByText := true, laidKinds := [.data, .data, .data, .data, .sentinel, .sentinel, .pinned], laidTests := true, laidLooks := .later }
def PluralOrderCardSaid : Prop := Claim7.holds Tryz.pinned (.plain (OpenSpec.ofChange pluralOrderSpec)) pluralOrderCard

/-- THE TIED CARD OF 'calquelaw14.PluralFewer'. -/
def pluralFewerCard : Claim7 := { stood := { row := pluralFewerRow, standIns := [], harness := (true, "c642ca21844fff264c3d82b052719e5a231fc9259ffcc4451e619313e69de75e"), looks := true }, kinds := [], alts := [], laidByText := true, laidKinds := [.data, .data, .data, .data, .sentinel, .sentinel, .pinned], laidTests := true, laidLooks := .later }
def PluralFewerCardSaid : Prop := Claim7.holds Tryz.pinned (.plain (OpenSpec.ofChange pluralFewerSpec)) pluralFewerCard

/-- THE TIED CARD OF 'calquelaw30.CoverOther'. -/
def coverOtherCard : Claim7 := { stood := { row := coverOtherRow, standIns := [], harness := (true, "c642ca21844fff264c3d82b052719e5a231fc9259ffcc4451e619313e69de75e"), looks := true }, kinds := [], alts := [], laidByText := true, laidKinds := [.data, .data, .data, .data, .sentinel, .sentinel, .pinned], laidTests := true, laidLooks := .later }
def CoverOtherCardSaid : Prop := Claim7.holds Tryz.pinned (.plain (OpenSpec.ofChange coverOtherSpec)) coverOtherCard

/-- THE TIED CARD OF 'calquelaw29.VariantsOne'. -/
def variantsOneCard : Claim7 := { stood := { row := variantsOneRow, standIns := [], harness := (true, "c642ca21844fff264c3d82b052719e5a231fc9259ffcc4451e619313e69de75e"), looks := true }, kinds := [], alts := [], laidByText := true, laidKinds := [.data, .data, .data, .data, .sentinel, .sentinel, .pinned], laidTests := true, laidLooks := .later }
def VariantsOneCardSaid : Prop := Claim7.holds Tryz.pinned (.plain (OpenSpec.ofChange variantsOneSpec)) variantsOneCard

/-- THE TIED CARD OF 'calquelaw30.CoverChosen'. -/
def coverChosenCard : Claim7 := { stood := { row := coverChosenRow, standIns := [], harness := (true, "c642ca21844fff264c3d82b052719e5a231fc9259ffcc4451e619313e69de75e"), looks := true }, kinds := [], alts := [], laidByText := true, laidKinds := [.data, .data, .data, .data, .sentinel, .sentinel, .pinned], laidTests := true, laidLooks := .later }
def CoverChosenCardSaid : Prop := Claim7.holds Tryz.pinned (.plain (OpenSpec.ofChange coverChosenSpec)) coverChosenCard

/-- THE SECOND FORM's CARD OF 'calquelaw31.ChooseCase'. -/
def chooseCaseUptoCard : Claim7 := { stood := { row := chooseCaseUptoRow, standIns := [], harness := (true, "c642ca21844fff264c3d82b052719e5a231fc9259ffcc4451e619313e69de75e"), looks := true }, kinds := [], alts := [], laidByText := true, laidKinds := [.data, .data, .data, .data, .sentinel, .sentinel, .pinned], laidTests := true, laidLooks := .later }
def ChooseCaseUptoCardSaid : Prop := Claim7.holds Tryz.pinned (.plain (OpenSpec.upto chooseCaseSpec)) chooseCaseUptoCard

/-- THE SECOND FORM's CARD OF 'calquelaw31.ChooseOrder'. -/
def chooseOrderUptoCard : Claim7 := { stood := { row := chooseOrderUptoRow, standIns := [], harness := (true, "c642ca21844fff264c3d82b052719e5a231fc9259ffcc4451e619313e69de75e"), looks := true }, kinds := [], alts := [], laidByText := true, laidKinds := [.data, .data, .data, .data, .sentinel, .sentinel, .pinned], laidTests := true, laidLooks := .later }
def ChooseOrderUptoCardSaid : Prop := Claim7.holds Tryz.pinned (.plain (OpenSpec.upto chooseOrderSpec)) chooseOrderUptoCard

/-- THE SECOND FORM's CARD OF 'calquelaw31.ChooseMore'. -/
def chooseMoreUptoCard : Claim7 := { stood := { row := chooseMoreUptoRow, standIns := [], harness := (true, "c642ca21844fff264c3d82b052719e5a231fc9259ffcc4451e619313e69de75e"), looks := true }, kinds := [], alts := [], laidByText := true, laidKinds := [.data, .data, .data, .data, .sentinel, .sentinel, .pinned], laidTests := true, laidLooks := .later }
def ChooseMoreUptoCardSaid : Prop := Claim7.holds Tryz.pinned (.plain (OpenSpec.upto chooseMoreSpec)) chooseMoreUptoCard

/-- THE SECOND FORM's CARD OF 'calquelaw31.ChooseOne'. -/
def chooseOneUptoCard : Claim7 := { stood := { row := chooseOneUptoRow, standIns := [], harness := (true, "c642ca21844fff264c3d82b052719e5a231fc9259ffcc4451e619313e69de75e"), looks := true }, kinds := [], alts := [], laidByText := true, laidKinds := [.data, .data, .data, .data, .sentinel, .sentinel, .pinned], laidTests := true, laidLooks := .later }
def ChooseOneUptoCardSaid : Prop := Claim7.holds Tryz.pinned (.plain (OpenSpec.upto chooseOneSpec)) chooseOneUptoCard

/-- THE SECOND FORM's CARD OF 'calquelaw31.ChooseKey'. -/
def chooseKeyUptoCard : Claim7 := { stood := { row := chooseKeyUptoRow, standIns := [], harness := (true, "c642ca21844fff264c3d82b052719e5a231fc9259ffcc4451e619313e69de75e"), looks := true }, kinds := [], alts := [], laidByText := true, laidKinds := [.data, .data, .data, .data, .sentinel, .sentinel, .pinned], laidTests := true, laidLooks := .later }
def ChooseKeyUptoCardSaid : Prop := Claim7.holds Tryz.pinned (.plain (OpenSpec.upto chooseKeySpec)) chooseKeyUptoCard

/-- THE SECOND FORM's CARD OF 'calquelaw31.ChooseExact'. -/
def chooseExactUptoCard : Claim7 := { stood := { row := chooseExactUptoRow, standIns := [], harness := (true, "c642ca21844fff264c3d82b052719e5a231fc9259ffcc4451e619313e69de75e"), looks := true }, kinds := [], alts := [], laidByText := true, laidKinds := [.data, .data, .data, .data, .sentinel, .sentinel, .pinned], laidTests := true, laidLooks := .later }
def ChooseExactUptoCardSaid : Prop := Claim7.holds Tryz.pinned (.plain (OpenSpec.upto chooseExactSpec)) chooseExactUptoCard

/-- THE SECOND FORM's CARD OF 'calquetop.WholeClasses'. -/
def wholeClassesUptoCard : Claim7 := { stood := { row := wholeClassesUptoRow, standIns := [], harness := (true, "c642ca21844fff264c3d82b052719e5a231fc9259ffcc4451e619313e69de75e"), looks := true }, kinds := [], alts := [], laidByText := true, laidKinds := [.data, .data, .data, .data, .sentinel, .sentinel, .pinned], laidTests := true, laidLooks := .later }
def WholeClassesUptoCardSaid : Prop := Claim7.holds Tryz.pinned (.plain (OpenSpec.upto wholeClassesSpec)) wholeClassesUptoCard

/-- THE SECOND FORM's CARD OF 'calquelaw14.PluralClass'. -/
def pluralClassUptoCard : Claim7 := { stood := { row := pluralClassUptoRow, standIns := [], harness := (true, "c642ca21844fff264c3d82b052719e5a231fc9259ffcc4451e619313e69de75e"), looks := true }, kinds := [], alts := [], laidByText := true, laidKinds := [.data, .data, .data, .data, .sentinel, .sentinel, .pinned], laidTests := true, laidLooks := .later }
def PluralClassUptoCardSaid : Prop := Claim7.holds Tryz.pinned (.plain (OpenSpec.upto pluralClassSpec)) pluralClassUptoCard

/-- THE SECOND FORM's CARD OF 'calquelaw29.VariantsFlat'. -/
def variantsFlatUptoCard : Claim7 := { stood := { row := variantsFlatUptoRow, standIns := [], harness := (true, "c642ca21844fff264c3d82b052719e5a231fc9259ffcc4451e619313e69de75e"), looks := true }, kinds := [], alts := [], laidByText := true, laidKinds := [.data, .data, .data, .data, .sentinel, .sentinel, .pinned], laidTests := true, laidLooks := .later }
def VariantsFlatUptoCardSaid : Prop := Claim7.holds Tryz.pinned (.plain (OpenSpec.upto variantsFlatSpec)) variantsFlatUptoCard

/-- THE SECOND FORM's CARD OF 'calquelaw29.VariantsPlain'. -/
def variantsPlainUptoCard : Claim7 := { stood := { row := variantsPlainUptoRow, standIns := [], harness := (true, "c642ca21844fff264c3d82b052719e5a231fc9259ffcc4451e619313e69de75e"), looks := true }, kinds := [], alts := [], laidByText := true, laidKinds := [.data, .data, .data, .data, .sentinel, .sentinel, .pinned], laidTests := true, laidLooks := .later }
def VariantsPlainUptoCardSaid : Prop := Claim7.holds Tryz.pinned (.plain (OpenSpec.upto variantsPlainSpec)) variantsPlainUptoCard

/-- THE SECOND FORM's CARD OF 'calquelaw14.PluralExample'. -/
def pluralExampleUptoCard : Claim7 := { stood := { row := pluralExampleUptoRow, standIns := [], harness := (true, "c642ca21844fff264c3d82b052719e5a231fc9259ffcc4451e619313e69de75e"), looks := true }, kinds := [], alts := [], laidByText := true, laidKinds := [.data, .data, .data, .data, .sentinel, .sentinel, .pinned], laidTests := true, laidLooks := .later }
def PluralExampleUptoCardSaid : Prop := Claim7.holds Tryz.pinned (.plain (OpenSpec.upto pluralExampleSpec)) pluralExampleUptoCard

/-- THE SECOND FORM's CARD OF 'calquelaw29.VariantsSelect'. -/
def variantsSelectUptoCard : Claim7 := { stood := { row := variantsSelectUptoRow, standIns := [], harness := (true, "c642ca21844fff264c3d82b052719e5a231fc9259ffcc4451e619313e69de75e"), looks := true }, kinds := [], alts := [], laidByText := true, laidKinds := [.data, .data, .data, .data, .sentinel, .sentinel, .pinned], laidTests := true, laidLooks := .later }
def VariantsSelectUptoCardSaid : Prop := Claim7.holds Tryz.pinned (.plain (OpenSpec.upto variantsSelectSpec)) variantsSelectUptoCard

/-- THE SECOND FORM's CARD OF 'calquelaw14.PluralClasses'. -/
def pluralClassesUptoCard : Claim7 := { stood := { row := pluralClassesUptoRow, standIns := [], harness := (true, "c642ca21844fff264c3d82b052719e5a231fc9259ffcc4451e619313e69de75e"), looks := true }, kinds := [], alts := [], laidByText := true, laidKinds := [.data, .data, .data, .data, .sentinel, .sentinel, .pinned], laidTests := true, laidLooks := .later }
def PluralClassesUptoCardSaid : Prop := Claim7.holds Tryz.pinned (.plain (OpenSpec.upto pluralClassesSpec)) pluralClassesUptoCard

/-- THE SECOND FORM's CARD OF 'calquelaw14.PluralOccurs'. -/
def pluralOccursUptoCard : Claim7 := { stood := { row := pluralOccursUptoRow, standIns := [], harness := (true, "c642ca21844fff264c3d82b052719e5a231fc9259ffcc4451e619313e69de75e"), looks := true }, kinds := [], alts := [], laidByText := true, laidKinds := [.data, .data, .data, .data, .sentinel, .sentinel, .pinned], laidTests := true, laidLooks := .later }
def PluralOccursUptoCardSaid : Prop := Claim7.holds Tryz.pinned (.plain (OpenSpec.upto pluralOccursSpec)) pluralOccursUptoCard

/-- THE SECOND FORM's CARD OF 'calquelaw14.PluralOrder'. -/
def pluralOrderUptoCard : Claim7 := { stood := { row := pluralOrderUptoRow, standIns := [], harness := (true, "c642ca21844fff264c3d82b052719e5a231fc9259ffcc4451e619313e69de75e"), looks := true }, kinds := [], alts := [], laidByText := true, laidKinds := [.data, .data, .data, .data, .sentinel, .sentinel, .pinned], laidTests := true, laidLooks := .later }
def PluralOrderUptoCardSaid : Prop := Claim7.holds Tryz.pinned (.plain (OpenSpec.upto pluralOrderSpec)) pluralOrderUptoCard

/-- THE SECOND FORM's CARD OF 'calquelaw14.PluralFewer'. -/
def pluralFewerUptoCard : Claim7 := { stood := { row := pluralFewerUptoRow, standIns := [], harness := (true, "c642ca21844fff264c3d82b052719e5a231fc9259ffcc4451e619313e69de75e"), looks := true }, kinds := [], alts := [], laidByText := true, laidKinds := [.data, .data, .data, .data, .sentinel, .sentinel, .pinned], laidTests := true, laidLooks := .later }
def PluralFewerUptoCardSaid : Prop := Claim7.holds Tryz.pinned (.plain (OpenSpec.upto pluralFewerSpec)) pluralFewerUptoCard

/-- THE SECOND FORM's CARD OF 'calquelaw30.CoverOther'. -/
def coverOtherUptoCard : Claim7 := { stood := { row := coverOtherUptoRow, standIns := [], harness := (true, "c642ca21844fff264c3d82b052719e5a231fc9259ffcc4451e619313e69de75e"), looks := true }, kinds := [], alts := [], laidByText := true, laidKinds := [.data, .data, .data, .data, .sentinel, .sentinel, .pinned], laidTests := true, laidLooks := .later }
def CoverOtherUptoCardSaid : Prop := Claim7.holds Tryz.pinned (.plain (OpenSpec.upto coverOtherSpec)) coverOtherUptoCard

/-- THE SECOND FORM's CARD OF 'calquelaw29.VariantsOne'. -/
def variantsOneUptoCard : Claim7 := { stood := { row := variantsOneUptoRow, standIns := [], harness := (true, "c642ca21844fff264c3d82b052719e5a231fc9259ffcc4451e619313e69de75e"), looks := true }, kinds := [], alts := [], laidByText := true, laidKinds := [.data, .data, .data, .data, .sentinel, .sentinel, .pinned], laidTests := true, laidLooks := .later }
def VariantsOneUptoCardSaid : Prop := Claim7.holds Tryz.pinned (.plain (OpenSpec.upto variantsOneSpec)) variantsOneUptoCard

/-- THE SECOND FORM's CARD OF 'calquelaw30.CoverChosen'. -/
def coverChosenUptoCard : Claim7 := { stood := { row := coverChosenUptoRow, standIns := [], harness := (true, "c642ca21844fff264c3d82b052719e5a231fc9259ffcc4451e619313e69de75e"), looks := true }, kinds := [], alts := [], laidByText := true, laidKinds := [.data, .data, .data, .data, .sentinel, .sentinel, .pinned], laidTests := true, laidLooks := .later }
def CoverChosenUptoCardSaid : Prop := Claim7.holds Tryz.pinned (.plain (OpenSpec.upto coverChosenSpec)) coverChosenUptoCard
end Rows
end Go.Proofs.YtejdblkohdbhaaaGreatDoor
