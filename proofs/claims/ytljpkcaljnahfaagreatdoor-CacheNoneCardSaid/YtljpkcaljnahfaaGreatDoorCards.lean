/-
  DERIVED. GIVEN WITH THE SEED: THE CARDS: each row of YtljpkcaljnahfaaGreatDoorRows.lean that lists a variable, with what it lists TIED to the program's text (the seventh form; the later family's looks); each row that meets fmt, with fmt's text TOLD by the authors' own Lean function (tested against real Go, not proved from fmt's source: count such statements apart). THE CARD IS WHAT COUNTS. Prove the row's statement (the work); the ties are given (YtljpkcaljnahfaaGreatDoorTie.lean); close each card by the builder's one call (the guide's Derived/Test/ToyasCard.lean, 'card_holds'). Laid BY PROGRAM, IN A SANDBOX (cutbox-door.mjs). By AI agents, Wed Nov 11 2026. No macro, syntax, notation, axiom, sorry.
-/
import Derived.Test.YtljpkcaljnahfaaGreatDoorRows
import GoSem.ClaimSeven
namespace Go.Proofs.YtljpkcaljnahfaaGreatDoor
namespace Rows

/-- THE TIED CARD OF 'headgatelaw09.CacheAlike'. -/
def cacheAlikeCard : Claim7 := { stood := { row := cacheAlikeRow, standIns := [], harness := (true, "afd27d971d7bfc63c72e3a7e9b817487210ebf6e836618adc743a963e27b63a3"), looks := true }, kinds := [], alts := [], laidByText := true, laidKinds := [.data], laidTests := true, laidLooks := .later }
def CacheAlikeCardSaid : Prop := Claim7.holds Tryz.pinned (.plain (OpenSpec.ofChange cacheAlikeSpec)) cacheAlikeCard

/-- THE TIED CARD OF 'headgatelaw09.CacheNone'. -/
def cacheNoneCard : Claim7 := { stood := { row := cacheNoneRow, standIns := [], harness := (true, "afd27d971d7bfc63c72e3a7e9b817487210ebf6e836618adc743a963e27b63a3"), looks := true }, kinds := [], alts := [], laidByText := true, laidKinds := [.data], laidTests := true, laidLooks := .later }
def CacheNoneCardSaid : Prop := Claim7.holds Tryz.pinned (.plain (OpenSpec.ofChange cacheNoneSpec)) cacheNoneCard

/-- THE TIED CARD OF 'headgatelaw09.CacheFlush'. -/
def cacheFlushCard : Claim7 := { stood := { row := cacheFlushRow, standIns := [], harness := (true, "afd27d971d7bfc63c72e3a7e9b817487210ebf6e836618adc743a963e27b63a3"), looks := true }, kinds := [], alts := [], laidByText := true, laidKinds := [.data], laidTests := true, laidLooks := .later }
def CacheFlushCardSaid : Prop := Claim7.holds Tryz.pinned (.plain (OpenSpec.ofChange cacheFlushSpec)) cacheFlushCard

/-- THE TIED CARD OF 'headgatelaw08.StoreWhole'. -/
def storeWholeCard : Claim7 := { stood := { row := storeWholeRow, standIns := [], harness := (true, "afd27d971d7bfc63c72e3a7e9b817487210ebf6e836618adc743a963e27b63a3"), looks := true }, kinds := [], alts := [], laidByText := true, laidKinds := [.data, .data, .pinned], laidTests := true, laidLooks := .later }
def StoreWholeCardSaid : Prop := Claim7.holds Tryz.pinned (.plain (OpenSpec.ofChange storeWholeSpec)) storeWholeCard

/-- THE TIED CARD OF 'headgatelaw08.StoreLong'. -/
def storeLongCard : Claim7 := { stood := { row := storeLongRow, standIns := [], harness := (true, "afd27d971d7bfc63c72e3a7e9b817487210ebf6e836618adc743a963e27b63a3"), looks := true }, kinds := [], alts := [], laidByText := true, laidKinds := [.data, .data, .pinned], laidTests := true, laidLooks := .later }
def StoreLongCardSaid : Prop := Claim7.holds Tryz.pinned (.plain (OpenSpec.ofChange storeLongSpec)) storeLongCard

/-- THE TIED CARD OF 'headgatelaw08.StoreNone'. -/
def storeNoneCard : Claim7 := { stood := { row := storeNoneRow, standIns := [], harness := (true, "afd27d971d7bfc63c72e3a7e9b817487210ebf6e836618adc743a963e27b63a3"), looks := true }, kinds := [], alts := [], laidByText := true, laidKinds := [.data, .data, .pinned], laidTests := true, laidLooks := .later }
def StoreNoneCardSaid : Prop := Claim7.holds Tryz.pinned (.plain (OpenSpec.ofChange storeNoneSpec)) storeNoneCard

/-- THE TIED CARD OF 'headgatelaw08.StoreApart'. -/
def storeApartCard : Claim7 := { stood := { row := storeApartRow, standIns := [], harness := (true, "afd27d971d7bfc63c72e3a7e9b817487210ebf6e836618adc743a963e27b63a3"), looks := true }, kinds := [], alts := [], laidByText := true, laidKinds := [.data, .data, .pinned], laidTests := true, laidLooks := .later }
def StoreApartCardSaid : Prop := Claim7.holds Tryz.pinned (.plain (OpenSpec.ofChange storeApartSpec)) storeApartCard

/-- THE TIED CARD OF 'headgatelaw09.CacheCrash'. -/
def cacheCrashCard : Claim7 := { stood := { row := cacheCrashRow, standIns := [], harness := (true, "afd27d971d7bfc63c72e3a7e9b817487210ebf6e836618adc743a963e27b63a3"), looks := true }, kinds := [], alts := [], laidByText := true, laidKinds := [.data, .data, .pinned], laidTests := true, laidLooks := .later }
def CacheCrashCardSaid : Prop := Claim7.holds Tryz.pinned (.plain (OpenSpec.ofChange cacheCrashSpec)) cacheCrashCard

/-- THE TIED CARD OF 'headgatelaw09.CacheDown'. -/
def cacheDownCard : Claim7 := { stood := { row := cacheDownRow, standIns := [], harness := (true, "afd27d971d7bfc63c72e3a7e9b817487210ebf6e836618adc743a963e27b63a3"), looks := true }, kinds := [], alts := [], laidByText := true, laidKinds := [.data, .data, .pinned], laidTests := true, laidLooks := .later }
def CacheDownCardSaid : Prop := Claim7.holds Tryz.pinned (.plain (OpenSpec.ofChange cacheDownSpec)) cacheDownCard

/-- THE SECOND FORM's CARD OF 'headgatelaw09.CacheAlike'. -/
def cacheAlikeUptoCard : Claim7 := { stood := { row := cacheAlikeUptoRow, standIns := [], harness := (true, "afd27d971d7bfc63c72e3a7e9b817487210ebf6e836618adc743a963e27b63a3"), looks := true }, kinds := [], alts := [], laidByText := true, laidKinds := [.data], laidTests := true, laidLooks := .later }
def CacheAlikeUptoCardSaid : Prop := Claim7.holds Tryz.pinned (.plain (OpenSpec.upto cacheAlikeSpec)) cacheAlikeUptoCard

/-- THE SECOND FORM's CARD OF 'headgatelaw09.CacheNone'. -/
def cacheNoneUptoCard : Claim7 := { stood := { row := cacheNoneUptoRow, standIns := [], harness := (true, "afd27d971d7bfc63c72e3a7e9b817487210ebf6e836618adc743a963e27b63a3"), looks := true }, kinds := [], alts := [], laidByText := true, laidKinds := [.data], laidTests := true, laidLooks := .later }
def CacheNoneUptoCardSaid : Prop := Claim7.holds Tryz.pinned (.plain (OpenSpec.upto cacheNoneSpec)) cacheNoneUptoCard

/-- THE SECOND FORM's CARD OF 'headgatelaw09.CacheFlush'. -/
def cacheFlushUptoCard : Claim7 := { stood := { row := cacheFlushUptoRow, standIns := [], harness := (true, "afd27d971d7bfc63c72e3a7e9b817487210ebf6e836618adc743a963e27b63a3"), looks := true }, kinds := [], alts := [], laidByText := true, laidKinds := [.data], laidTests := true, laidLooks := .later }
def CacheFlushUptoCardSaid : Prop := Claim7.holds Tryz.pinned (.plain (OpenSpec.upto cacheFlushSpec)) cacheFlushUptoCard

/-- THE SECOND FORM's CARD OF 'headgatelaw08.StoreWhole'. -/
def storeWholeUptoCard : Claim7 := { stood := { row := storeWholeUptoRow, standIns := [], harness := (true, "afd27d971d7bfc63c72e3a7e9b817487210ebf6e836618adc743a963e27b63a3"), looks := true }, kinds := [], alts := [], laidByText := true, laidKinds := [.data, .data, .pinned], laidTests := true, laidLooks := .later }
def StoreWholeUptoCardSaid : Prop := Claim7.holds Tryz.pinned (.plain (OpenSpec.upto storeWholeSpec)) storeWholeUptoCard

/-- THE SECOND FORM's CARD OF 'headgatelaw08.StoreLong'. -/
def storeLongUptoCard : Claim7 := { stood := { row := storeLongUptoRow, standIns := [], harness := (true, "afd27d971d7bfc63c72e3a7e9b817487210ebf6e836618adc743a963e27b63a3"), looks := true }, kinds := [], alts := [], laidByText := true, laidKinds := [.data, .data, .pinned], laidTests := true, laidLooks := .later }
def StoreLongUptoCardSaid : Prop := Claim7.holds Tryz.pinned (.plain (OpenSpec.upto storeLongSpec)) storeLongUptoCard

/-- THE SECOND FORM's CARD OF 'headgatelaw08.StoreNone'. -/
def storeNoneUptoCard : Claim7 := { stood := { row := storeNoneUptoRow, standIns := [], harness := (true, "afd27d971d7bfc63c72e3a7e9b817487210ebf6e836618adc743a963e27b63a3"), looks := true }, kinds := [], alts := [], laidByText := true, laidKinds := [.data, .data, .pinned], laidTests := true, laidLooks := .later }
def StoreNoneUptoCardSaid : Prop := Claim7.holds Tryz.pinned (.plain (OpenSpec.upto storeNoneSpec)) storeNoneUptoCard

/-- THE SECOND FORM's CARD OF 'headgatelaw08.StoreApart'. -/
def storeApartUptoCard : Claim7 := { stood := { row := storeApartUptoRow, standIns := [], harness := (true, "afd27d971d7bfc63c72e3a7e9b817487210ebf6e836618adc743a963e27b63a3"), looks := true }, kinds := [], alts := [], laidByText := true, laidKinds := [.data, .data, .pinned], laidTests := true, laidLooks := .later }
def StoreApartUptoCardSaid : Prop := Claim7.holds Tryz.pinned (.plain (OpenSpec.upto storeApartSpec)) storeApartUptoCard

/-- THE SECOND FORM's CARD OF 'headgatelaw09.CacheCrash'. -/
def cacheCrashUptoCard : Claim7 := { stood := { row := cacheCrashUptoRow, standIns := [], harness := (true, "afd27d971d7bfc63c72e3a7e9b817487210ebf6e836618adc743a963e27b63a3"), looks := true }, kinds := [], alts := [], laidByText := true, laidKinds := [.data, .data, .pinned], laidTests := true, laidLooks := .later }
def CacheCrashUptoCardSaid : Prop := Claim7.holds Tryz.pinned (.plain (OpenSpec.upto cacheCrashSpec)) cacheCrashUptoCard

/-- THE SECOND FORM's CARD OF 'headgatelaw09.CacheDown'. -/
def cacheDownUptoCard : Claim7 := { stood := { row := cacheDownUptoRow, standIns := [], harness := (true, "afd27d971d7bfc63c72e3a7e9b817487210ebf6e836618adc743a963e27b63a3"), looks := true }, kinds := [], alts := [], laidByText := true, laidKinds := [.data, .data, .pinned], laidTests := true, laidLooks := .later }
def CacheDownUptoCardSaid : Prop := Claim7.holds Tryz.pinned (.plain (OpenSpec.upto cacheDownSpec)) cacheDownUptoCard
end Rows
end Go.Proofs.YtljpkcaljnahfaaGreatDoor
