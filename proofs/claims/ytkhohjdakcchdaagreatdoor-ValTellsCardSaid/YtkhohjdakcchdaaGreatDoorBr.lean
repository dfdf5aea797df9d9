/- tabularef03.Make; val.copied at plain values; val.Get and tabularef03.Get at any place of a plain value or an array. -/
import Derived.Test.YtkhohjdakcchdaaGreatDoorBq
namespace Go.Proofs.YtkhohjdakcchdaaGreatDoor
open Go Go.RowKit Go.Shelf
theorem arr_ok' {r c:Int} {l:List Vl} (h1:i64R r) (h2:i64R c):VOk (arrV r c l):=⟨(show i64R 5 from i64_one (by decide) (by decide)),i64_zero,i64_zero,(show(⟨#[]⟩:ByteArray).size≤1000 by decide),i64_zero,h1,h2,i64_zero⟩
end Go.Proofs.YtkhohjdakcchdaaGreatDoor
