/- The law's Array. (By genLar.py.) -/
import Derived.Test.YtmhfioimgllgeaaGreatDoorV31
namespace Go.Proofs.YtmhfioimgllgeaaGreatDoor
open Go Go.RowKit Go.Shelf
/-- Raw numbers. -/
structure Rw where
 k:Int
 m:Int
 e:Int
 s:ByteArray
 b:Bool
structure RwOk (z:Rw):Prop where
 k:i64R z.k
 m:i64R z.m
 e:i64R z.e
 s:z.s.size≤9223372036854775807
abbrev Rw.c (z:Rw):Array Value:=rawC z.k z.m z.e z.s z.b
abbrev Rw.v (z:Rw):Vl:=valP z.k z.m z.e z.s z.b
end Go.Proofs.YtmhfioimgllgeaaGreatDoor
