/- A header's fields, as numbers; its cells. -/
import Derived.Test.YtodaanhhnjkncaaDoorTys
namespace Go.Proofs.YtodaanhhnjkncaaDoor
open Go.RowKit

/-- The fields of a header, as numbers. -/
structure Hd where
  port : Int
  src : Nat → Int
  dst : Nat → Int
  ty : Int
  sip : Int
  dip : Int
  proto : Int
  sp : Int
  dp : Int
def Hd.zero : Hd := ⟨0, fun _ => 0, fun _ => 0, 0, 0, 0, 0, 0, 0⟩
def hdL (H : Hd) : List Value := [
  .int .i64 H.port, .int .u8 (H.src 0), .int .u8 (H.src 1), .int .u8 (H.src 2), .int .u8 (H.src 3), .int .u8 (H.src 4), .int .u8 (H.src 5),
  .int .u8 (H.dst 0), .int .u8 (H.dst 1), .int .u8 (H.dst 2), .int .u8 (H.dst 3), .int .u8 (H.dst 4), .int .u8 (H.dst 5),
  .int .i64 H.ty, .int .u32 H.sip, .int .u32 H.dip, .int .i64 H.proto, .int .i64 H.sp, .int .i64 H.dp]
/-- The cells of a header. -/
def hdCells (H : Hd) : Array Value := (hdL H).toArray
end Go.Proofs.YtodaanhhnjkncaaDoor
