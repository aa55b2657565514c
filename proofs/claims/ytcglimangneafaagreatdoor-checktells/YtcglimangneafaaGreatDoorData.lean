import Derived.Test.YtcglimangneafaaGreatDoorProg
import Derived.Test.YtcglimangneafaaGreatDoorAbsE
import Derived.Test.YtcglimangneafaaGreatDoorAbsI
set_option linter.unusedSimpArgs false
set_option linter.unusedVariables false
namespace Go.Proofs.YtcglimangneafaaGreatDoor
open Go Go.Abs
def tt :TT:=[
  none,
  some ⟨1,false,[.nilFunc], .other,false⟩,
  some ⟨1,false,[.int .i64 0], .int .i64,true⟩,
  some ⟨1,false,[.int .i64 0], .int .i64,true⟩,
  some ⟨1,false,[.bool false], .bool,true⟩,
  some ⟨1,false,[.int .u8 0], .int .u8,true⟩,
  some ⟨1,false,[.int .u8 0], .int .u8,true⟩,
  some ⟨4,true,[.int .i64 0, .int .i64 0, .bool false, .int .u8 0], .struct [(2,0),(3,1),(4,2),(6,3)],true⟩,
  some ⟨4,true,[.int .i64 0, .int .i64 0, .bool false, .int .u8 0], .struct [(2,0),(3,1),(4,2),(6,3)],true⟩,
  some ⟨1,false,[.string ⟨#[]⟩], .str,true⟩,
  some ⟨1,false,[.string ⟨#[]⟩], .str,true⟩,
  some ⟨1,false,[.string ⟨#[]⟩], .str,true⟩,
  some ⟨1,false,[.int .u64 0], .int .u64,true⟩,
  some ⟨2,true,[.string ⟨#[]⟩, .int .u64 0], .struct [(9,0),(12,1)],false⟩,
  some ⟨2,true,[.string ⟨#[]⟩, .int .u64 0], .struct [(9,0),(12,1)],false⟩,
  some ⟨1,false,[.pointer none], .other,false⟩,
  some ⟨1,false,[.pointer none], .other,false⟩,
  some ⟨1,false,[.pointer none], .other,false⟩,
  some ⟨1,true,[.pointer none], .struct [(17,0)],false⟩,
  some ⟨1,true,[.pointer none], .struct [(17,0)],false⟩,
  some ⟨1,false,[.nilIface], .other,false⟩,
  some ⟨1,false,[.int .i32 0], .int .i32,true⟩,
  some ⟨1,false,[.slice none 0 0], .slice 43,false⟩,
  some ⟨1,true,[.slice none 0 0], .struct [(22,0)],false⟩,
  some ⟨1,true,[.slice none 0 0], .struct [(22,0)],false⟩,
  some ⟨1,false,[.slice none 0 0], .slice 108,false⟩,
  some ⟨1,true,[.slice none 0 0], .struct [(25,0)],false⟩,
  some ⟨1,true,[.slice none 0 0], .struct [(25,0)],false⟩,
  some ⟨1,false,[.nilFunc], .other,false⟩,
  some ⟨1,false,[.nilFunc], .other,false⟩,
  some ⟨1,false,[.int .i64 0], .int .i64,true⟩,
  some ⟨1,false,[.nilFunc], .other,false⟩,
  some ⟨1,false,[.nilFunc], .other,false⟩,
  some ⟨1,false,[.nilFunc], .other,false⟩,
  some ⟨1,false,[.nilFunc], .other,false⟩,
  some ⟨1,false,[.slice none 0 0], .slice 45,false⟩,
  some ⟨1,false,[.nilFunc], .other,false⟩,
  some ⟨1,false,[.slice none 0 0], .slice 98,false⟩,
  some ⟨1,false,[.slice none 0 0], .slice 3,false⟩,
  some ⟨1,false,[.slice none 0 0], .slice 75,false⟩,
  some ⟨1,false,[.slice none 0 0], .slice 49,false⟩,
  some ⟨1,false,[.slice none 0 0], .slice 63,false⟩,
  some ⟨6,true,[.string ⟨#[]⟩, .slice none 0 0, .slice none 0 0, .slice none 0 0, .slice none 0 0, .slice none 0 0], .struct [(9,0),(37,1),(38,2),(39,3),(40,4),(41,5)],false⟩,
  some ⟨6,true,[.string ⟨#[]⟩, .slice none 0 0, .slice none 0 0, .slice none 0 0, .slice none 0 0, .slice none 0 0], .struct [(9,0),(37,1),(38,2),(39,3),(40,4),(41,5)],false⟩,
  some ⟨1,false,[.slice none 0 0], .slice 47,false⟩,
  some ⟨1,false,[.slice none 0 0], .slice 47,false⟩,
  some ⟨3,true,[.int .i64 0, .int .i64 0, .string ⟨#[]⟩], .struct [(3,0),(3,1),(9,2)],true⟩,
  some ⟨3,true,[.int .i64 0, .int .i64 0, .string ⟨#[]⟩], .struct [(3,0),(3,1),(9,2)],true⟩,
  some ⟨3,true,[.int .i64 0, .int .i64 0, .int .i64 0], .struct [(3,0),(3,1),(3,2)],true⟩,
  some ⟨3,true,[.int .i64 0, .int .i64 0, .int .i64 0], .struct [(3,0),(3,1),(3,2)],true⟩,
  some ⟨1,false,[.slice none 0 0], .slice 112,false⟩,
  some ⟨1,false,[.slice none 0 0], .slice 138,false⟩,
  some ⟨3,true,[.int .i64 0, .slice none 0 0, .slice none 0 0], .struct [(3,0),(50,1),(51,2)],false⟩,
  some ⟨3,true,[.int .i64 0, .slice none 0 0, .slice none 0 0], .struct [(3,0),(50,1),(51,2)],false⟩,
  none,
  some ⟨1,false,[.nilFunc], .other,false⟩,
  some ⟨1,false,[.slice none 0 0], .slice 5,false⟩,
  some ⟨1,false,[.nilFunc], .other,false⟩,
  some ⟨1,false,[.nilFunc], .other,false⟩,
  some ⟨1,false,[.nilFunc], .other,false⟩,
  some ⟨1,false,[.nilFunc], .other,false⟩,
  some ⟨1,false,[.nilFunc], .other,false⟩,
  some ⟨3,true,[.int .i64 0, .int .i64 0, .int .i64 0], .struct [(3,0),(3,1),(3,2)],true⟩,
  some ⟨3,true,[.int .i64 0, .int .i64 0, .int .i64 0], .struct [(3,0),(3,1),(3,2)],true⟩,
  some ⟨1,false,[.nilFunc], .other,false⟩,
  some ⟨1,false,[.nilFunc], .other,false⟩,
  some ⟨1,false,[.nilFunc], .other,false⟩,
  some ⟨1,false,[.slice none 0 0], .slice 69,false⟩,
  some ⟨1,false,[.nilFunc], .other,false⟩,
  some ⟨2,true,[.int .i64 0, .int .i64 0], .arr 2 3,true⟩,
  some ⟨1,false,[.nilFunc], .other,false⟩,
  some ⟨1,false,[.nilFunc], .other,false⟩,
  some ⟨1,false,[.nilFunc], .other,false⟩,
  some ⟨1,false,[.nilFunc], .other,false⟩,
  some ⟨6,true,[.int .i64 0, .int .i64 0, .int .i64 0, .int .i64 0, .string ⟨#[]⟩, .slice none 0 0], .struct [(3,0),(3,1),(47,2),(39,5)],false⟩,
  some ⟨6,true,[.int .i64 0, .int .i64 0, .int .i64 0, .int .i64 0, .string ⟨#[]⟩, .slice none 0 0], .struct [(3,0),(3,1),(47,2),(39,5)],false⟩,
  some ⟨1,false,[.nilFunc], .other,false⟩,
  some ⟨8,true,[.string ⟨#[]⟩, .slice none 0 0, .slice none 0 0, .slice none 0 0, .slice none 0 0, .slice none 0 0, .slice none 0 0, .slice none 0 0], .struct [(43,0),(35,6),(27,7)],false⟩,
  some ⟨8,true,[.string ⟨#[]⟩, .slice none 0 0, .slice none 0 0, .slice none 0 0, .slice none 0 0, .slice none 0 0, .slice none 0 0, .slice none 0 0], .struct [(43,0),(35,6),(27,7)],false⟩,
  some ⟨1,false,[.nilFunc], .other,false⟩,
  some ⟨1,false,[.nilFunc], .other,false⟩,
  some ⟨5,true,[.nilFunc, .nilFunc, .nilFunc, .nilFunc, .nilFunc], .arr 5 79,false⟩,
  some ⟨1,false,[.nilFunc], .other,false⟩,
  some ⟨1,false,[.nilFunc], .other,false⟩,
  some ⟨1,false,[.nilFunc], .other,false⟩,
  some ⟨1,false,[.map none], .map 3 3,false⟩,
  none,
  some ⟨1,false,[.nilFunc], .other,false⟩,
  some ⟨1,false,[.nilFunc], .other,false⟩,
  some ⟨1,false,[.slice none 0 0], .slice 53,false⟩,
  some ⟨1,false,[.slice none 0 0], .slice 53,false⟩,
  some ⟨3,true,[.slice none 0 0, .slice none 0 0, .int .i64 0], .struct [(90,0),(27,1),(3,2)],false⟩,
  some ⟨3,true,[.slice none 0 0, .slice none 0 0, .int .i64 0], .struct [(90,0),(27,1),(3,2)],false⟩,
  none,
  some ⟨1,false,[.nilFunc], .other,false⟩,
  none,
  some ⟨1,false,[.nilFunc], .other,false⟩,
  some ⟨4,true,[.string ⟨#[]⟩, .int .i64 0, .int .i64 0, .bool false], .struct [(9,0),(3,1),(3,2),(4,3)],true⟩,
  some ⟨4,true,[.string ⟨#[]⟩, .int .i64 0, .int .i64 0, .bool false], .struct [(9,0),(3,1),(3,2),(4,3)],true⟩,
  some ⟨1,false,[.slice none 0 0], .slice 103,false⟩,
  some ⟨1,false,[.nilFunc], .other,false⟩,
  some ⟨1,false,[.nilFunc], .other,false⟩,
  some ⟨1,true,[.nilFunc], .struct [(101,0)],false⟩,
  some ⟨1,true,[.nilFunc], .struct [(101,0)],false⟩,
  some ⟨1,false,[.nilFunc], .other,false⟩,
  some ⟨1,false,[.nilFunc], .other,false⟩,
  some ⟨1,false,[.nilFunc], .other,false⟩,
  some ⟨1,true,[.slice none 0 0], .struct [(89,0)],false⟩,
  some ⟨1,true,[.slice none 0 0], .struct [(89,0)],false⟩,
  some ⟨1,false,[.nilFunc], .other,false⟩,
  some ⟨1,false,[.slice none 0 0], .slice 166,false⟩,
  some ⟨5,true,[.int .i64 0, .int .i64 0, .int .i64 0, .string ⟨#[]⟩, .slice none 0 0], .struct [(3,0),(47,1),(110,4)],false⟩,
  some ⟨5,true,[.int .i64 0, .int .i64 0, .int .i64 0, .string ⟨#[]⟩, .slice none 0 0], .struct [(3,0),(47,1),(110,4)],false⟩,
  some ⟨1,false,[.nilFunc], .other,false⟩,
  some ⟨1,false,[.nilFunc], .other,false⟩,
  some ⟨1,false,[.nilFunc], .other,false⟩,
  some ⟨1,false,[.nilFunc], .other,false⟩,
  some ⟨1,false,[.nilFunc], .other,false⟩,
  some ⟨1,false,[.nilFunc], .other,false⟩,
  none,
  some ⟨1,false,[.nilFunc], .other,false⟩,
  some ⟨1,false,[.nilFunc], .other,false⟩,
  some ⟨1,false,[.map none], .map 3 4,false⟩,
  none,
  some ⟨1,false,[.nilFunc], .other,false⟩,
  some ⟨1,false,[.nilFunc], .other,false⟩,
  some ⟨1,false,[.nilFunc], .other,false⟩,
  some ⟨1,false,[.nilFunc], .other,false⟩,
  some ⟨1,false,[.nilFunc], .other,false⟩,
  some ⟨1,false,[.nilFunc], .other,false⟩,
  some ⟨1,false,[.nilFunc], .other,false⟩,
  some ⟨1,false,[.nilFunc], .other,false⟩,
  some ⟨1,false,[.nilFunc], .other,false⟩,
  some ⟨1,false,[.nilFunc], .other,false⟩,
  some ⟨1,false,[.nilFunc], .other,false⟩,
  some ⟨1,false,[.nilFunc], .other,false⟩,
  some ⟨1,false,[.nilFunc], .other,false⟩,
  some ⟨2,true,[.int .i64 0, .int .i64 0], .struct [(3,0),(3,1)],true⟩,
  some ⟨2,true,[.int .i64 0, .int .i64 0], .struct [(3,0),(3,1)],true⟩,
  some ⟨1,false,[.nilFunc], .other,false⟩,
  some ⟨1,false,[.nilFunc], .other,false⟩,
  some ⟨1,false,[.nilFunc], .other,false⟩,
  some ⟨1,false,[.nilFunc], .other,false⟩,
  some ⟨1,false,[.nilFunc], .other,false⟩,
  some ⟨1,false,[.nilFunc], .other,false⟩,
  some ⟨1,false,[.nilFunc], .other,false⟩,
  some ⟨1,false,[.nilFunc], .other,false⟩,
  some ⟨1,false,[.nilFunc], .other,false⟩,
  some ⟨1,false,[.nilFunc], .other,false⟩,
  some ⟨1,false,[.nilFunc], .other,false⟩,
  some ⟨1,false,[.nilFunc], .other,false⟩,
  some ⟨1,false,[.nilFunc], .other,false⟩,
  some ⟨1,false,[.nilFunc], .other,false⟩,
  some ⟨1,false,[.nilFunc], .other,false⟩,
  some ⟨1,false,[.nilFunc], .other,false⟩,
  some ⟨1,false,[.nilFunc], .other,false⟩,
  some ⟨1,false,[.nilFunc], .other,false⟩,
  some ⟨1,false,[.nilFunc], .other,false⟩,
  some ⟨1,false,[.nilFunc], .other,false⟩,
  some ⟨1,false,[.nilFunc], .other,false⟩,
  some ⟨1,false,[.nilFunc], .other,false⟩,
  some ⟨1,false,[.nilFunc], .other,false⟩,
  some ⟨1,false,[.nilFunc], .other,false⟩,
  some ⟨1,false,[.nilFunc], .other,false⟩,
  some ⟨1,false,[.nilFunc], .other,false⟩,
  some ⟨11,true,[.int .i64 0, .int .i64 0, .string ⟨#[]⟩, .int .i64 0, .int .i64 0, .int .i64 0, .int .i64 0, .int .i64 0, .int .i64 0, .int .i64 0, .bool false], .struct [(47,0),(138,3),(3,5),(3,6),(138,7),(3,9),(4,10)],true⟩,
  some ⟨11,true,[.int .i64 0, .int .i64 0, .string ⟨#[]⟩, .int .i64 0, .int .i64 0, .int .i64 0, .int .i64 0, .int .i64 0, .int .i64 0, .int .i64 0, .bool false], .struct [(47,0),(138,3),(3,5),(3,6),(138,7),(3,9),(4,10)],true⟩,
  some ⟨1,false,[.nilFunc], .other,false⟩,
  some ⟨1,false,[.nilFunc], .other,false⟩,
  some ⟨3,true,[.int .i64 0, .bool false, .nilFunc], .struct [(3,0),(4,1),(168,2)],false⟩,
  some ⟨3,true,[.int .i64 0, .bool false, .nilFunc], .struct [(3,0),(4,1),(168,2)],false⟩,
  some ⟨1,false,[.map none], .map 3 170,false⟩,
  some ⟨1,false,[.nilFunc], .other,false⟩,
  some ⟨1,false,[.nilFunc], .other,false⟩,
  some ⟨1,false,[.nilFunc], .other,false⟩,
  some ⟨1,false,[.nilFunc], .other,false⟩,
  some ⟨1,false,[.nilFunc], .other,false⟩,
  some ⟨6,true,[.int .i64 0, .int .i64 0, .string ⟨#[]⟩, .int .i64 0, .int .i64 0, .string ⟨#[]⟩], .arr 2 47,true⟩,
  some ⟨1,false,[.nilFunc], .other,false⟩,
  some ⟨1,false,[.nilFunc], .other,false⟩,
  some ⟨1,false,[.nilFunc], .other,false⟩,
  none,
  none,
  none,
  some ⟨1,false,[.nilFunc], .other,false⟩,
  some ⟨1,false,[.nilFunc], .other,false⟩,
  some ⟨1,false,[.pointer none], .other,false⟩,
  some ⟨1,false,[.nilFunc], .other,false⟩,
  some ⟨1,false,[.nilFunc], .other,false⟩,
  some ⟨1,false,[.nilFunc], .other,false⟩,
  some ⟨1,false,[.nilFunc], .other,false⟩,
  some ⟨1,false,[.nilFunc], .other,false⟩,
  some ⟨3,true,[.int .i64 0, .int .i64 0, .int .i64 0], .struct [(3,0),(138,1)],true⟩,
  some ⟨3,true,[.int .i64 0, .int .i64 0, .int .i64 0], .struct [(3,0),(138,1)],true⟩,
  some ⟨1,false,[.nilFunc], .other,false⟩,
  some ⟨1,false,[.nilFunc], .other,false⟩,
  some ⟨1,false,[.map none], .map 223 166,false⟩,
  none,
  some ⟨1,false,[.nilFunc], .other,false⟩,
  some ⟨1,false,[.nilFunc], .other,false⟩,
  some ⟨1,false,[.nilFunc], .other,false⟩,
  some ⟨1,false,[.nilFunc], .other,false⟩,
  some ⟨1,false,[.nilFunc], .other,false⟩,
  some ⟨1,false,[.nilFunc], .other,false⟩,
  some ⟨1,false,[.nilFunc], .other,false⟩,
  none,
  some ⟨1,false,[.nilFunc], .other,false⟩,
  some ⟨1,false,[.nilFunc], .other,false⟩,
  some ⟨1,false,[.nilFunc], .other,false⟩,
  some ⟨1,false,[.nilFunc], .other,false⟩,
  some ⟨1,false,[.nilFunc], .other,false⟩,
  none,
  some ⟨1,false,[.nilFunc], .other,false⟩,
  some ⟨1,false,[.nilFunc], .other,false⟩,
  some ⟨1,false,[.nilFunc], .other,false⟩,
  some ⟨1,false,[.nilFunc], .other,false⟩,
  some ⟨1,false,[.nilFunc], .other,false⟩,
  none,
  some ⟨1,false,[.nilFunc], .other,false⟩,
  some ⟨1,false,[.nilFunc], .other,false⟩,
  some ⟨1,false,[.map none], .map 138 3,false⟩,
  none,
  some ⟨3,true,[.int .i64 0, .int .i64 0, .int .i64 0], .struct [(138,0),(3,2)],true⟩,
  some ⟨3,true,[.int .i64 0, .int .i64 0, .int .i64 0], .struct [(138,0),(3,2)],true⟩,
  some ⟨1,false,[.nilFunc], .other,false⟩,
  some ⟨1,false,[.nilFunc], .other,false⟩,
  some ⟨1,false,[.map none], .map 223 110,false⟩,
  some ⟨1,false,[.nilFunc], .other,false⟩,
  some ⟨1,false,[.nilFunc], .other,false⟩,
  some ⟨1,false,[.nilFunc], .other,false⟩,
  some ⟨1,false,[.nilFunc], .other,false⟩,
  some ⟨1,false,[.nilFunc], .other,false⟩,
  some ⟨1,false,[.nilFunc], .other,false⟩,
  some ⟨1,false,[.nilFunc], .other,false⟩,
  some ⟨1,false,[.int .u64 0], .int .u64,true⟩,
  some ⟨1,false,[.nilFunc], .other,false⟩,
  some ⟨3,true,[.int .i64 0, .int .i64 0, .int .i64 0], .struct [(3,0),(3,1),(3,2)],true⟩,
  some ⟨3,true,[.int .i64 0, .int .i64 0, .int .i64 0], .struct [(3,0),(3,1),(3,2)],true⟩,
  some ⟨1,false,[.nilFunc], .other,false⟩,
  some ⟨1,false,[.nilFunc], .other,false⟩,
  some ⟨1,false,[.nilFunc], .other,false⟩,
  some ⟨1,false,[.nilFunc], .other,false⟩,
  some ⟨1,false,[.nilFunc], .other,false⟩,
  some ⟨1,false,[.nilFunc], .other,false⟩,
  some ⟨1,false,[.nilFunc], .other,false⟩,
  some ⟨1,false,[.nilFunc], .other,false⟩,
  some ⟨1,false,[.nilFunc], .other,false⟩,
  some ⟨1,false,[.int .i64 0], .int .i64,true⟩,
  none,
  some ⟨1,false,[.nilFunc], .other,false⟩,
  some ⟨1,false,[.nilFunc], .other,false⟩,
  some ⟨1,false,[.nilFunc], .other,false⟩,
  some ⟨1,false,[.nilFunc], .other,false⟩,
  some ⟨1,false,[.nilFunc], .other,false⟩,
  some ⟨1,false,[.nilFunc], .other,false⟩,
  some ⟨1,false,[.int .u32 0], .int .u32,true⟩,
  some ⟨1,false,[.nilFunc], .other,false⟩,
  some ⟨1,false,[.int .u64 0], .int .u64,true⟩,
  some ⟨1,false,[.nilFunc], .other,false⟩,
  some ⟨1,false,[.nilFunc], .other,false⟩,
  some ⟨1,false,[.nilFunc], .other,false⟩,
  none,
  some ⟨2,true,[.int .u8 0, .int .u8 0], .struct [(5,0),(5,1)],true⟩,
  some ⟨2,true,[.int .u8 0, .int .u8 0], .struct [(5,0),(5,1)],true⟩,
  some ⟨32,true,[.int .u8 0, .int .u8 0, .int .u8 0, .int .u8 0, .int .u8 0, .int .u8 0, .int .u8 0, .int .u8 0, .int .u8 0, .int .u8 0, .int .u8 0, .int .u8 0, .int .u8 0, .int .u8 0, .int .u8 0, .int .u8 0, .int .u8 0, .int .u8 0, .int .u8 0, .int .u8 0, .int .u8 0, .int .u8 0, .int .u8 0, .int .u8 0, .int .u8 0, .int .u8 0, .int .u8 0, .int .u8 0, .int .u8 0, .int .u8 0, .int .u8 0, .int .u8 0], .arr 16 263,true⟩,
  some ⟨1,false,[.nilFunc], .other,false⟩,
  none,
  some ⟨1,false,[.nilFunc], .other,false⟩,
  some ⟨1,false,[.nilFunc], .other,false⟩,
  some ⟨1,false,[.nilFunc], .other,false⟩,
  some ⟨1,false,[.nilFunc], .other,false⟩,
  some ⟨1,false,[.nilFunc], .other,false⟩,
  some ⟨1,false,[.nilFunc], .other,false⟩,
  some ⟨1,false,[.nilFunc], .other,false⟩,
  some ⟨1,false,[.nilFunc], .other,false⟩,
  some ⟨1,false,[.int .u64 0], .int .u64,true⟩,
  some ⟨1,false,[.nilFunc], .other,false⟩,
  some ⟨1,false,[.nilFunc], .other,false⟩,
  some ⟨1,false,[.nilFunc], .other,false⟩,
  some ⟨1,false,[.pointer none], .other,false⟩,
  some ⟨1,false,[.nilFunc], .other,false⟩,
  some ⟨3,true,[.int .i64 0, .int .i64 0, .int .i64 0], .arr 3 3,true⟩,
  some ⟨1,false,[.nilFunc], .other,false⟩,
  some ⟨1,false,[.nilFunc], .other,false⟩,
  some ⟨1,false,[.nilFunc], .other,false⟩,
  some ⟨1,false,[.nilFunc], .other,false⟩,
  some ⟨1,false,[.pointer none], .other,false⟩,
  none,
  some ⟨1,false,[.nilFunc], .other,false⟩,
  some ⟨1,false,[.nilFunc], .other,false⟩,
  some ⟨1,false,[.nilFunc], .other,false⟩,
  some ⟨4,true,[.pointer none, .pointer none, .pointer none, .string ⟨#[]⟩], .struct [(17,0),(17,1),(17,2),(9,3)],false⟩,
  some ⟨4,true,[.pointer none, .pointer none, .pointer none, .string ⟨#[]⟩], .struct [(17,0),(17,1),(17,2),(9,3)],false⟩,
  some ⟨0,true,[], .arr 0 16,false⟩,
  some ⟨0,true,[], .struct [(293,0)],false⟩,
  some ⟨0,true,[], .struct [(293,0)],false⟩,
  some ⟨1,false,[.nilFunc], .other,false⟩,
  some ⟨1,false,[.int .u8 0], .int .u8,true⟩,
  some ⟨1,false,[.int .u8 0], .int .u8,true⟩,
  some ⟨1,false,[.nilFunc], .other,false⟩,
  some ⟨1,false,[.pointer none], .other,false⟩,
  some ⟨1,false,[.int .i32 0], .int .i32,true⟩,
  some ⟨1,false,[.int .i32 0], .int .i32,true⟩,
  some ⟨11,true,[.int .u64 0, .int .u64 0, .int .u32 0, .int .u8 0, .int .u8 0, .int .u8 0, .int .u8 0, .nilFunc, .pointer none, .int .i32 0, .int .i32 0], .struct [(12,0),(12,1),(255,2),(297,3),(5,4),(5,5),(298,6),(299,7),(300,8),(301,9),(302,10)],false⟩,
  some ⟨11,true,[.int .u64 0, .int .u64 0, .int .u32 0, .int .u8 0, .int .u8 0, .int .u8 0, .int .u8 0, .nilFunc, .pointer none, .int .i32 0, .int .i32 0], .struct [(12,0),(12,1),(255,2),(297,3),(5,4),(5,5),(298,6),(299,7),(300,8),(301,9),(302,10)],false⟩,
  some ⟨1,false,[.pointer none], .other,false⟩]
theorem aD :bI Tryz.prog tt:=awP (by kernel_rfl)
theorem pk :Pk Tryz.prog tt:=⟨rfl,aD⟩
abbrev e0 :ByteArray:=⟨#[]⟩
def I1 (n:Int):List PV:=[.val (.int .i64 n)]
def S1 (s:ByteArray):List PV:=[.val (.string s)]
theorem I1.elem :Elem tt 3 I1 (fun a=> .val (.int .i64 a)) 1:=⟨rfl,fun _=>rfl,fun _=>rfl,fun _=>rfl,fun _=>rfl⟩
end Go.Proofs.YtcglimangneafaaGreatDoor
namespace Go.Proofs.YtcglimangneafaaGreatDoor
open Go Go.Abs
set_option maxRecDepth 10000
set_option maxHeartbeats 1000000
structure Vl where
  kind:Int
  n:Int
  s:ByteArray
  deriving DecidableEq,Inhabited
def Vl.cells (a:Vl):List PV:=[.val (.int .i64 (a.kind)), .val (.int .i64 (a.n)), .val (.string (a.s))]
def Vl.zero :Vl:=⟨0,0,e0⟩
theorem Vl.ext_iff (a b:Vl):a=b↔a.kind=b.kind∧a.n=b.n∧a.s=b.s:=by cases a;cases b;simp
theorem Vl.eta (a:Vl):Vl.mk a.kind a.n a.s=a:=rfl
theorem Vl.eqb (a b:Vl):(decide (a.kind=b.kind)&&(decide (a.n=b.n)&&(decide (a.s=b.s))))=decide (a=b):=by rw [Bool.eq_iff_iff];simp [Vl.ext_iff]
theorem Vl.eqz (a:Vl):(decide (a.kind=0)&&(decide (a.n=0)&&(decide (a.s=e0))))=decide (a=Vl.zero):=by rw [Bool.eq_iff_iff];simp [Vl.ext_iff,Vl.zero]
theorem Vl.elem :Elem tt 47 Vl.cells (fun a=> .agg a.cells) 3:=⟨rfl,fun _=>rfl,fun _=>rfl,fun _=>rfl,fun _=>rfl⟩
structure Dt where
  dev:Int
  seq:Int
  deriving DecidableEq,Inhabited
def Dt.cells (a:Dt):List PV:=[.val (.int .i64 (a.dev)), .val (.int .i64 (a.seq))]
def Dt.zero :Dt:=⟨0,0⟩
theorem Dt.ext_iff (a b:Dt):a=b↔a.dev=b.dev∧a.seq=b.seq:=by cases a;cases b;simp
theorem Dt.eta (a:Dt):Dt.mk a.dev a.seq=a:=rfl
theorem Dt.eqb (a b:Dt):(decide (a.dev=b.dev)&&(decide (a.seq=b.seq)))=decide (a=b):=by rw [Bool.eq_iff_iff];simp [Dt.ext_iff]
theorem Dt.eqz (a:Dt):(decide (a.dev=0)&&(decide (a.seq=0)))=decide (a=Dt.zero):=by rw [Bool.eq_iff_iff];simp [Dt.ext_iff,Dt.zero]
theorem Dt.elem :Elem tt 138 Dt.cells (fun a=> .agg a.cells) 2:=⟨rfl,fun _=>rfl,fun _=>rfl,fun _=>rfl,fun _=>rfl⟩
structure Pt where
  val:Vl
  dot:Dt
  at_:Int
  time:Int
  after:Dt
  afterAt:Int
  gone:Bool
  deriving DecidableEq,Inhabited
def Pt.cells (a:Pt):List PV:=[.val (.int .i64 (a.val.kind)), .val (.int .i64 (a.val.n)), .val (.string (a.val.s)), .val (.int .i64 (a.dot.dev)), .val (.int .i64 (a.dot.seq)), .val (.int .i64 (a.at_)), .val (.int .i64 (a.time)), .val (.int .i64 (a.after.dev)), .val (.int .i64 (a.after.seq)), .val (.int .i64 (a.afterAt)), .val (.bool (a.gone))]
def Pt.zero :Pt:=⟨Vl.zero,Dt.zero,0,0,Dt.zero,0,false⟩
theorem Pt.ext_iff (a b:Pt):a=b↔a.val=b.val∧a.dot=b.dot∧a.at_=b.at_∧a.time=b.time∧a.after=b.after∧a.afterAt=b.afterAt∧a.gone=b.gone:=by cases a;cases b;simp
theorem Pt.eta (a:Pt):Pt.mk a.val a.dot a.at_ a.time a.after a.afterAt a.gone=a:=rfl
theorem Pt.eqb (a b:Pt):(decide (a.val=b.val)&&(decide (a.dot=b.dot)&&(decide (a.at_=b.at_)&&(decide (a.time=b.time)&&(decide (a.after=b.after)&&(decide (a.afterAt=b.afterAt)&&((a.gone==b.gone))))))))=decide (a=b):=by rw [Bool.eq_iff_iff];simp [Pt.ext_iff]
theorem Pt.elem :Elem tt 166 Pt.cells (fun a=> .agg a.cells) 11:=⟨rfl,fun _=>rfl,fun _=>rfl,fun _=>rfl,fun _=>rfl⟩
structure Cl where
  kind:Int
  val:Vl
  parts:List Pt
  deriving DecidableEq,Inhabited
def Cl.cells (a:Cl):List PV:=[.val (.int .i64 (a.kind)), .val (.int .i64 (a.val.kind)), .val (.int .i64 (a.val.n)), .val (.string (a.val.s)), .seq ((a.parts).map Pt.cells)]
def Cl.zero :Cl:=⟨0,Vl.zero,[]⟩
theorem Cl.ext_iff (a b:Cl):a=b↔a.kind=b.kind∧a.val=b.val∧a.parts=b.parts:=by cases a;cases b;simp
theorem Cl.eta (a:Cl):Cl.mk a.kind a.val a.parts=a:=rfl
theorem Cl.elem :Elem tt 112 Cl.cells (fun a=> .agg a.cells) 5:=⟨rfl,fun _=>rfl,fun _=>rfl,fun _=>rfl,fun _=>rfl⟩
structure Ln where
  key:Int
  cells_:List Cl
  by_:List Dt
  deriving DecidableEq,Inhabited
def Ln.cells (a:Ln):List PV:=[.val (.int .i64 (a.key)), .seq ((a.cells_).map Cl.cells), .seq ((a.by_).map Dt.cells)]
def Ln.zero :Ln:=⟨0,[],[]⟩
theorem Ln.ext_iff (a b:Ln):a=b↔a.key=b.key∧a.cells_=b.cells_∧a.by_=b.by_:=by cases a;cases b;simp
theorem Ln.eta (a:Ln):Ln.mk a.key a.cells_ a.by_=a:=rfl
theorem Ln.elem :Elem tt 53 Ln.cells (fun a=> .agg a.cells) 3:=⟨rfl,fun _=>rfl,fun _=>rfl,fun _=>rfl,fun _=>rfl⟩
structure Da where
  lines:List Ln
  deriving DecidableEq,Inhabited
def Da.cells (a:Da):List PV:=[.seq ((a.lines).map Ln.cells)]
def Da.zero :Da:=⟨[]⟩
theorem Da.ext_iff (a b:Da):a=b↔a.lines=b.lines:=by cases a;cases b;simp
theorem Da.eta (a:Da):Da.mk a.lines=a:=rfl
theorem Da.elem :Elem tt 108 Da.cells (fun a=> .agg a.cells) 1:=⟨rfl,fun _=>rfl,fun _=>rfl,fun _=>rfl,fun _=>rfl⟩
structure Co where
  name:ByteArray
  kind:Int
  type_:Int
  null:Bool
  deriving DecidableEq,Inhabited
def Co.cells (a:Co):List PV:=[.val (.string (a.name)), .val (.int .i64 (a.kind)), .val (.int .i64 (a.type_)), .val (.bool (a.null))]
def Co.zero :Co:=⟨e0,0,0,false⟩
theorem Co.ext_iff (a b:Co):a=b↔a.name=b.name∧a.kind=b.kind∧a.type_=b.type_∧a.null=b.null:=by cases a;cases b;simp
theorem Co.eta (a:Co):Co.mk a.name a.kind a.type_ a.null=a:=rfl
theorem Co.eqb (a b:Co):(decide (a.name=b.name)&&(decide (a.kind=b.kind)&&(decide (a.type_=b.type_)&&((a.null==b.null)))))=decide (a=b):=by rw [Bool.eq_iff_iff];simp [Co.ext_iff]
theorem Co.elem :Elem tt 98 Co.cells (fun a=> .agg a.cells) 4:=⟨rfl,fun _=>rfl,fun _=>rfl,fun _=>rfl,fun _=>rfl⟩
structure Fr where
  col:Int
  table:Int
  act:Int
  deriving DecidableEq,Inhabited
def Fr.cells (a:Fr):List PV:=[.val (.int .i64 (a.col)), .val (.int .i64 (a.table)), .val (.int .i64 (a.act))]
def Fr.zero :Fr:=⟨0,0,0⟩
theorem Fr.ext_iff (a b:Fr):a=b↔a.col=b.col∧a.table=b.table∧a.act=b.act:=by cases a;cases b;simp
theorem Fr.eta (a:Fr):Fr.mk a.col a.table a.act=a:=rfl
theorem Fr.eqb (a b:Fr):(decide (a.col=b.col)&&(decide (a.table=b.table)&&(decide (a.act=b.act))))=decide (a=b):=by rw [Bool.eq_iff_iff];simp [Fr.ext_iff]
theorem Fr.eqz (a:Fr):(decide (a.col=0)&&(decide (a.table=0)&&(decide (a.act=0))))=decide (a=Fr.zero):=by rw [Bool.eq_iff_iff];simp [Fr.ext_iff,Fr.zero]
theorem Fr.elem :Elem tt 49 Fr.cells (fun a=> .agg a.cells) 3:=⟨rfl,fun _=>rfl,fun _=>rfl,fun _=>rfl,fun _=>rfl⟩
structure Su where
  col:Int
  by_:Int
  max:Int
  deriving DecidableEq,Inhabited
def Su.cells (a:Su):List PV:=[.val (.int .i64 (a.col)), .val (.int .i64 (a.by_)), .val (.int .i64 (a.max))]
def Su.zero :Su:=⟨0,0,0⟩
theorem Su.ext_iff (a b:Su):a=b↔a.col=b.col∧a.by_=b.by_∧a.max=b.max:=by cases a;cases b;simp
theorem Su.eta (a:Su):Su.mk a.col a.by_ a.max=a:=rfl
theorem Su.eqb (a b:Su):(decide (a.col=b.col)&&(decide (a.by_=b.by_)&&(decide (a.max=b.max))))=decide (a=b):=by rw [Bool.eq_iff_iff];simp [Su.ext_iff]
theorem Su.eqz (a:Su):(decide (a.col=0)&&(decide (a.by_=0)&&(decide (a.max=0))))=decide (a=Su.zero):=by rw [Bool.eq_iff_iff];simp [Su.ext_iff,Su.zero]
theorem Su.elem :Elem tt 63 Su.cells (fun a=> .agg a.cells) 3:=⟨rfl,fun _=>rfl,fun _=>rfl,fun _=>rfl,fun _=>rfl⟩
theorem kE {st:aL} {id:Nat} {o:Option AObj} (h:st id=none):StSub st (upd (upd st id o) id none):=fun j=>by
  by_cases hj:j=id
  · subst hj;left;exact h
  · right;rw [aG hj,aG hj]
theorem abU :Tryz.prog.bytesOf 47=32:=by kernel_rfl
theorem nP :Tryz.prog.cellsOf 47=3:=by kernel_rfl
end Go.Proofs.YtcglimangneafaaGreatDoor
