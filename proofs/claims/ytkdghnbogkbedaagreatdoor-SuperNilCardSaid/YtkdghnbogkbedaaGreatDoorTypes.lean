/-
  What the program's table says of its types. Printed by types.py (a program of this work).
-/
import Derived.Test.YtkdghnbogkbedaaGreatDoorProg
import Derived.Test.YtkdghnbogkbedaaGreatDoorAuto
namespace Go.Proofs.YtkdghnbogkbedaaGreatDoor
open Go Go.Sh
set_option maxRecDepth 100000

-- 2: int64
instance : One Tryz.prog 2 := ⟨fun _ => by kernel_rfl, fun _ => by kernel_rfl⟩
instance : Inf Tryz.prog 2 1 8 := .of (by kernel_rfl)
instance : Zer Tryz.prog 2 ([.int .i64 0]) := ⟨by kernel_rfl, by kernel_rfl⟩
instance : IsInt Tryz.prog 2 .i64 := ⟨by kernel_rfl⟩
-- 3: int
instance : One Tryz.prog 3 := ⟨fun _ => by kernel_rfl, fun _ => by kernel_rfl⟩
instance : Inf Tryz.prog 3 1 8 := .of (by kernel_rfl)
instance : Zer Tryz.prog 3 ([.int .i64 0]) := ⟨by kernel_rfl, by kernel_rfl⟩
instance : IsInt Tryz.prog 3 .i64 := ⟨by kernel_rfl⟩
-- 4: bool
instance : One Tryz.prog 4 := ⟨fun _ => by kernel_rfl, fun _ => by kernel_rfl⟩
instance : Inf Tryz.prog 4 1 1 := .of (by kernel_rfl)
instance : Zer Tryz.prog 4 ([.bool false]) := ⟨by kernel_rfl, by kernel_rfl⟩
instance : IsBool Tryz.prog 4 := ⟨by kernel_rfl⟩
-- 5: uint8
instance : One Tryz.prog 5 := ⟨fun _ => by kernel_rfl, fun _ => by kernel_rfl⟩
instance : Inf Tryz.prog 5 1 1 := .of (by kernel_rfl)
instance : Zer Tryz.prog 5 ([.int .u8 0]) := ⟨by kernel_rfl, by kernel_rfl⟩
instance : IsInt Tryz.prog 5 .u8 := ⟨by kernel_rfl⟩
-- 9: string
instance : One Tryz.prog 9 := ⟨fun _ => by kernel_rfl, fun _ => by kernel_rfl⟩
instance : Inf Tryz.prog 9 1 16 := .of (by kernel_rfl)
instance : Zer Tryz.prog 9 ([str []]) := ⟨by kernel_rfl, by kernel_rfl⟩
instance : IsStr Tryz.prog 9 := ⟨by kernel_rfl⟩
-- 22: *super.Super
instance : One Tryz.prog 22 := ⟨fun _ => by kernel_rfl, fun _ => by kernel_rfl⟩
instance : Inf Tryz.prog 22 1 8 := .of (by kernel_rfl)
instance : Zer Tryz.prog 22 ([.pointer none]) := ⟨by kernel_rfl, by kernel_rfl⟩
instance : IsPtr Tryz.prog 22 := ⟨⟨27, by kernel_rfl⟩⟩
-- 23: []api.Freeze
instance : One Tryz.prog 23 := ⟨fun _ => by kernel_rfl, fun _ => by kernel_rfl⟩
instance : Inf Tryz.prog 23 1 24 := .of (by kernel_rfl)
instance : Zer Tryz.prog 23 ([.slice none 0 0]) := ⟨by kernel_rfl, by kernel_rfl⟩
instance : SlT Tryz.prog 23 31 34 := ⟨by kernel_rfl, fun _ => by kernel_rfl⟩
-- 24: []api.Sum
instance : One Tryz.prog 24 := ⟨fun _ => by kernel_rfl, fun _ => by kernel_rfl⟩
instance : Inf Tryz.prog 24 1 24 := .of (by kernel_rfl)
instance : Zer Tryz.prog 24 ([.slice none 0 0]) := ⟨by kernel_rfl, by kernel_rfl⟩
instance : SlT Tryz.prog 24 29 32 := ⟨by kernel_rfl, fun _ => by kernel_rfl⟩
-- 25: *front.Front
instance : One Tryz.prog 25 := ⟨fun _ => by kernel_rfl, fun _ => by kernel_rfl⟩
instance : Inf Tryz.prog 25 1 8 := .of (by kernel_rfl)
instance : Zer Tryz.prog 25 ([.pointer none]) := ⟨by kernel_rfl, by kernel_rfl⟩
instance : IsPtr Tryz.prog 25 := ⟨⟨190, by kernel_rfl⟩⟩
-- 27: super.Super
instance : Many Tryz.prog 27 3 := ⟨fun _ => by kernel_rfl, fun _ => by kernel_rfl⟩
instance : Inf Tryz.prog 27 3 56 := .of (by kernel_rfl)
instance : Zer Tryz.prog 27 ([.slice none 0 0, .slice none 0 0, .pointer none]) := ⟨by kernel_rfl, by kernel_rfl⟩
instance : Bld Tryz.prog 27 (fun i => #[(0, 1), (1, 1), (2, 1)][i]?) ([.slice none 0 0, .slice none 0 0, .pointer none]) := ⟨fun _ => by kernel_rfl⟩
instance : Fld Tryz.prog 27 0 0 := ⟨fun _ _ => by kernel_rfl⟩ -- all
instance : Fld Tryz.prog 27 1 1 := ⟨fun _ _ => by kernel_rfl⟩ -- leaves
instance : Fld Tryz.prog 27 2 2 := ⟨fun _ _ => by kernel_rfl⟩ -- front
-- 28: [32]uint8
instance : Many Tryz.prog 28 32 := ⟨fun _ => by kernel_rfl, fun _ => by kernel_rfl⟩
instance : Inf Tryz.prog 28 32 32 := .of (by kernel_rfl)
instance : Zer Tryz.prog 28 (List.replicate 32 (.int .u8 0)) := ⟨by kernel_rfl, by kernel_rfl⟩
instance : ArT Tryz.prog 28 32 5 1 := ⟨by kernel_rfl, fun _ => by kernel_rfl⟩
instance : Bld Tryz.prog 28 (fun i => some (i * 1, 1)) (List.replicate 32 (.int .u8 0)) := ⟨fun _ => by kernel_rfl⟩
-- 29: api.Sum
instance : Many Tryz.prog 29 32 := ⟨fun _ => by kernel_rfl, fun _ => by kernel_rfl⟩
instance : Inf Tryz.prog 29 32 32 := .of (by kernel_rfl)
instance : Zer Tryz.prog 29 (Sum.zero.cells) := ⟨by kernel_rfl, by kernel_rfl⟩
instance : ArT Tryz.prog 29 32 5 1 := ⟨by kernel_rfl, fun _ => by kernel_rfl⟩
instance : Bld Tryz.prog 29 (fun i => some (i * 1, 1)) (Sum.zero.cells) := ⟨fun _ => by kernel_rfl⟩
-- 31: api.Freeze
instance : Many Tryz.prog 31 34 := ⟨fun _ => by kernel_rfl, fun _ => by kernel_rfl⟩
instance : Inf Tryz.prog 31 34 48 := .of (by kernel_rfl)
instance : Zer Tryz.prog 31 (Freeze.zero.cells) := ⟨by kernel_rfl, by kernel_rfl⟩
instance : Bld Tryz.prog 31 (fun i => #[(0, 1), (1, 1), (2, 32)][i]?) (Freeze.zero.cells) := ⟨fun _ => by kernel_rfl⟩
instance : Fld Tryz.prog 31 0 0 := ⟨fun _ _ => by kernel_rfl⟩ -- Window
instance : Fld Tryz.prog 31 1 1 := ⟨fun _ _ => by kernel_rfl⟩ -- Count
instance : Fld Tryz.prog 31 2 2 := ⟨fun _ _ => by kernel_rfl⟩ -- Root
-- 32: api.Errno
instance : One Tryz.prog 32 := ⟨fun _ => by kernel_rfl, fun _ => by kernel_rfl⟩
instance : Inf Tryz.prog 32 1 8 := .of (by kernel_rfl)
instance : Zer Tryz.prog 32 ([.int .i64 0]) := ⟨by kernel_rfl, by kernel_rfl⟩
instance : IsInt Tryz.prog 32 .i64 := ⟨by kernel_rfl⟩
-- 48: api.Head
instance : Many Tryz.prog 48 66 := ⟨fun _ => by kernel_rfl, fun _ => by kernel_rfl⟩
instance : Inf Tryz.prog 48 66 80 := .of (by kernel_rfl)
instance : Zer Tryz.prog 48 (Head.zero.cells) := ⟨by kernel_rfl, by kernel_rfl⟩
instance : Bld Tryz.prog 48 (fun i => #[(0, 1), (1, 32), (33, 1), (34, 32)][i]?) (Head.zero.cells) := ⟨fun _ => by kernel_rfl⟩
instance : Fld Tryz.prog 48 0 0 := ⟨fun _ _ => by kernel_rfl⟩ -- Size
instance : Fld Tryz.prog 48 1 1 := ⟨fun _ _ => by kernel_rfl⟩ -- Root
instance : Fld Tryz.prog 48 2 33 := ⟨fun _ _ => by kernel_rfl⟩ -- Clock
instance : Fld Tryz.prog 48 3 34 := ⟨fun _ _ => by kernel_rfl⟩ -- Mac
-- 52: []api.File
instance : One Tryz.prog 52 := ⟨fun _ => by kernel_rfl, fun _ => by kernel_rfl⟩
instance : Inf Tryz.prog 52 1 24 := .of (by kernel_rfl)
instance : Zer Tryz.prog 52 ([.slice none 0 0]) := ⟨by kernel_rfl, by kernel_rfl⟩
instance : SlT Tryz.prog 52 55 2 := ⟨by kernel_rfl, fun _ => by kernel_rfl⟩
-- 55: api.File
instance : Many Tryz.prog 55 2 := ⟨fun _ => by kernel_rfl, fun _ => by kernel_rfl⟩
instance : Inf Tryz.prog 55 2 32 := .of (by kernel_rfl)
instance : Zer Tryz.prog 55 (File.zero.cells) := ⟨by kernel_rfl, by kernel_rfl⟩
instance : Bld Tryz.prog 55 (fun i => #[(0, 1), (1, 1)][i]?) (File.zero.cells) := ⟨fun _ => by kernel_rfl⟩
instance : Fld Tryz.prog 55 0 0 := ⟨fun _ _ => by kernel_rfl⟩ -- Name
instance : Fld Tryz.prog 55 1 1 := ⟨fun _ _ => by kernel_rfl⟩ -- Data
-- 57: []api.FileOp
instance : One Tryz.prog 57 := ⟨fun _ => by kernel_rfl, fun _ => by kernel_rfl⟩
instance : Inf Tryz.prog 57 1 24 := .of (by kernel_rfl)
instance : Zer Tryz.prog 57 ([.slice none 0 0]) := ⟨by kernel_rfl, by kernel_rfl⟩
instance : SlT Tryz.prog 57 150 4 := ⟨by kernel_rfl, fun _ => by kernel_rfl⟩
-- 60: *scriniumref08.Store
instance : One Tryz.prog 60 := ⟨fun _ => by kernel_rfl, fun _ => by kernel_rfl⟩
instance : Inf Tryz.prog 60 1 8 := .of (by kernel_rfl)
instance : Zer Tryz.prog 60 ([.pointer none]) := ⟨by kernel_rfl, by kernel_rfl⟩
instance : IsPtr Tryz.prog 60 := ⟨⟨63, by kernel_rfl⟩⟩
-- 61: []scriniumref08.File
instance : One Tryz.prog 61 := ⟨fun _ => by kernel_rfl, fun _ => by kernel_rfl⟩
instance : Inf Tryz.prog 61 1 24 := .of (by kernel_rfl)
instance : Zer Tryz.prog 61 ([.slice none 0 0]) := ⟨by kernel_rfl, by kernel_rfl⟩
instance : SlT Tryz.prog 61 64 2 := ⟨by kernel_rfl, fun _ => by kernel_rfl⟩
-- 63: scriniumref08.Store
instance : Many Tryz.prog 63 2 := ⟨fun _ => by kernel_rfl, fun _ => by kernel_rfl⟩
instance : Inf Tryz.prog 63 2 32 := .of (by kernel_rfl)
instance : Zer Tryz.prog 63 ([.int .i64 0, .slice none 0 0]) := ⟨by kernel_rfl, by kernel_rfl⟩
instance : Bld Tryz.prog 63 (fun i => #[(0, 1), (1, 1)][i]?) ([.int .i64 0, .slice none 0 0]) := ⟨fun _ => by kernel_rfl⟩
instance : Fld Tryz.prog 63 0 0 := ⟨fun _ _ => by kernel_rfl⟩ -- Room
instance : Fld Tryz.prog 63 1 1 := ⟨fun _ _ => by kernel_rfl⟩ -- Files
-- 64: scriniumref08.File
instance : Many Tryz.prog 64 2 := ⟨fun _ => by kernel_rfl, fun _ => by kernel_rfl⟩
instance : Inf Tryz.prog 64 2 32 := .of (by kernel_rfl)
instance : Zer Tryz.prog 64 ([str [], str []]) := ⟨by kernel_rfl, by kernel_rfl⟩
instance : Bld Tryz.prog 64 (fun i => #[(0, 1), (1, 1)][i]?) ([str [], str []]) := ⟨fun _ => by kernel_rfl⟩
instance : Fld Tryz.prog 64 0 0 := ⟨fun _ _ => by kernel_rfl⟩ -- Name
instance : Fld Tryz.prog 64 1 1 := ⟨fun _ _ => by kernel_rfl⟩ -- Data
-- 68: [2]int
instance : Many Tryz.prog 68 2 := ⟨fun _ => by kernel_rfl, fun _ => by kernel_rfl⟩
instance : Inf Tryz.prog 68 2 16 := .of (by kernel_rfl)
instance : Zer Tryz.prog 68 ([.int .i64 0, .int .i64 0]) := ⟨by kernel_rfl, by kernel_rfl⟩
instance : ArT Tryz.prog 68 2 3 1 := ⟨by kernel_rfl, fun _ => by kernel_rfl⟩
instance : Bld Tryz.prog 68 (fun i => some (i * 1, 1)) ([.int .i64 0, .int .i64 0]) := ⟨fun _ => by kernel_rfl⟩
-- 69: []scriniumlaw20.Step
instance : One Tryz.prog 69 := ⟨fun _ => by kernel_rfl, fun _ => by kernel_rfl⟩
instance : Inf Tryz.prog 69 1 24 := .of (by kernel_rfl)
instance : Zer Tryz.prog 69 ([.slice none 0 0]) := ⟨by kernel_rfl, by kernel_rfl⟩
instance : SlT Tryz.prog 69 76 7 := ⟨by kernel_rfl, fun _ => by kernel_rfl⟩
-- 70: *vault.Vault
instance : One Tryz.prog 70 := ⟨fun _ => by kernel_rfl, fun _ => by kernel_rfl⟩
instance : Inf Tryz.prog 70 1 8 := .of (by kernel_rfl)
instance : Zer Tryz.prog 70 ([.pointer none]) := ⟨by kernel_rfl, by kernel_rfl⟩
instance : IsPtr Tryz.prog 70 := ⟨⟨126, by kernel_rfl⟩⟩
-- 72: []api.Record
instance : One Tryz.prog 72 := ⟨fun _ => by kernel_rfl, fun _ => by kernel_rfl⟩
instance : Inf Tryz.prog 72 1 24 := .of (by kernel_rfl)
instance : Zer Tryz.prog 72 ([.slice none 0 0]) := ⟨by kernel_rfl, by kernel_rfl⟩
instance : SlT Tryz.prog 72 79 4 := ⟨by kernel_rfl, fun _ => by kernel_rfl⟩
-- 74: api.Ask
instance : Many Tryz.prog 74 5 := ⟨fun _ => by kernel_rfl, fun _ => by kernel_rfl⟩
instance : Inf Tryz.prog 74 5 48 := .of (by kernel_rfl)
instance : Zer Tryz.prog 74 (Ask.zero.cells) := ⟨by kernel_rfl, by kernel_rfl⟩
instance : Bld Tryz.prog 74 (fun i => #[(0, 1), (1, 1), (2, 1), (3, 1), (4, 1)][i]?) (Ask.zero.cells) := ⟨fun _ => by kernel_rfl⟩
instance : Fld Tryz.prog 74 0 0 := ⟨fun _ _ => by kernel_rfl⟩ -- Op
instance : Fld Tryz.prog 74 1 1 := ⟨fun _ _ => by kernel_rfl⟩ -- A
instance : Fld Tryz.prog 74 2 2 := ⟨fun _ _ => by kernel_rfl⟩ -- B
instance : Fld Tryz.prog 74 3 3 := ⟨fun _ _ => by kernel_rfl⟩ -- C
instance : Fld Tryz.prog 74 4 4 := ⟨fun _ _ => by kernel_rfl⟩ -- Data
-- 76: scriniumlaw20.Step
instance : Many Tryz.prog 76 7 := ⟨fun _ => by kernel_rfl, fun _ => by kernel_rfl⟩
instance : Inf Tryz.prog 76 7 64 := .of (by kernel_rfl)
instance : Zer Tryz.prog 76 ([.int .i64 0, .int .i64 0, .int .i64 0, .int .i64 0, str [], .int .i64 0, .bool false]) := ⟨by kernel_rfl, by kernel_rfl⟩
instance : Bld Tryz.prog 76 (fun i => #[(0, 5), (5, 1), (6, 1)][i]?) ([.int .i64 0, .int .i64 0, .int .i64 0, .int .i64 0, str [], .int .i64 0, .bool false]) := ⟨fun _ => by kernel_rfl⟩
instance : Fld Tryz.prog 76 0 0 := ⟨fun _ _ => by kernel_rfl⟩ -- Ask
instance : Fld Tryz.prog 76 1 5 := ⟨fun _ _ => by kernel_rfl⟩ -- Long
instance : Fld Tryz.prog 76 2 6 := ⟨fun _ _ => by kernel_rfl⟩ -- Onward
-- 79: api.Record
instance : Many Tryz.prog 79 4 := ⟨fun _ => by kernel_rfl, fun _ => by kernel_rfl⟩
instance : Inf Tryz.prog 79 4 40 := .of (by kernel_rfl)
instance : Zer Tryz.prog 79 (Record.zero.cells) := ⟨by kernel_rfl, by kernel_rfl⟩
instance : Bld Tryz.prog 79 (fun i => #[(0, 1), (1, 1), (2, 1), (3, 1)][i]?) (Record.zero.cells) := ⟨fun _ => by kernel_rfl⟩
instance : Fld Tryz.prog 79 0 0 := ⟨fun _ _ => by kernel_rfl⟩ -- Window
instance : Fld Tryz.prog 79 1 1 := ⟨fun _ _ => by kernel_rfl⟩ -- Index
instance : Fld Tryz.prog 79 2 2 := ⟨fun _ _ => by kernel_rfl⟩ -- Time
instance : Fld Tryz.prog 79 3 3 := ⟨fun _ _ => by kernel_rfl⟩ -- Payload
-- 81: api.Stone
instance : Many Tryz.prog 81 67 := ⟨fun _ => by kernel_rfl, fun _ => by kernel_rfl⟩
instance : Inf Tryz.prog 81 67 88 := .of (by kernel_rfl)
instance : Zer Tryz.prog 81 (Stone.zero.cells) := ⟨by kernel_rfl, by kernel_rfl⟩
instance : Bld Tryz.prog 81 (fun i => #[(0, 34), (34, 1), (35, 32)][i]?) (Stone.zero.cells) := ⟨fun _ => by kernel_rfl⟩
instance : Fld Tryz.prog 81 0 0 := ⟨fun _ _ => by kernel_rfl⟩ -- Freeze
instance : Fld Tryz.prog 81 1 34 := ⟨fun _ _ => by kernel_rfl⟩ -- At
instance : Fld Tryz.prog 81 2 35 := ⟨fun _ _ => by kernel_rfl⟩ -- Mac
-- 83: api.Cite
instance : Many Tryz.prog 83 103 := ⟨fun _ => by kernel_rfl, fun _ => by kernel_rfl⟩
instance : Inf Tryz.prog 83 103 184 := .of (by kernel_rfl)
instance : Zer Tryz.prog 83 (CiteV.zero.cells) := ⟨by kernel_rfl, by kernel_rfl⟩
instance : Bld Tryz.prog 83 (fun i => #[(0, 34), (34, 1), (35, 1), (36, 1), (37, 66)][i]?) (CiteV.zero.cells) := ⟨fun _ => by kernel_rfl⟩
instance : Fld Tryz.prog 83 0 0 := ⟨fun _ _ => by kernel_rfl⟩ -- Freeze
instance : Fld Tryz.prog 83 1 34 := ⟨fun _ _ => by kernel_rfl⟩ -- Path
instance : Fld Tryz.prog 83 2 35 := ⟨fun _ _ => by kernel_rfl⟩ -- Place
instance : Fld Tryz.prog 83 3 36 := ⟨fun _ _ => by kernel_rfl⟩ -- Super
instance : Fld Tryz.prog 83 4 37 := ⟨fun _ _ => by kernel_rfl⟩ -- Head
-- 85: api.Told
instance : Many Tryz.prog 85 244 := ⟨fun _ => by kernel_rfl, fun _ => by kernel_rfl⟩
instance : Inf Tryz.prog 85 244 440 := .of (by kernel_rfl)
instance : Zer Tryz.prog 85 (ToldV.zero.cells) := ⟨by kernel_rfl, by kernel_rfl⟩
instance : Bld Tryz.prog 85 (fun i => #[(0, 1), (1, 1), (2, 1), (3, 4), (7, 67), (74, 1), (75, 66), (141, 103)][i]?) (ToldV.zero.cells) := ⟨fun _ => by kernel_rfl⟩
instance : Fld Tryz.prog 85 0 0 := ⟨fun _ _ => by kernel_rfl⟩ -- Err
instance : Fld Tryz.prog 85 1 1 := ⟨fun _ _ => by kernel_rfl⟩ -- N
instance : Fld Tryz.prog 85 2 2 := ⟨fun _ _ => by kernel_rfl⟩ -- M
instance : Fld Tryz.prog 85 3 3 := ⟨fun _ _ => by kernel_rfl⟩ -- Record
instance : Fld Tryz.prog 85 4 7 := ⟨fun _ _ => by kernel_rfl⟩ -- Stone
instance : Fld Tryz.prog 85 5 74 := ⟨fun _ _ => by kernel_rfl⟩ -- Path
instance : Fld Tryz.prog 85 6 75 := ⟨fun _ _ => by kernel_rfl⟩ -- Head
instance : Fld Tryz.prog 85 7 141 := ⟨fun _ _ => by kernel_rfl⟩ -- Cite
-- 95: []*shard.Shard
instance : One Tryz.prog 95 := ⟨fun _ => by kernel_rfl, fun _ => by kernel_rfl⟩
instance : Inf Tryz.prog 95 1 24 := .of (by kernel_rfl)
instance : Zer Tryz.prog 95 ([.slice none 0 0]) := ⟨by kernel_rfl, by kernel_rfl⟩
instance : SlT Tryz.prog 95 97 1 := ⟨by kernel_rfl, fun _ => by kernel_rfl⟩
-- 97: *shard.Shard
instance : One Tryz.prog 97 := ⟨fun _ => by kernel_rfl, fun _ => by kernel_rfl⟩
instance : Inf Tryz.prog 97 1 8 := .of (by kernel_rfl)
instance : Zer Tryz.prog 97 ([.pointer none]) := ⟨by kernel_rfl, by kernel_rfl⟩
instance : IsPtr Tryz.prog 97 := ⟨⟨166, by kernel_rfl⟩⟩
-- 100: [4]int
instance : Many Tryz.prog 100 4 := ⟨fun _ => by kernel_rfl, fun _ => by kernel_rfl⟩
instance : Inf Tryz.prog 100 4 32 := .of (by kernel_rfl)
instance : Zer Tryz.prog 100 ([.int .i64 0, .int .i64 0, .int .i64 0, .int .i64 0]) := ⟨by kernel_rfl, by kernel_rfl⟩
instance : ArT Tryz.prog 100 4 3 1 := ⟨by kernel_rfl, fun _ => by kernel_rfl⟩
instance : Bld Tryz.prog 100 (fun i => some (i * 1, 1)) ([.int .i64 0, .int .i64 0, .int .i64 0, .int .i64 0]) := ⟨fun _ => by kernel_rfl⟩
-- 111: *scriniumref20.Vault
instance : One Tryz.prog 111 := ⟨fun _ => by kernel_rfl, fun _ => by kernel_rfl⟩
instance : Inf Tryz.prog 111 1 8 := .of (by kernel_rfl)
instance : Zer Tryz.prog 111 ([.pointer none]) := ⟨by kernel_rfl, by kernel_rfl⟩
instance : IsPtr Tryz.prog 111 := ⟨⟨116, by kernel_rfl⟩⟩
-- 113: []*scriniumref17.Shard
instance : One Tryz.prog 113 := ⟨fun _ => by kernel_rfl, fun _ => by kernel_rfl⟩
instance : Inf Tryz.prog 113 1 24 := .of (by kernel_rfl)
instance : Zer Tryz.prog 113 ([.slice none 0 0]) := ⟨by kernel_rfl, by kernel_rfl⟩
instance : SlT Tryz.prog 113 175 1 := ⟨by kernel_rfl, fun _ => by kernel_rfl⟩
-- 114: *scriniumref18.Super
instance : One Tryz.prog 114 := ⟨fun _ => by kernel_rfl, fun _ => by kernel_rfl⟩
instance : Inf Tryz.prog 114 1 8 := .of (by kernel_rfl)
instance : Zer Tryz.prog 114 ([.pointer none]) := ⟨by kernel_rfl, by kernel_rfl⟩
instance : IsPtr Tryz.prog 114 := ⟨⟨172, by kernel_rfl⟩⟩
-- 116: scriniumref20.Vault
instance : Many Tryz.prog 116 6 := ⟨fun _ => by kernel_rfl, fun _ => by kernel_rfl⟩
instance : Inf Tryz.prog 116 6 72 := .of (by kernel_rfl)
instance : Zer Tryz.prog 116 ([.int .i64 0, .int .i64 0, .int .i64 0, str [], .slice none 0 0, .pointer none]) := ⟨by kernel_rfl, by kernel_rfl⟩
instance : Bld Tryz.prog 116 (fun i => #[(0, 1), (1, 1), (2, 1), (3, 1), (4, 1), (5, 1)][i]?) ([.int .i64 0, .int .i64 0, .int .i64 0, str [], .slice none 0 0, .pointer none]) := ⟨fun _ => by kernel_rfl⟩
instance : Fld Tryz.prog 116 0 0 := ⟨fun _ _ => by kernel_rfl⟩ -- Width
instance : Fld Tryz.prog 116 1 1 := ⟨fun _ _ => by kernel_rfl⟩ -- Term
instance : Fld Tryz.prog 116 2 2 := ⟨fun _ _ => by kernel_rfl⟩ -- Clock
instance : Fld Tryz.prog 116 3 3 := ⟨fun _ _ => by kernel_rfl⟩ -- Key
instance : Fld Tryz.prog 116 4 4 := ⟨fun _ _ => by kernel_rfl⟩ -- Shards
instance : Fld Tryz.prog 116 5 5 := ⟨fun _ _ => by kernel_rfl⟩ -- Log
-- 121: uint
instance : One Tryz.prog 121 := ⟨fun _ => by kernel_rfl, fun _ => by kernel_rfl⟩
instance : Inf Tryz.prog 121 1 8 := .of (by kernel_rfl)
instance : Zer Tryz.prog 121 ([.int .u64 0]) := ⟨by kernel_rfl, by kernel_rfl⟩
instance : IsInt Tryz.prog 121 .u64 := ⟨by kernel_rfl⟩
-- 126: vault.Vault
instance : Many Tryz.prog 126 6 := ⟨fun _ => by kernel_rfl, fun _ => by kernel_rfl⟩
instance : Inf Tryz.prog 126 6 72 := .of (by kernel_rfl)
instance : Zer Tryz.prog 126 ([.int .i64 0, .int .i64 0, str [], .int .i64 0, .slice none 0 0, .pointer none]) := ⟨by kernel_rfl, by kernel_rfl⟩
instance : Bld Tryz.prog 126 (fun i => #[(0, 1), (1, 1), (2, 1), (3, 1), (4, 1), (5, 1)][i]?) ([.int .i64 0, .int .i64 0, str [], .int .i64 0, .slice none 0 0, .pointer none]) := ⟨fun _ => by kernel_rfl⟩
instance : Fld Tryz.prog 126 0 0 := ⟨fun _ _ => by kernel_rfl⟩ -- width
instance : Fld Tryz.prog 126 1 1 := ⟨fun _ _ => by kernel_rfl⟩ -- term
instance : Fld Tryz.prog 126 2 2 := ⟨fun _ _ => by kernel_rfl⟩ -- key
instance : Fld Tryz.prog 126 3 3 := ⟨fun _ _ => by kernel_rfl⟩ -- clock
instance : Fld Tryz.prog 126 4 4 := ⟨fun _ _ => by kernel_rfl⟩ -- shards
instance : Fld Tryz.prog 126 5 5 := ⟨fun _ _ => by kernel_rfl⟩ -- log
-- 138: func(api.Freeze) bool
-- 150: api.FileOp
instance : Many Tryz.prog 150 4 := ⟨fun _ => by kernel_rfl, fun _ => by kernel_rfl⟩
instance : Inf Tryz.prog 150 4 48 := .of (by kernel_rfl)
instance : Zer Tryz.prog 150 (FileOp.zero.cells) := ⟨by kernel_rfl, by kernel_rfl⟩
instance : Bld Tryz.prog 150 (fun i => #[(0, 1), (1, 1), (2, 1), (3, 1)][i]?) (FileOp.zero.cells) := ⟨fun _ => by kernel_rfl⟩
instance : Fld Tryz.prog 150 0 0 := ⟨fun _ _ => by kernel_rfl⟩ -- Kind
instance : Fld Tryz.prog 150 1 1 := ⟨fun _ _ => by kernel_rfl⟩ -- Name
instance : Fld Tryz.prog 150 2 2 := ⟨fun _ _ => by kernel_rfl⟩ -- Data
instance : Fld Tryz.prog 150 3 3 := ⟨fun _ _ => by kernel_rfl⟩ -- N
-- 151: []uint8
instance : One Tryz.prog 151 := ⟨fun _ => by kernel_rfl, fun _ => by kernel_rfl⟩
instance : Inf Tryz.prog 151 1 24 := .of (by kernel_rfl)
instance : Zer Tryz.prog 151 ([.slice none 0 0]) := ⟨by kernel_rfl, by kernel_rfl⟩
instance : SlT Tryz.prog 151 5 1 := ⟨by kernel_rfl, fun _ => by kernel_rfl⟩
-- 166: shard.Shard
instance : Many Tryz.prog 166 72 := ⟨fun _ => by kernel_rfl, fun _ => by kernel_rfl⟩
instance : Inf Tryz.prog 166 72 160 := .of (by kernel_rfl)
instance : Fld Tryz.prog 166 0 0 := ⟨fun _ _ => by kernel_rfl⟩ -- window
instance : Fld Tryz.prog 166 1 1 := ⟨fun _ _ => by kernel_rfl⟩ -- state
instance : Fld Tryz.prog 166 2 2 := ⟨fun _ _ => by kernel_rfl⟩ -- leaves
instance : Fld Tryz.prog 166 3 3 := ⟨fun _ _ => by kernel_rfl⟩ -- rows
instance : Fld Tryz.prog 166 4 4 := ⟨fun _ _ => by kernel_rfl⟩ -- front
instance : Fld Tryz.prog 166 5 5 := ⟨fun _ _ => by kernel_rfl⟩ -- stone
-- 172: scriniumref18.Super
instance : Many Tryz.prog 172 1 := ⟨fun _ => by kernel_rfl, fun _ => by kernel_rfl⟩
instance : Inf Tryz.prog 172 1 24 := .of (by kernel_rfl)
instance : Zer Tryz.prog 172 ([.slice none 0 0]) := ⟨by kernel_rfl, by kernel_rfl⟩
instance : Bld Tryz.prog 172 (fun i => #[(0, 1)][i]?) ([.slice none 0 0]) := ⟨fun _ => by kernel_rfl⟩
instance : Fld Tryz.prog 172 0 0 := ⟨fun _ _ => by kernel_rfl⟩ -- L
-- 175: *scriniumref17.Shard
instance : One Tryz.prog 175 := ⟨fun _ => by kernel_rfl, fun _ => by kernel_rfl⟩
instance : Inf Tryz.prog 175 1 8 := .of (by kernel_rfl)
instance : Zer Tryz.prog 175 ([.pointer none]) := ⟨by kernel_rfl, by kernel_rfl⟩
instance : IsPtr Tryz.prog 175 := ⟨⟨246, by kernel_rfl⟩⟩
-- 190: front.Front
instance : Many Tryz.prog 190 2 := ⟨fun _ => by kernel_rfl, fun _ => by kernel_rfl⟩
instance : Inf Tryz.prog 190 2 32 := .of (by kernel_rfl)
instance : Zer Tryz.prog 190 ([.int .i64 0, .slice none 0 0]) := ⟨by kernel_rfl, by kernel_rfl⟩
instance : Bld Tryz.prog 190 (fun i => #[(0, 1), (1, 1)][i]?) ([.int .i64 0, .slice none 0 0]) := ⟨fun _ => by kernel_rfl⟩
instance : Fld Tryz.prog 190 0 0 := ⟨fun _ _ => by kernel_rfl⟩ -- n
instance : Fld Tryz.prog 190 1 1 := ⟨fun _ _ => by kernel_rfl⟩ -- peaks
-- 192: []path.step
instance : One Tryz.prog 192 := ⟨fun _ => by kernel_rfl, fun _ => by kernel_rfl⟩
instance : Inf Tryz.prog 192 1 24 := .of (by kernel_rfl)
instance : Zer Tryz.prog 192 ([.slice none 0 0]) := ⟨by kernel_rfl, by kernel_rfl⟩
instance : SlT Tryz.prog 192 196 3 := ⟨by kernel_rfl, fun _ => by kernel_rfl⟩
-- 196: path.step
instance : Many Tryz.prog 196 3 := ⟨fun _ => by kernel_rfl, fun _ => by kernel_rfl⟩
instance : Inf Tryz.prog 196 3 24 := .of (by kernel_rfl)
instance : Zer Tryz.prog 196 ([.bool false, .int .i64 0, .int .i64 0]) := ⟨by kernel_rfl, by kernel_rfl⟩
instance : Bld Tryz.prog 196 (fun i => #[(0, 1), (1, 1), (2, 1)][i]?) ([.bool false, .int .i64 0, .int .i64 0]) := ⟨fun _ => by kernel_rfl⟩
instance : Fld Tryz.prog 196 0 0 := ⟨fun _ _ => by kernel_rfl⟩ -- left
instance : Fld Tryz.prog 196 1 1 := ⟨fun _ _ => by kernel_rfl⟩ -- n
instance : Fld Tryz.prog 196 2 2 := ⟨fun _ _ => by kernel_rfl⟩ -- m
-- 198: uint64
instance : One Tryz.prog 198 := ⟨fun _ => by kernel_rfl, fun _ => by kernel_rfl⟩
instance : Inf Tryz.prog 198 1 8 := .of (by kernel_rfl)
instance : Zer Tryz.prog 198 ([.int .u64 0]) := ⟨by kernel_rfl, by kernel_rfl⟩
instance : IsInt Tryz.prog 198 .u64 := ⟨by kernel_rfl⟩
-- 199: uint32
instance : One Tryz.prog 199 := ⟨fun _ => by kernel_rfl, fun _ => by kernel_rfl⟩
instance : Inf Tryz.prog 199 1 4 := .of (by kernel_rfl)
instance : Zer Tryz.prog 199 ([.int .u32 0]) := ⟨by kernel_rfl, by kernel_rfl⟩
instance : IsInt Tryz.prog 199 .u32 := ⟨by kernel_rfl⟩
-- 200: [8]uint32
instance : Many Tryz.prog 200 8 := ⟨fun _ => by kernel_rfl, fun _ => by kernel_rfl⟩
instance : Inf Tryz.prog 200 8 32 := .of (by kernel_rfl)
instance : Zer Tryz.prog 200 ([.int .u32 0, .int .u32 0, .int .u32 0, .int .u32 0, .int .u32 0, .int .u32 0, .int .u32 0, .int .u32 0]) := ⟨by kernel_rfl, by kernel_rfl⟩
instance : ArT Tryz.prog 200 8 199 1 := ⟨by kernel_rfl, fun _ => by kernel_rfl⟩
instance : Bld Tryz.prog 200 (fun i => some (i * 1, 1)) ([.int .u32 0, .int .u32 0, .int .u32 0, .int .u32 0, .int .u32 0, .int .u32 0, .int .u32 0, .int .u32 0]) := ⟨fun _ => by kernel_rfl⟩
-- 202: [16]uint32
instance : Many Tryz.prog 202 16 := ⟨fun _ => by kernel_rfl, fun _ => by kernel_rfl⟩
instance : Inf Tryz.prog 202 16 64 := .of (by kernel_rfl)
instance : Zer Tryz.prog 202 (List.replicate 16 (.int .u32 0)) := ⟨by kernel_rfl, by kernel_rfl⟩
instance : ArT Tryz.prog 202 16 199 1 := ⟨by kernel_rfl, fun _ => by kernel_rfl⟩
instance : Bld Tryz.prog 202 (fun i => some (i * 1, 1)) (List.replicate 16 (.int .u32 0)) := ⟨fun _ => by kernel_rfl⟩
-- 207: iter.Seq2[int,scrinium/api.Sum]
-- 215: *strings.Builder
instance : One Tryz.prog 215 := ⟨fun _ => by kernel_rfl, fun _ => by kernel_rfl⟩
instance : Inf Tryz.prog 215 1 8 := .of (by kernel_rfl)
instance : Zer Tryz.prog 215 ([.pointer none]) := ⟨by kernel_rfl, by kernel_rfl⟩
instance : IsPtr Tryz.prog 215 := ⟨⟨217, by kernel_rfl⟩⟩
-- 217: strings.Builder
instance : Many Tryz.prog 217 2 := ⟨fun _ => by kernel_rfl, fun _ => by kernel_rfl⟩
instance : Inf Tryz.prog 217 2 32 := .of (by kernel_rfl)
instance : Zer Tryz.prog 217 ([.pointer none, .slice none 0 0]) := ⟨by kernel_rfl, by kernel_rfl⟩
instance : Bld Tryz.prog 217 (fun i => #[(0, 1), (1, 1)][i]?) ([.pointer none, .slice none 0 0]) := ⟨fun _ => by kernel_rfl⟩
instance : Fld Tryz.prog 217 0 0 := ⟨fun _ _ => by kernel_rfl⟩ -- addr
instance : Fld Tryz.prog 217 1 1 := ⟨fun _ _ => by kernel_rfl⟩ -- buf
-- 219: error
-- 225: func(api.File, api.File) int
-- 243: []bool
instance : One Tryz.prog 243 := ⟨fun _ => by kernel_rfl, fun _ => by kernel_rfl⟩
instance : Inf Tryz.prog 243 1 24 := .of (by kernel_rfl)
instance : Zer Tryz.prog 243 ([.slice none 0 0]) := ⟨by kernel_rfl, by kernel_rfl⟩
instance : SlT Tryz.prog 243 4 1 := ⟨by kernel_rfl, fun _ => by kernel_rfl⟩
-- 246: scriniumref17.Shard
instance : Many Tryz.prog 246 71 := ⟨fun _ => by kernel_rfl, fun _ => by kernel_rfl⟩
instance : Inf Tryz.prog 246 71 136 := .of (by kernel_rfl)
instance : Fld Tryz.prog 246 0 0 := ⟨fun _ _ => by kernel_rfl⟩ -- Window
instance : Fld Tryz.prog 246 1 1 := ⟨fun _ _ => by kernel_rfl⟩ -- State
instance : Fld Tryz.prog 246 2 2 := ⟨fun _ _ => by kernel_rfl⟩ -- Left
instance : Fld Tryz.prog 246 3 3 := ⟨fun _ _ => by kernel_rfl⟩ -- All
instance : Fld Tryz.prog 246 4 4 := ⟨fun _ _ => by kernel_rfl⟩ -- Stone
-- 249: []string
instance : One Tryz.prog 249 := ⟨fun _ => by kernel_rfl, fun _ => by kernel_rfl⟩
instance : Inf Tryz.prog 249 1 24 := .of (by kernel_rfl)
instance : Zer Tryz.prog 249 ([.slice none 0 0]) := ⟨by kernel_rfl, by kernel_rfl⟩
instance : SlT Tryz.prog 249 9 1 := ⟨by kernel_rfl, fun _ => by kernel_rfl⟩
-- 254: func(path.step) bool
-- 256: [][]api.Sum
instance : One Tryz.prog 256 := ⟨fun _ => by kernel_rfl, fun _ => by kernel_rfl⟩
instance : Inf Tryz.prog 256 1 24 := .of (by kernel_rfl)
instance : Zer Tryz.prog 256 ([.slice none 0 0]) := ⟨by kernel_rfl, by kernel_rfl⟩
instance : SlT Tryz.prog 256 24 1 := ⟨by kernel_rfl, fun _ => by kernel_rfl⟩
-- 258: [64]uint32
instance : Many Tryz.prog 258 64 := ⟨fun _ => by kernel_rfl, fun _ => by kernel_rfl⟩
instance : Inf Tryz.prog 258 64 256 := .of (by kernel_rfl)
instance : Zer Tryz.prog 258 (List.replicate 64 (.int .u32 0)) := ⟨by kernel_rfl, by kernel_rfl⟩
instance : ArT Tryz.prog 258 64 199 1 := ⟨by kernel_rfl, fun _ => by kernel_rfl⟩
instance : Bld Tryz.prog 258 (fun i => some (i * 1, 1)) (List.replicate 64 (.int .u32 0)) := ⟨fun _ => by kernel_rfl⟩
-- 261: *sha.Hash
instance : One Tryz.prog 261 := ⟨fun _ => by kernel_rfl, fun _ => by kernel_rfl⟩
instance : Inf Tryz.prog 261 1 8 := .of (by kernel_rfl)
instance : Zer Tryz.prog 261 ([.pointer none]) := ⟨by kernel_rfl, by kernel_rfl⟩
instance : IsPtr Tryz.prog 261 := ⟨⟨282, by kernel_rfl⟩⟩
-- 263: func(int, api.Sum) bool
-- 265: *mac.Maker
instance : One Tryz.prog 265 := ⟨fun _ => by kernel_rfl, fun _ => by kernel_rfl⟩
instance : Inf Tryz.prog 265 1 8 := .of (by kernel_rfl)
instance : Zer Tryz.prog 265 ([.pointer none]) := ⟨by kernel_rfl, by kernel_rfl⟩
instance : IsPtr Tryz.prog 265 := ⟨⟨289, by kernel_rfl⟩⟩
-- 268: *uint8
instance : One Tryz.prog 268 := ⟨fun _ => by kernel_rfl, fun _ => by kernel_rfl⟩
instance : Inf Tryz.prog 268 1 8 := .of (by kernel_rfl)
instance : Zer Tryz.prog 268 ([.pointer none]) := ⟨by kernel_rfl, by kernel_rfl⟩
instance : IsPtr Tryz.prog 268 := ⟨⟨5, by kernel_rfl⟩⟩
-- 274: func(*shard.Shard) bool
-- 282: sha.Hash
instance : Many Tryz.prog 282 11 := ⟨fun _ => by kernel_rfl, fun _ => by kernel_rfl⟩
instance : Inf Tryz.prog 282 11 64 := .of (by kernel_rfl)
instance : Zer Tryz.prog 282 ([.bool false, .int .u32 0, .int .u32 0, .int .u32 0, .int .u32 0, .int .u32 0, .int .u32 0, .int .u32 0, .int .u32 0, str [], .int .i64 0]) := ⟨by kernel_rfl, by kernel_rfl⟩
instance : Bld Tryz.prog 282 (fun i => #[(0, 1), (1, 8), (9, 1), (10, 1)][i]?) ([.bool false, .int .u32 0, .int .u32 0, .int .u32 0, .int .u32 0, .int .u32 0, .int .u32 0, .int .u32 0, .int .u32 0, str [], .int .i64 0]) := ⟨fun _ => by kernel_rfl⟩
instance : Fld Tryz.prog 282 0 0 := ⟨fun _ _ => by kernel_rfl⟩ -- begun
instance : Fld Tryz.prog 282 1 1 := ⟨fun _ _ => by kernel_rfl⟩ -- state
instance : Fld Tryz.prog 282 2 9 := ⟨fun _ _ => by kernel_rfl⟩ -- rest
instance : Fld Tryz.prog 282 3 10 := ⟨fun _ _ => by kernel_rfl⟩ -- size
-- 285: [8]uint8
instance : Many Tryz.prog 285 8 := ⟨fun _ => by kernel_rfl, fun _ => by kernel_rfl⟩
instance : Inf Tryz.prog 285 8 8 := .of (by kernel_rfl)
instance : Zer Tryz.prog 285 ([.int .u8 0, .int .u8 0, .int .u8 0, .int .u8 0, .int .u8 0, .int .u8 0, .int .u8 0, .int .u8 0]) := ⟨by kernel_rfl, by kernel_rfl⟩
instance : ArT Tryz.prog 285 8 5 1 := ⟨by kernel_rfl, fun _ => by kernel_rfl⟩
instance : Bld Tryz.prog 285 (fun i => some (i * 1, 1)) ([.int .u8 0, .int .u8 0, .int .u8 0, .int .u8 0, .int .u8 0, .int .u8 0, .int .u8 0, .int .u8 0]) := ⟨fun _ => by kernel_rfl⟩
-- 289: mac.Maker
instance : Many Tryz.prog 289 2 := ⟨fun _ => by kernel_rfl, fun _ => by kernel_rfl⟩
instance : Inf Tryz.prog 289 2 16 := .of (by kernel_rfl)
instance : Zer Tryz.prog 289 ([.pointer none, .pointer none]) := ⟨by kernel_rfl, by kernel_rfl⟩
instance : Bld Tryz.prog 289 (fun i => #[(0, 1), (1, 1)][i]?) ([.pointer none, .pointer none]) := ⟨fun _ => by kernel_rfl⟩
instance : Fld Tryz.prog 289 0 0 := ⟨fun _ _ => by kernel_rfl⟩ -- inner
instance : Fld Tryz.prog 289 1 1 := ⟨fun _ _ => by kernel_rfl⟩ -- outer
-- 290: unsafe.Pointer
instance : One Tryz.prog 290 := ⟨fun _ => by kernel_rfl, fun _ => by kernel_rfl⟩
instance : Inf Tryz.prog 290 1 8 := .of (by kernel_rfl)
instance : Zer Tryz.prog 290 ([.pointer none]) := ⟨by kernel_rfl, by kernel_rfl⟩
-- 295: slices.sortedHint
instance : One Tryz.prog 295 := ⟨fun _ => by kernel_rfl, fun _ => by kernel_rfl⟩
instance : Inf Tryz.prog 295 1 8 := .of (by kernel_rfl)
instance : Zer Tryz.prog 295 ([.int .i64 0]) := ⟨by kernel_rfl, by kernel_rfl⟩
instance : IsInt Tryz.prog 295 .i64 := ⟨by kernel_rfl⟩
-- 302: []int
instance : One Tryz.prog 302 := ⟨fun _ => by kernel_rfl, fun _ => by kernel_rfl⟩
instance : Inf Tryz.prog 302 1 24 := .of (by kernel_rfl)
instance : Zer Tryz.prog 302 ([.slice none 0 0]) := ⟨by kernel_rfl, by kernel_rfl⟩
instance : SlT Tryz.prog 302 3 1 := ⟨by kernel_rfl, fun _ => by kernel_rfl⟩
-- 310: slices.xorshift
instance : One Tryz.prog 310 := ⟨fun _ => by kernel_rfl, fun _ => by kernel_rfl⟩
instance : Inf Tryz.prog 310 1 8 := .of (by kernel_rfl)
instance : Zer Tryz.prog 310 ([.int .u64 0]) := ⟨by kernel_rfl, by kernel_rfl⟩
instance : IsInt Tryz.prog 310 .u64 := ⟨by kernel_rfl⟩
-- 314: *int
instance : One Tryz.prog 314 := ⟨fun _ => by kernel_rfl, fun _ => by kernel_rfl⟩
instance : Inf Tryz.prog 314 1 8 := .of (by kernel_rfl)
instance : Zer Tryz.prog 314 ([.pointer none]) := ⟨by kernel_rfl, by kernel_rfl⟩
instance : IsPtr Tryz.prog 314 := ⟨⟨3, by kernel_rfl⟩⟩
-- 319: [24]uint8
instance : Many Tryz.prog 319 24 := ⟨fun _ => by kernel_rfl, fun _ => by kernel_rfl⟩
instance : Inf Tryz.prog 319 24 24 := .of (by kernel_rfl)
instance : Zer Tryz.prog 319 (List.replicate 24 (.int .u8 0)) := ⟨by kernel_rfl, by kernel_rfl⟩
instance : ArT Tryz.prog 319 24 5 1 := ⟨by kernel_rfl, fun _ => by kernel_rfl⟩
instance : Bld Tryz.prog 319 (fun i => some (i * 1, 1)) (List.replicate 24 (.int .u8 0)) := ⟨fun _ => by kernel_rfl⟩
-- 323: *slices.xorshift
instance : One Tryz.prog 323 := ⟨fun _ => by kernel_rfl, fun _ => by kernel_rfl⟩
instance : Inf Tryz.prog 323 1 8 := .of (by kernel_rfl)
instance : Zer Tryz.prog 323 ([.pointer none]) := ⟨by kernel_rfl, by kernel_rfl⟩
instance : IsPtr Tryz.prog 323 := ⟨⟨310, by kernel_rfl⟩⟩
-- 326: []uint32
instance : One Tryz.prog 326 := ⟨fun _ => by kernel_rfl, fun _ => by kernel_rfl⟩
instance : Inf Tryz.prog 326 1 24 := .of (by kernel_rfl)
instance : Zer Tryz.prog 326 ([.slice none 0 0]) := ⟨by kernel_rfl, by kernel_rfl⟩
instance : SlT Tryz.prog 326 199 1 := ⟨by kernel_rfl, fun _ => by kernel_rfl⟩
-- 329: [20]uint64
instance : Many Tryz.prog 329 20 := ⟨fun _ => by kernel_rfl, fun _ => by kernel_rfl⟩
instance : Inf Tryz.prog 329 20 160 := .of (by kernel_rfl)
instance : Zer Tryz.prog 329 (List.replicate 20 (.int .u64 0)) := ⟨by kernel_rfl, by kernel_rfl⟩
instance : ArT Tryz.prog 329 20 198 1 := ⟨by kernel_rfl, fun _ => by kernel_rfl⟩
instance : Bld Tryz.prog 329 (fun i => some (i * 1, 1)) (List.replicate 20 (.int .u64 0)) := ⟨fun _ => by kernel_rfl⟩
-- 330: [65]uint8
instance : Many Tryz.prog 330 65 := ⟨fun _ => by kernel_rfl, fun _ => by kernel_rfl⟩
instance : Inf Tryz.prog 330 65 65 := .of (by kernel_rfl)
instance : Zer Tryz.prog 330 (List.replicate 65 (.int .u8 0)) := ⟨by kernel_rfl, by kernel_rfl⟩
instance : ArT Tryz.prog 330 65 5 1 := ⟨by kernel_rfl, fun _ => by kernel_rfl⟩
instance : Bld Tryz.prog 330 (fun i => some (i * 1, 1)) (List.replicate 65 (.int .u8 0)) := ⟨fun _ => by kernel_rfl⟩
-- 331: [64]uint8
instance : Many Tryz.prog 331 64 := ⟨fun _ => by kernel_rfl, fun _ => by kernel_rfl⟩
instance : Inf Tryz.prog 331 64 64 := .of (by kernel_rfl)
instance : Zer Tryz.prog 331 (List.replicate 64 (.int .u8 0)) := ⟨by kernel_rfl, by kernel_rfl⟩
instance : ArT Tryz.prog 331 64 5 1 := ⟨by kernel_rfl, fun _ => by kernel_rfl⟩
instance : Bld Tryz.prog 331 (fun i => some (i * 1, 1)) (List.replicate 64 (.int .u8 0)) := ⟨fun _ => by kernel_rfl⟩
end Go.Proofs.YtkdghnbogkbedaaGreatDoor
