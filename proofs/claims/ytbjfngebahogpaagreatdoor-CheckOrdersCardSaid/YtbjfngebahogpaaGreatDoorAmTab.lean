/- The machine's tables of the seat's program. No condition. (Printed by a program of this place: wip/tools/Gen.lean.) -/
import Derived.Test.YtbjfngebahogpaaGreatDoorAmF
import Derived.Test.YtbjfngebahogpaaGreatDoorChecked
import Derived.KernelRfl
namespace Go.Proofs
open Go.Am

noncomputable def Tryz.ttT (t : Nat) : Option TI :=
 bif Nat.blt t 136 then
  bif Nat.blt t 68 then
   bif Nat.blt t 34 then
    bif Nat.blt t 17 then
     bif Nat.blt t 8 then
      bif Nat.blt t 4 then
       bif Nat.blt t 2 then
        bif Nat.blt t 1 then
         none
        else
         some ⟨.func, 1, 8, [.nilfunc], false, true⟩
       else
        bif Nat.blt t 3 then
         some ⟨(.int .i64), 1, 8, [.int .i64 0], true, true⟩
        else
         some ⟨(.int .i64), 1, 8, [.int .i64 0], true, true⟩
      else
       bif Nat.blt t 6 then
        bif Nat.blt t 5 then
         some ⟨.bool, 1, 1, [.bool false], true, true⟩
        else
         some ⟨(.int .u8), 1, 1, [.int .u8 0], true, true⟩
       else
        bif Nat.blt t 7 then
         some ⟨(.int .u8), 1, 1, [.int .u8 0], true, true⟩
        else
         some ⟨(.struct [(0, 2), (1, 3), (2, 4), (3, 6)]), 4, 24, [.int .i64 0, .int .i64 0, .bool false, .int .u8 0], true, true⟩
     else
      bif Nat.blt t 12 then
       bif Nat.blt t 10 then
        bif Nat.blt t 9 then
         some ⟨(.struct [(0, 2), (1, 3), (2, 4), (3, 6)]), 4, 24, [.int .i64 0, .int .i64 0, .bool false, .int .u8 0], true, true⟩
        else
         some ⟨.str, 1, 16, [.str []], true, true⟩
       else
        bif Nat.blt t 11 then
         some ⟨.str, 1, 16, [.str []], true, true⟩
        else
         some ⟨.str, 1, 16, [.str []], true, true⟩
      else
       bif Nat.blt t 14 then
        bif Nat.blt t 13 then
         some ⟨(.int .u64), 1, 8, [.int .u64 0], true, true⟩
        else
         some ⟨(.struct [(0, 9), (1, 12)]), 2, 24, [.str [], .int .u64 0], true, false⟩
       else
        bif Nat.blt t 15 then
         some ⟨(.struct [(0, 9), (1, 12)]), 2, 24, [.str [], .int .u64 0], true, false⟩
        else
         bif Nat.blt t 16 then
          some ⟨(.ptr 260), 1, 8, [.nilptr], true, true⟩
         else
          some ⟨(.ptr 263), 1, 8, [.nilptr], true, true⟩
    else
     bif Nat.blt t 25 then
      bif Nat.blt t 21 then
       bif Nat.blt t 19 then
        bif Nat.blt t 18 then
         some ⟨(.ptr 270), 1, 8, [.nilptr], true, true⟩
        else
         some ⟨(.struct [(0, 17)]), 1, 8, [.nilptr], true, false⟩
       else
        bif Nat.blt t 20 then
         some ⟨(.struct [(0, 17)]), 1, 8, [.nilptr], true, false⟩
        else
         some ⟨(.iface 0), 1, 16, [.niliface], true, true⟩
      else
       bif Nat.blt t 23 then
        bif Nat.blt t 22 then
         some ⟨(.int .i32), 1, 4, [.int .i32 0], true, true⟩
        else
         some ⟨(.slice 9), 1, 24, [.nilslice], false, true⟩
       else
        bif Nat.blt t 24 then
         some ⟨.func, 1, 8, [.nilfunc], false, true⟩
        else
         some ⟨(.slice 3), 1, 24, [.nilslice], false, true⟩
     else
      bif Nat.blt t 29 then
       bif Nat.blt t 27 then
        bif Nat.blt t 26 then
         none
        else
         some ⟨.func, 1, 8, [.nilfunc], false, true⟩
       else
        bif Nat.blt t 28 then
         some ⟨.func, 1, 8, [.nilfunc], false, true⟩
        else
         some ⟨(.int .i64), 1, 8, [.int .i64 0], true, true⟩
      else
       bif Nat.blt t 31 then
        bif Nat.blt t 30 then
         some ⟨(.slice 31), 1, 24, [.nilslice], false, true⟩
        else
         some ⟨(.struct [(0, 28), (1, 29), (2, 22)]), 3, 56, [.int .i64 0, .nilslice, .nilslice], false, true⟩
       else
        bif Nat.blt t 32 then
         some ⟨(.struct [(0, 28), (1, 29), (2, 22)]), 3, 56, [.int .i64 0, .nilslice, .nilslice], false, true⟩
        else
         bif Nat.blt t 33 then
          some ⟨.func, 1, 8, [.nilfunc], false, true⟩
         else
          some ⟨(.int .i64), 1, 8, [.int .i64 0], true, true⟩
   else
    bif Nat.blt t 51 then
     bif Nat.blt t 42 then
      bif Nat.blt t 38 then
       bif Nat.blt t 36 then
        bif Nat.blt t 35 then
         some ⟨(.slice 37), 1, 24, [.nilslice], false, true⟩
        else
         some ⟨(.arr 2 4), 2, 2, [.bool false, .bool false], true, true⟩
       else
        bif Nat.blt t 37 then
         some ⟨(.struct [(0, 33), (1, 9), (2, 22), (3, 34), (4, 29), (5, 35)]), 7, 104, [.int .i64 0, .str [], .nilslice, .nilslice, .nilslice, .bool false, .bool false], false, true⟩
        else
         some ⟨(.struct [(0, 33), (1, 9), (2, 22), (3, 34), (4, 29), (5, 35)]), 7, 104, [.int .i64 0, .str [], .nilslice, .nilslice, .nilslice, .bool false, .bool false], false, true⟩
      else
       bif Nat.blt t 40 then
        bif Nat.blt t 39 then
         none
        else
         some ⟨.func, 1, 8, [.nilfunc], false, true⟩
       else
        bif Nat.blt t 41 then
         some ⟨(.struct [(0, 9), (1, 31)]), 4, 72, [.str [], .int .i64 0, .nilslice, .nilslice], false, true⟩
        else
         some ⟨(.struct [(0, 9), (1, 31)]), 4, 72, [.str [], .int .i64 0, .nilslice, .nilslice], false, true⟩
     else
      bif Nat.blt t 46 then
       bif Nat.blt t 44 then
        bif Nat.blt t 43 then
         some ⟨(.slice 41), 1, 24, [.nilslice], false, true⟩
        else
         some ⟨(.slice 41), 1, 24, [.nilslice], false, true⟩
       else
        bif Nat.blt t 45 then
         some ⟨.func, 1, 8, [.nilfunc], false, true⟩
        else
         some ⟨.func, 1, 8, [.nilfunc], false, true⟩
      else
       bif Nat.blt t 48 then
        bif Nat.blt t 47 then
         some ⟨.func, 1, 8, [.nilfunc], false, true⟩
        else
         some ⟨.func, 1, 8, [.nilfunc], false, true⟩
       else
        bif Nat.blt t 49 then
         some ⟨.func, 1, 8, [.nilfunc], false, true⟩
        else
         bif Nat.blt t 50 then
          some ⟨.func, 1, 8, [.nilfunc], false, true⟩
         else
          some ⟨.func, 1, 8, [.nilfunc], false, true⟩
    else
     bif Nat.blt t 59 then
      bif Nat.blt t 55 then
       bif Nat.blt t 53 then
        bif Nat.blt t 52 then
         some ⟨.func, 1, 8, [.nilfunc], false, true⟩
        else
         some ⟨.func, 1, 8, [.nilfunc], false, true⟩
       else
        bif Nat.blt t 54 then
         some ⟨.func, 1, 8, [.nilfunc], false, true⟩
        else
         some ⟨.func, 1, 8, [.nilfunc], false, true⟩
      else
       bif Nat.blt t 57 then
        bif Nat.blt t 56 then
         some ⟨.func, 1, 8, [.nilfunc], false, true⟩
        else
         some ⟨.func, 1, 8, [.nilfunc], false, true⟩
       else
        bif Nat.blt t 58 then
         some ⟨(.slice 76), 1, 24, [.nilslice], false, true⟩
        else
         none
     else
      bif Nat.blt t 63 then
       bif Nat.blt t 61 then
        bif Nat.blt t 60 then
         some ⟨.func, 1, 8, [.nilfunc], false, true⟩
        else
         some ⟨.func, 1, 8, [.nilfunc], false, true⟩
       else
        bif Nat.blt t 62 then
         some ⟨.func, 1, 8, [.nilfunc], false, true⟩
        else
         some ⟨.func, 1, 8, [.nilfunc], false, true⟩
      else
       bif Nat.blt t 65 then
        bif Nat.blt t 64 then
         none
        else
         some ⟨.func, 1, 8, [.nilfunc], false, true⟩
       else
        bif Nat.blt t 66 then
         none
        else
         bif Nat.blt t 67 then
          some ⟨.func, 1, 8, [.nilfunc], false, true⟩
         else
          some ⟨.func, 1, 8, [.nilfunc], false, true⟩
  else
   bif Nat.blt t 102 then
    bif Nat.blt t 85 then
     bif Nat.blt t 76 then
      bif Nat.blt t 72 then
       bif Nat.blt t 70 then
        bif Nat.blt t 69 then
         some ⟨.func, 1, 8, [.nilfunc], false, true⟩
        else
         some ⟨.func, 1, 8, [.nilfunc], false, true⟩
       else
        bif Nat.blt t 71 then
         some ⟨.func, 1, 8, [.nilfunc], false, true⟩
        else
         some ⟨.func, 1, 8, [.nilfunc], false, true⟩
      else
       bif Nat.blt t 74 then
        bif Nat.blt t 73 then
         some ⟨.func, 1, 8, [.nilfunc], false, true⟩
        else
         some ⟨.func, 1, 8, [.nilfunc], false, true⟩
       else
        bif Nat.blt t 75 then
         some ⟨(.int .i64), 1, 8, [.int .i64 0], true, true⟩
        else
         some ⟨(.struct [(0, 74), (1, 9), (2, 3)]), 3, 32, [.int .i64 0, .str [], .int .i64 0], true, true⟩
     else
      bif Nat.blt t 80 then
       bif Nat.blt t 78 then
        bif Nat.blt t 77 then
         some ⟨(.struct [(0, 74), (1, 9), (2, 3)]), 3, 32, [.int .i64 0, .str [], .int .i64 0], true, true⟩
        else
         some ⟨.func, 1, 8, [.nilfunc], false, true⟩
       else
        bif Nat.blt t 79 then
         some ⟨.func, 1, 8, [.nilfunc], false, true⟩
        else
         some ⟨(.struct [(0, 22)]), 1, 24, [.nilslice], false, true⟩
      else
       bif Nat.blt t 82 then
        bif Nat.blt t 81 then
         some ⟨(.struct [(0, 22)]), 1, 24, [.nilslice], false, true⟩
        else
         some ⟨.func, 1, 8, [.nilfunc], false, true⟩
       else
        bif Nat.blt t 83 then
         some ⟨.func, 1, 8, [.nilfunc], false, true⟩
        else
         bif Nat.blt t 84 then
          some ⟨.func, 1, 8, [.nilfunc], false, true⟩
         else
          some ⟨.func, 1, 8, [.nilfunc], false, true⟩
    else
     bif Nat.blt t 93 then
      bif Nat.blt t 89 then
       bif Nat.blt t 87 then
        bif Nat.blt t 86 then
         some ⟨.func, 1, 8, [.nilfunc], false, true⟩
        else
         some ⟨(.ptr 37), 1, 8, [.nilptr], true, true⟩
       else
        bif Nat.blt t 88 then
         some ⟨.func, 1, 8, [.nilfunc], false, true⟩
        else
         some ⟨(.int .u64), 1, 8, [.int .u64 0], true, true⟩
      else
       bif Nat.blt t 91 then
        bif Nat.blt t 90 then
         some ⟨(.struct [(0, 88), (1, 88)]), 2, 16, [.int .u64 0, .int .u64 0], true, true⟩
        else
         some ⟨(.struct [(0, 88), (1, 88)]), 2, 16, [.int .u64 0, .int .u64 0], true, true⟩
       else
        bif Nat.blt t 92 then
         some ⟨(.struct [(0, 4), (1, 90), (3, 3)]), 4, 32, [.bool false, .int .u64 0, .int .u64 0, .int .i64 0], true, true⟩
        else
         some ⟨(.struct [(0, 4), (1, 90), (3, 3)]), 4, 32, [.bool false, .int .u64 0, .int .u64 0, .int .i64 0], true, true⟩
     else
      bif Nat.blt t 97 then
       bif Nat.blt t 95 then
        bif Nat.blt t 94 then
         none
        else
         some ⟨.func, 1, 8, [.nilfunc], false, true⟩
       else
        bif Nat.blt t 96 then
         some ⟨.func, 1, 8, [.nilfunc], false, true⟩
        else
         some ⟨.func, 1, 8, [.nilfunc], false, true⟩
      else
       bif Nat.blt t 99 then
        bif Nat.blt t 98 then
         some ⟨.func, 1, 8, [.nilfunc], false, true⟩
        else
         some ⟨.func, 1, 8, [.nilfunc], false, true⟩
       else
        bif Nat.blt t 100 then
         some ⟨.func, 1, 8, [.nilfunc], false, true⟩
        else
         bif Nat.blt t 101 then
          some ⟨(.ptr 102), 1, 8, [.nilptr], true, true⟩
         else
          some ⟨(.struct [(0, 9), (1, 3), (2, 57)]), 3, 48, [.str [], .int .i64 0, .nilslice], false, true⟩
   else
    bif Nat.blt t 119 then
     bif Nat.blt t 110 then
      bif Nat.blt t 106 then
       bif Nat.blt t 104 then
        bif Nat.blt t 103 then
         some ⟨(.struct [(0, 9), (1, 3), (2, 57)]), 3, 48, [.str [], .int .i64 0, .nilslice], false, true⟩
        else
         some ⟨.func, 1, 8, [.nilfunc], false, true⟩
       else
        bif Nat.blt t 105 then
         some ⟨.func, 1, 8, [.nilfunc], false, true⟩
        else
         some ⟨.func, 1, 8, [.nilfunc], false, true⟩
      else
       bif Nat.blt t 108 then
        bif Nat.blt t 107 then
         some ⟨(.ptr 109), 1, 8, [.nilptr], true, true⟩
        else
         some ⟨(.slice 5), 1, 24, [.nilslice], false, true⟩
       else
        bif Nat.blt t 109 then
         some ⟨(.struct [(0, 106), (1, 107)]), 2, 32, [.nilptr, .nilslice], false, true⟩
        else
         some ⟨(.struct [(0, 106), (1, 107)]), 2, 32, [.nilptr, .nilslice], false, true⟩
     else
      bif Nat.blt t 114 then
       bif Nat.blt t 112 then
        bif Nat.blt t 111 then
         some ⟨(.iface 1), 1, 16, [.niliface], true, false⟩
        else
         some ⟨(.iface 1), 1, 16, [.niliface], true, false⟩
       else
        bif Nat.blt t 113 then
         some ⟨.func, 1, 8, [.nilfunc], false, true⟩
        else
         none
      else
       bif Nat.blt t 116 then
        bif Nat.blt t 115 then
         some ⟨.func, 1, 8, [.nilfunc], false, true⟩
        else
         some ⟨.func, 1, 8, [.nilfunc], false, true⟩
       else
        bif Nat.blt t 117 then
         some ⟨.func, 1, 8, [.nilfunc], false, true⟩
        else
         bif Nat.blt t 118 then
          some ⟨.func, 1, 8, [.nilfunc], false, true⟩
         else
          some ⟨(.ptr 120), 1, 8, [.nilptr], true, true⟩
    else
     bif Nat.blt t 127 then
      bif Nat.blt t 123 then
       bif Nat.blt t 121 then
        bif Nat.blt t 120 then
         some ⟨(.struct [(0, 57), (1, 3), (2, 3), (3, 80), (4, 4)]), 5, 72, [.nilslice, .int .i64 0, .int .i64 0, .nilslice, .bool false], false, true⟩
        else
         some ⟨(.struct [(0, 57), (1, 3), (2, 3), (3, 80), (4, 4)]), 5, 72, [.nilslice, .int .i64 0, .int .i64 0, .nilslice, .bool false], false, true⟩
       else
        bif Nat.blt t 122 then
         some ⟨.func, 1, 8, [.nilfunc], false, true⟩
        else
         some ⟨.func, 1, 8, [.nilfunc], false, true⟩
      else
       bif Nat.blt t 125 then
        bif Nat.blt t 124 then
         none
        else
         some ⟨.func, 1, 8, [.nilfunc], false, true⟩
       else
        bif Nat.blt t 126 then
         some ⟨.func, 1, 8, [.nilfunc], false, true⟩
        else
         some ⟨.func, 1, 8, [.nilfunc], false, true⟩
     else
      bif Nat.blt t 131 then
       bif Nat.blt t 129 then
        bif Nat.blt t 128 then
         some ⟨.func, 1, 8, [.nilfunc], false, true⟩
        else
         some ⟨.func, 1, 8, [.nilfunc], false, true⟩
       else
        bif Nat.blt t 130 then
         none
        else
         some ⟨.func, 1, 8, [.nilfunc], false, true⟩
      else
       bif Nat.blt t 133 then
        bif Nat.blt t 132 then
         some ⟨(.struct [(0, 4), (1, 90), (3, 90), (5, 3), (6, 4)]), 7, 56, [.bool false, .int .u64 0, .int .u64 0, .int .u64 0, .int .u64 0, .int .i64 0, .bool false], true, true⟩
        else
         some ⟨(.struct [(0, 4), (1, 90), (3, 90), (5, 3), (6, 4)]), 7, 56, [.bool false, .int .u64 0, .int .u64 0, .int .u64 0, .int .u64 0, .int .i64 0, .bool false], true, true⟩
       else
        bif Nat.blt t 134 then
         none
        else
         bif Nat.blt t 135 then
          some ⟨.func, 1, 8, [.nilfunc], false, true⟩
         else
          some ⟨.func, 1, 8, [.nilfunc], false, true⟩
 else
  bif Nat.blt t 204 then
   bif Nat.blt t 170 then
    bif Nat.blt t 153 then
     bif Nat.blt t 144 then
      bif Nat.blt t 140 then
       bif Nat.blt t 138 then
        bif Nat.blt t 137 then
         some ⟨(.int .i64), 1, 8, [.int .i64 0], true, true⟩
        else
         some ⟨.func, 1, 8, [.nilfunc], false, true⟩
       else
        bif Nat.blt t 139 then
         some ⟨.func, 1, 8, [.nilfunc], false, true⟩
        else
         some ⟨.func, 1, 8, [.nilfunc], false, true⟩
      else
       bif Nat.blt t 142 then
        bif Nat.blt t 141 then
         some ⟨.func, 1, 8, [.nilfunc], false, true⟩
        else
         some ⟨.func, 1, 8, [.nilfunc], false, true⟩
       else
        bif Nat.blt t 143 then
         some ⟨.func, 1, 8, [.nilfunc], false, true⟩
        else
         some ⟨.func, 1, 8, [.nilfunc], false, true⟩
     else
      bif Nat.blt t 148 then
       bif Nat.blt t 146 then
        bif Nat.blt t 145 then
         none
        else
         some ⟨.func, 1, 8, [.nilfunc], false, true⟩
       else
        bif Nat.blt t 147 then
         some ⟨.func, 1, 8, [.nilfunc], false, true⟩
        else
         some ⟨.func, 1, 8, [.nilfunc], false, true⟩
      else
       bif Nat.blt t 150 then
        bif Nat.blt t 149 then
         some ⟨(.arr 256 4), 256, 256, (List.replicate 256 (.bool false)), true, true⟩
        else
         some ⟨(.arr 256 4), 256, 256, (List.replicate 256 (.bool false)), true, true⟩
       else
        bif Nat.blt t 151 then
         none
        else
         bif Nat.blt t 152 then
          some ⟨.func, 1, 8, [.nilfunc], false, true⟩
         else
          some ⟨.func, 1, 8, [.nilfunc], false, true⟩
    else
     bif Nat.blt t 161 then
      bif Nat.blt t 157 then
       bif Nat.blt t 155 then
        bif Nat.blt t 154 then
         some ⟨(.ptr 149), 1, 8, [.nilptr], true, true⟩
        else
         some ⟨(.ptr 5), 1, 8, [.nilptr], true, true⟩
       else
        bif Nat.blt t 156 then
         some ⟨.func, 1, 8, [.nilfunc], false, true⟩
        else
         some ⟨.func, 1, 8, [.nilfunc], false, true⟩
      else
       bif Nat.blt t 159 then
        bif Nat.blt t 158 then
         some ⟨.func, 1, 8, [.nilfunc], false, true⟩
        else
         none
       else
        bif Nat.blt t 160 then
         some ⟨.func, 1, 8, [.nilfunc], false, true⟩
        else
         some ⟨.func, 1, 8, [.nilfunc], false, true⟩
     else
      bif Nat.blt t 165 then
       bif Nat.blt t 163 then
        bif Nat.blt t 162 then
         some ⟨.func, 1, 8, [.nilfunc], false, true⟩
        else
         some ⟨.func, 1, 8, [.nilfunc], false, true⟩
       else
        bif Nat.blt t 164 then
         some ⟨.func, 1, 8, [.nilfunc], false, true⟩
        else
         some ⟨.func, 1, 8, [.nilfunc], false, true⟩
      else
       bif Nat.blt t 167 then
        bif Nat.blt t 166 then
         some ⟨.func, 1, 8, [.nilfunc], false, true⟩
        else
         some ⟨.func, 1, 8, [.nilfunc], false, true⟩
       else
        bif Nat.blt t 168 then
         some ⟨.func, 1, 8, [.nilfunc], false, true⟩
        else
         bif Nat.blt t 169 then
          some ⟨.func, 1, 8, [.nilfunc], false, true⟩
         else
          none
   else
    bif Nat.blt t 187 then
     bif Nat.blt t 178 then
      bif Nat.blt t 174 then
       bif Nat.blt t 172 then
        bif Nat.blt t 171 then
         some ⟨.func, 1, 8, [.nilfunc], false, true⟩
        else
         none
       else
        bif Nat.blt t 173 then
         some ⟨.func, 1, 8, [.nilfunc], false, true⟩
        else
         some ⟨.func, 1, 8, [.nilfunc], false, true⟩
      else
       bif Nat.blt t 176 then
        bif Nat.blt t 175 then
         some ⟨.func, 1, 8, [.nilfunc], false, true⟩
        else
         some ⟨.func, 1, 8, [.nilfunc], false, true⟩
       else
        bif Nat.blt t 177 then
         some ⟨.func, 1, 8, [.nilfunc], false, true⟩
        else
         some ⟨(.arr 40 5), 40, 40, (List.replicate 40 (.int .u8 0)), true, true⟩
     else
      bif Nat.blt t 182 then
       bif Nat.blt t 180 then
        bif Nat.blt t 179 then
         none
        else
         some ⟨.func, 1, 8, [.nilfunc], false, true⟩
       else
        bif Nat.blt t 181 then
         some ⟨.func, 1, 8, [.nilfunc], false, true⟩
        else
         some ⟨(.arr 256 5), 256, 256, (List.replicate 256 (.int .u8 0)), true, true⟩
      else
       bif Nat.blt t 184 then
        bif Nat.blt t 183 then
         some ⟨(.struct [(0, 5), (1, 5)]), 2, 2, [.int .u8 0, .int .u8 0], true, true⟩
        else
         some ⟨(.struct [(0, 5), (1, 5)]), 2, 2, [.int .u8 0, .int .u8 0], true, true⟩
       else
        bif Nat.blt t 185 then
         some ⟨(.arr 16 183), 32, 32, (List.replicate 32 (.int .u8 0)), true, true⟩
        else
         bif Nat.blt t 186 then
          some ⟨(.int .u64), 1, 8, [.int .u64 0], true, true⟩
         else
          none
    else
     bif Nat.blt t 195 then
      bif Nat.blt t 191 then
       bif Nat.blt t 189 then
        bif Nat.blt t 188 then
         some ⟨.func, 1, 8, [.nilfunc], false, true⟩
        else
         some ⟨.func, 1, 8, [.nilfunc], false, true⟩
       else
        bif Nat.blt t 190 then
         some ⟨.func, 1, 8, [.nilfunc], false, true⟩
        else
         some ⟨.func, 1, 8, [.nilfunc], false, true⟩
      else
       bif Nat.blt t 193 then
        bif Nat.blt t 192 then
         some ⟨.unsafep, 1, 8, [.nilptr], true, true⟩
        else
         some ⟨.func, 1, 8, [.nilfunc], false, true⟩
       else
        bif Nat.blt t 194 then
         some ⟨.func, 1, 8, [.nilfunc], false, true⟩
        else
         some ⟨.func, 1, 8, [.nilfunc], false, true⟩
     else
      bif Nat.blt t 199 then
       bif Nat.blt t 197 then
        bif Nat.blt t 196 then
         some ⟨.func, 1, 8, [.nilfunc], false, true⟩
        else
         some ⟨(.struct [(0, 22), (1, 29), (2, 3), (3, 4), (4, 31)]), 7, 120, [.nilslice, .nilslice, .int .i64 0, .bool false, .int .i64 0, .nilslice, .nilslice], false, true⟩
       else
        bif Nat.blt t 198 then
         some ⟨(.struct [(0, 22), (1, 29), (2, 3), (3, 4), (4, 31)]), 7, 120, [.nilslice, .nilslice, .int .i64 0, .bool false, .int .i64 0, .nilslice, .nilslice], false, true⟩
        else
         none
      else
       bif Nat.blt t 201 then
        bif Nat.blt t 200 then
         some ⟨.func, 1, 8, [.nilfunc], false, true⟩
        else
         some ⟨.func, 1, 8, [.nilfunc], false, true⟩
       else
        bif Nat.blt t 202 then
         some ⟨.func, 1, 8, [.nilfunc], false, true⟩
        else
         bif Nat.blt t 203 then
          some ⟨.func, 1, 8, [.nilfunc], false, true⟩
         else
          some ⟨.func, 1, 8, [.nilfunc], false, true⟩
  else
   bif Nat.blt t 238 then
    bif Nat.blt t 221 then
     bif Nat.blt t 212 then
      bif Nat.blt t 208 then
       bif Nat.blt t 206 then
        bif Nat.blt t 205 then
         some ⟨(.int .i64), 1, 8, [.int .i64 0], true, true⟩
        else
         none
       else
        bif Nat.blt t 207 then
         some ⟨.func, 1, 8, [.nilfunc], false, true⟩
        else
         some ⟨(.ptr 232), 1, 8, [.nilptr], true, true⟩
      else
       bif Nat.blt t 210 then
        bif Nat.blt t 209 then
         some ⟨.func, 1, 8, [.nilfunc], false, true⟩
        else
         some ⟨.func, 1, 8, [.nilfunc], false, true⟩
       else
        bif Nat.blt t 211 then
         none
        else
         some ⟨.func, 1, 8, [.nilfunc], false, true⟩
     else
      bif Nat.blt t 216 then
       bif Nat.blt t 214 then
        bif Nat.blt t 213 then
         some ⟨.func, 1, 8, [.nilfunc], false, true⟩
        else
         some ⟨.func, 1, 8, [.nilfunc], false, true⟩
       else
        bif Nat.blt t 215 then
         none
        else
         some ⟨.func, 1, 8, [.nilfunc], false, true⟩
      else
       bif Nat.blt t 218 then
        bif Nat.blt t 217 then
         some ⟨.func, 1, 8, [.nilfunc], false, true⟩
        else
         some ⟨(.arr 4 88), 4, 32, [.int .u64 0, .int .u64 0, .int .u64 0, .int .u64 0], true, true⟩
       else
        bif Nat.blt t 219 then
         some ⟨.func, 1, 8, [.nilfunc], false, true⟩
        else
         bif Nat.blt t 220 then
          some ⟨.func, 1, 8, [.nilfunc], false, true⟩
         else
          some ⟨.func, 1, 8, [.nilfunc], false, true⟩
    else
     bif Nat.blt t 229 then
      bif Nat.blt t 225 then
       bif Nat.blt t 223 then
        bif Nat.blt t 222 then
         some ⟨.func, 1, 8, [.nilfunc], false, true⟩
        else
         none
       else
        bif Nat.blt t 224 then
         some ⟨.func, 1, 8, [.nilfunc], false, true⟩
        else
         some ⟨.func, 1, 8, [.nilfunc], false, true⟩
      else
       bif Nat.blt t 227 then
        bif Nat.blt t 226 then
         some ⟨(.slice 28), 1, 24, [.nilslice], false, true⟩
        else
         some ⟨.func, 1, 8, [.nilfunc], false, true⟩
       else
        bif Nat.blt t 228 then
         some ⟨(.int .u32), 1, 4, [.int .u32 0], true, true⟩
        else
         some ⟨.func, 1, 8, [.nilfunc], false, true⟩
     else
      bif Nat.blt t 233 then
       bif Nat.blt t 231 then
        bif Nat.blt t 230 then
         none
        else
         some ⟨.func, 1, 8, [.nilfunc], false, true⟩
       else
        bif Nat.blt t 232 then
         some ⟨(.struct [(0, 9), (1, 9), (2, 111)]), 3, 48, [.str [], .str [], .niliface], true, false⟩
        else
         some ⟨(.struct [(0, 9), (1, 9), (2, 111)]), 3, 48, [.str [], .str [], .niliface], true, false⟩
      else
       bif Nat.blt t 235 then
        bif Nat.blt t 234 then
         some ⟨.func, 1, 8, [.nilfunc], false, true⟩
        else
         some ⟨.func, 1, 8, [.nilfunc], false, true⟩
       else
        bif Nat.blt t 236 then
         some ⟨(.arr 24 5), 24, 24, (List.replicate 24 (.int .u8 0)), true, true⟩
        else
         bif Nat.blt t 237 then
          some ⟨.func, 1, 8, [.nilfunc], false, true⟩
         else
          none
   else
    bif Nat.blt t 255 then
     bif Nat.blt t 246 then
      bif Nat.blt t 242 then
       bif Nat.blt t 240 then
        bif Nat.blt t 239 then
         some ⟨.func, 1, 8, [.nilfunc], false, true⟩
        else
         none
       else
        bif Nat.blt t 241 then
         some ⟨.func, 1, 8, [.nilfunc], false, true⟩
        else
         some ⟨.func, 1, 8, [.nilfunc], false, true⟩
      else
       bif Nat.blt t 244 then
        bif Nat.blt t 243 then
         some ⟨.func, 1, 8, [.nilfunc], false, true⟩
        else
         some ⟨.func, 1, 8, [.nilfunc], false, true⟩
       else
        bif Nat.blt t 245 then
         some ⟨.func, 1, 8, [.nilfunc], false, true⟩
        else
         some ⟨.func, 1, 8, [.nilfunc], false, true⟩
     else
      bif Nat.blt t 250 then
       bif Nat.blt t 248 then
        bif Nat.blt t 247 then
         some ⟨.func, 1, 8, [.nilfunc], false, true⟩
        else
         some ⟨(.ptr 249), 1, 8, [.nilptr], true, true⟩
       else
        bif Nat.blt t 249 then
         some ⟨(.struct [(0, 9)]), 1, 16, [.str []], true, true⟩
        else
         some ⟨(.struct [(0, 9)]), 1, 16, [.str []], true, true⟩
      else
       bif Nat.blt t 252 then
        bif Nat.blt t 251 then
         some ⟨.func, 1, 8, [.nilfunc], false, true⟩
        else
         some ⟨(.arr 20 88), 20, 160, (List.replicate 20 (.int .u64 0)), true, true⟩
       else
        bif Nat.blt t 253 then
         some ⟨(.arr 65 5), 65, 65, (List.replicate 65 (.int .u8 0)), true, true⟩
        else
         bif Nat.blt t 254 then
          some ⟨.func, 1, 8, [.nilfunc], false, true⟩
         else
          some ⟨.func, 1, 8, [.nilfunc], false, true⟩
    else
     bif Nat.blt t 263 then
      bif Nat.blt t 259 then
       bif Nat.blt t 257 then
        bif Nat.blt t 256 then
         some ⟨.func, 1, 8, [.nilfunc], false, true⟩
        else
         some ⟨.func, 1, 8, [.nilfunc], false, true⟩
       else
        bif Nat.blt t 258 then
         some ⟨(.arr 32 5), 32, 32, (List.replicate 32 (.int .u8 0)), true, true⟩
        else
         some ⟨(.arr 64 5), 64, 64, (List.replicate 64 (.int .u8 0)), true, true⟩
      else
       bif Nat.blt t 261 then
        bif Nat.blt t 260 then
         some ⟨(.struct [(0, 17), (1, 17), (2, 17), (3, 9)]), 4, 40, [.nilptr, .nilptr, .nilptr, .str []], true, false⟩
        else
         some ⟨(.struct [(0, 17), (1, 17), (2, 17), (3, 9)]), 4, 40, [.nilptr, .nilptr, .nilptr, .str []], true, false⟩
       else
        bif Nat.blt t 262 then
         some ⟨(.arr 0 16), 0, 0, [], true, true⟩
        else
         some ⟨(.struct [(0, 261)]), 0, 0, [], true, false⟩
     else
      bif Nat.blt t 267 then
       bif Nat.blt t 265 then
        bif Nat.blt t 264 then
         some ⟨(.struct [(0, 261)]), 0, 0, [], true, false⟩
        else
         some ⟨(.int .u8), 1, 1, [.int .u8 0], true, true⟩
       else
        bif Nat.blt t 266 then
         some ⟨(.int .u8), 1, 1, [.int .u8 0], true, true⟩
        else
         some ⟨.func, 1, 8, [.nilfunc], false, true⟩
      else
       bif Nat.blt t 269 then
        bif Nat.blt t 268 then
         some ⟨(.int .i32), 1, 4, [.int .i32 0], true, true⟩
        else
         some ⟨(.int .i32), 1, 4, [.int .i32 0], true, true⟩
       else
        bif Nat.blt t 270 then
         some ⟨(.struct [(0, 12), (1, 12), (2, 227), (3, 264), (4, 5), (5, 5), (6, 265), (7, 266), (8, 154), (9, 267), (10, 268)]), 11, 48, [.int .u64 0, .int .u64 0, .int .u32 0, .int .u8 0, .int .u8 0, .int .u8 0, .int .u8 0, .nilfunc, .nilptr, .int .i32 0, .int .i32 0], false, false⟩
        else
         bif Nat.blt t 271 then
          some ⟨(.struct [(0, 12), (1, 12), (2, 227), (3, 264), (4, 5), (5, 5), (6, 265), (7, 266), (8, 154), (9, 267), (10, 268)]), 11, 48, [.int .u64 0, .int .u64 0, .int .u32 0, .int .u8 0, .int .u8 0, .int .u8 0, .int .u8 0, .nilfunc, .nilptr, .int .i32 0, .int .i32 0], false, false⟩
         else
          none

noncomputable def Tryz.tt (t : Nat) : Option TI := bif Nat.blt t 271 then Tryz.ttT t else none
noncomputable def Tryz.fnR (t : Nat) : Option Func :=
 bif Nat.blt t 150 then
  bif Nat.blt t 75 then
   bif Nat.blt t 37 then
    bif Nat.blt t 18 then
     bif Nat.blt t 9 then
      bif Nat.blt t 4 then
       bif Nat.blt t 2 then
        bif Nat.blt t 1 then
         none
        else
         none
       else
        bif Nat.blt t 3 then
         some Tryz.f2
        else
         some Tryz.f3
      else
       bif Nat.blt t 6 then
        bif Nat.blt t 5 then
         some Tryz.f4
        else
         some Tryz.f5
       else
        bif Nat.blt t 7 then
         some Tryz.f6
        else
         bif Nat.blt t 8 then
          some Tryz.f7
         else
          some Tryz.f8
     else
      bif Nat.blt t 13 then
       bif Nat.blt t 11 then
        bif Nat.blt t 10 then
         some Tryz.f9
        else
         some Tryz.f10
       else
        bif Nat.blt t 12 then
         some Tryz.f11
        else
         some Tryz.f12
      else
       bif Nat.blt t 15 then
        bif Nat.blt t 14 then
         some Tryz.f13
        else
         some Tryz.f14
       else
        bif Nat.blt t 16 then
         some Tryz.f15
        else
         bif Nat.blt t 17 then
          some Tryz.f16
         else
          some Tryz.f17
    else
     bif Nat.blt t 27 then
      bif Nat.blt t 22 then
       bif Nat.blt t 20 then
        bif Nat.blt t 19 then
         some Tryz.f18
        else
         some Tryz.f19
       else
        bif Nat.blt t 21 then
         some Tryz.f20
        else
         some Tryz.f21
      else
       bif Nat.blt t 24 then
        bif Nat.blt t 23 then
         some Tryz.f22
        else
         some Tryz.f23
       else
        bif Nat.blt t 25 then
         some Tryz.f24
        else
         bif Nat.blt t 26 then
          some Tryz.f25
         else
          some Tryz.f26
     else
      bif Nat.blt t 32 then
       bif Nat.blt t 29 then
        bif Nat.blt t 28 then
         some Tryz.f27
        else
         some Tryz.f28
       else
        bif Nat.blt t 30 then
         some Tryz.f29
        else
         bif Nat.blt t 31 then
          some Tryz.f30
         else
          some Tryz.f31
      else
       bif Nat.blt t 34 then
        bif Nat.blt t 33 then
         some Tryz.f32
        else
         some Tryz.f33
       else
        bif Nat.blt t 35 then
         some Tryz.f34
        else
         bif Nat.blt t 36 then
          some Tryz.f35
         else
          some Tryz.f36
   else
    bif Nat.blt t 56 then
     bif Nat.blt t 46 then
      bif Nat.blt t 41 then
       bif Nat.blt t 39 then
        bif Nat.blt t 38 then
         some Tryz.f37
        else
         some Tryz.f38
       else
        bif Nat.blt t 40 then
         some Tryz.f39
        else
         some Tryz.f40
      else
       bif Nat.blt t 43 then
        bif Nat.blt t 42 then
         some Tryz.f41
        else
         some Tryz.f42
       else
        bif Nat.blt t 44 then
         some Tryz.f43
        else
         bif Nat.blt t 45 then
          some Tryz.f44
         else
          some Tryz.f45
     else
      bif Nat.blt t 51 then
       bif Nat.blt t 48 then
        bif Nat.blt t 47 then
         some Tryz.f46
        else
         some Tryz.f47
       else
        bif Nat.blt t 49 then
         some Tryz.f48
        else
         bif Nat.blt t 50 then
          some Tryz.f49
         else
          some Tryz.f50
      else
       bif Nat.blt t 53 then
        bif Nat.blt t 52 then
         some Tryz.f51
        else
         some Tryz.f52
       else
        bif Nat.blt t 54 then
         some Tryz.f53
        else
         bif Nat.blt t 55 then
          some Tryz.f54
         else
          some Tryz.f55
    else
     bif Nat.blt t 65 then
      bif Nat.blt t 60 then
       bif Nat.blt t 58 then
        bif Nat.blt t 57 then
         some Tryz.f56
        else
         some Tryz.f57
       else
        bif Nat.blt t 59 then
         some Tryz.f58
        else
         some Tryz.f59
      else
       bif Nat.blt t 62 then
        bif Nat.blt t 61 then
         some Tryz.f60
        else
         some Tryz.f61
       else
        bif Nat.blt t 63 then
         some Tryz.f62
        else
         bif Nat.blt t 64 then
          some Tryz.f63
         else
          some Tryz.f64
     else
      bif Nat.blt t 70 then
       bif Nat.blt t 67 then
        bif Nat.blt t 66 then
         some Tryz.f65
        else
         some Tryz.f66
       else
        bif Nat.blt t 68 then
         some Tryz.f67
        else
         bif Nat.blt t 69 then
          some Tryz.f68
         else
          some Tryz.f69
      else
       bif Nat.blt t 72 then
        bif Nat.blt t 71 then
         some Tryz.f70
        else
         some Tryz.f71
       else
        bif Nat.blt t 73 then
         some Tryz.f72
        else
         bif Nat.blt t 74 then
          some Tryz.f73
         else
          some Tryz.f74
  else
   bif Nat.blt t 112 then
    bif Nat.blt t 93 then
     bif Nat.blt t 84 then
      bif Nat.blt t 79 then
       bif Nat.blt t 77 then
        bif Nat.blt t 76 then
         some Tryz.f75
        else
         some Tryz.f76
       else
        bif Nat.blt t 78 then
         some Tryz.f77
        else
         some Tryz.f78
      else
       bif Nat.blt t 81 then
        bif Nat.blt t 80 then
         some Tryz.f79
        else
         some Tryz.f80
       else
        bif Nat.blt t 82 then
         some Tryz.f81
        else
         bif Nat.blt t 83 then
          some Tryz.f82
         else
          some Tryz.f83
     else
      bif Nat.blt t 88 then
       bif Nat.blt t 86 then
        bif Nat.blt t 85 then
         some Tryz.f84
        else
         some Tryz.f85
       else
        bif Nat.blt t 87 then
         some Tryz.f86
        else
         some Tryz.f87
      else
       bif Nat.blt t 90 then
        bif Nat.blt t 89 then
         some Tryz.f88
        else
         some Tryz.f89
       else
        bif Nat.blt t 91 then
         some Tryz.f90
        else
         bif Nat.blt t 92 then
          some Tryz.f91
         else
          some Tryz.f92
    else
     bif Nat.blt t 102 then
      bif Nat.blt t 97 then
       bif Nat.blt t 95 then
        bif Nat.blt t 94 then
         some Tryz.f93
        else
         some Tryz.f94
       else
        bif Nat.blt t 96 then
         some Tryz.f95
        else
         some Tryz.f96
      else
       bif Nat.blt t 99 then
        bif Nat.blt t 98 then
         some Tryz.f97
        else
         some Tryz.f98
       else
        bif Nat.blt t 100 then
         some Tryz.f99
        else
         bif Nat.blt t 101 then
          some Tryz.f100
         else
          some Tryz.f101
     else
      bif Nat.blt t 107 then
       bif Nat.blt t 104 then
        bif Nat.blt t 103 then
         some Tryz.f102
        else
         some Tryz.f103
       else
        bif Nat.blt t 105 then
         some Tryz.f104
        else
         bif Nat.blt t 106 then
          some Tryz.f105
         else
          some Tryz.f106
      else
       bif Nat.blt t 109 then
        bif Nat.blt t 108 then
         some Tryz.f107
        else
         some Tryz.f108
       else
        bif Nat.blt t 110 then
         some Tryz.f109
        else
         bif Nat.blt t 111 then
          some Tryz.f110
         else
          some Tryz.f111
   else
    bif Nat.blt t 131 then
     bif Nat.blt t 121 then
      bif Nat.blt t 116 then
       bif Nat.blt t 114 then
        bif Nat.blt t 113 then
         some Tryz.f112
        else
         some Tryz.f113
       else
        bif Nat.blt t 115 then
         some Tryz.f114
        else
         some Tryz.f115
      else
       bif Nat.blt t 118 then
        bif Nat.blt t 117 then
         some Tryz.f116
        else
         some Tryz.f117
       else
        bif Nat.blt t 119 then
         some Tryz.f118
        else
         bif Nat.blt t 120 then
          some Tryz.f119
         else
          some Tryz.f120
     else
      bif Nat.blt t 126 then
       bif Nat.blt t 123 then
        bif Nat.blt t 122 then
         some Tryz.f121
        else
         some Tryz.f122
       else
        bif Nat.blt t 124 then
         some Tryz.f123
        else
         bif Nat.blt t 125 then
          some Tryz.f124
         else
          some Tryz.f125
      else
       bif Nat.blt t 128 then
        bif Nat.blt t 127 then
         some Tryz.f126
        else
         some Tryz.f127
       else
        bif Nat.blt t 129 then
         some Tryz.f128
        else
         bif Nat.blt t 130 then
          some Tryz.f129
         else
          some Tryz.f130
    else
     bif Nat.blt t 140 then
      bif Nat.blt t 135 then
       bif Nat.blt t 133 then
        bif Nat.blt t 132 then
         some Tryz.f131
        else
         some Tryz.f132
       else
        bif Nat.blt t 134 then
         some Tryz.f133
        else
         some Tryz.f134
      else
       bif Nat.blt t 137 then
        bif Nat.blt t 136 then
         some Tryz.f135
        else
         some Tryz.f136
       else
        bif Nat.blt t 138 then
         some Tryz.f137
        else
         bif Nat.blt t 139 then
          some Tryz.f138
         else
          some Tryz.f139
     else
      bif Nat.blt t 145 then
       bif Nat.blt t 142 then
        bif Nat.blt t 141 then
         some Tryz.f140
        else
         some Tryz.f141
       else
        bif Nat.blt t 143 then
         some Tryz.f142
        else
         bif Nat.blt t 144 then
          some Tryz.f143
         else
          some Tryz.f144
      else
       bif Nat.blt t 147 then
        bif Nat.blt t 146 then
         some Tryz.f145
        else
         some Tryz.f146
       else
        bif Nat.blt t 148 then
         some Tryz.f147
        else
         bif Nat.blt t 149 then
          some Tryz.f148
         else
          some Tryz.f149
 else
  bif Nat.blt t 225 then
   bif Nat.blt t 187 then
    bif Nat.blt t 168 then
     bif Nat.blt t 159 then
      bif Nat.blt t 154 then
       bif Nat.blt t 152 then
        bif Nat.blt t 151 then
         some Tryz.f150
        else
         some Tryz.f151
       else
        bif Nat.blt t 153 then
         some Tryz.f152
        else
         some Tryz.f153
      else
       bif Nat.blt t 156 then
        bif Nat.blt t 155 then
         some Tryz.f154
        else
         some Tryz.f155
       else
        bif Nat.blt t 157 then
         some Tryz.f156
        else
         bif Nat.blt t 158 then
          some Tryz.f157
         else
          some Tryz.f158
     else
      bif Nat.blt t 163 then
       bif Nat.blt t 161 then
        bif Nat.blt t 160 then
         some Tryz.f159
        else
         some Tryz.f160
       else
        bif Nat.blt t 162 then
         some Tryz.f161
        else
         some Tryz.f162
      else
       bif Nat.blt t 165 then
        bif Nat.blt t 164 then
         some Tryz.f163
        else
         some Tryz.f164
       else
        bif Nat.blt t 166 then
         some Tryz.f165
        else
         bif Nat.blt t 167 then
          some Tryz.f166
         else
          some Tryz.f167
    else
     bif Nat.blt t 177 then
      bif Nat.blt t 172 then
       bif Nat.blt t 170 then
        bif Nat.blt t 169 then
         some Tryz.f168
        else
         some Tryz.f169
       else
        bif Nat.blt t 171 then
         none
        else
         some Tryz.f171
      else
       bif Nat.blt t 174 then
        bif Nat.blt t 173 then
         some Tryz.f172
        else
         some Tryz.f173
       else
        bif Nat.blt t 175 then
         some Tryz.f174
        else
         bif Nat.blt t 176 then
          some Tryz.f175
         else
          some Tryz.f176
     else
      bif Nat.blt t 182 then
       bif Nat.blt t 179 then
        bif Nat.blt t 178 then
         some Tryz.f177
        else
         some Tryz.f178
       else
        bif Nat.blt t 180 then
         some Tryz.f179
        else
         bif Nat.blt t 181 then
          some Tryz.f180
         else
          some Tryz.f181
      else
       bif Nat.blt t 184 then
        bif Nat.blt t 183 then
         some Tryz.f182
        else
         some Tryz.f183
       else
        bif Nat.blt t 185 then
         some Tryz.f184
        else
         bif Nat.blt t 186 then
          some Tryz.f185
         else
          some Tryz.f186
   else
    bif Nat.blt t 206 then
     bif Nat.blt t 196 then
      bif Nat.blt t 191 then
       bif Nat.blt t 189 then
        bif Nat.blt t 188 then
         some Tryz.f187
        else
         some Tryz.f188
       else
        bif Nat.blt t 190 then
         some Tryz.f189
        else
         some Tryz.f190
      else
       bif Nat.blt t 193 then
        bif Nat.blt t 192 then
         some Tryz.f191
        else
         some Tryz.f192
       else
        bif Nat.blt t 194 then
         some Tryz.f193
        else
         bif Nat.blt t 195 then
          some Tryz.f194
         else
          some Tryz.f195
     else
      bif Nat.blt t 201 then
       bif Nat.blt t 198 then
        bif Nat.blt t 197 then
         some Tryz.f196
        else
         some Tryz.f197
       else
        bif Nat.blt t 199 then
         some Tryz.f198
        else
         bif Nat.blt t 200 then
          none
         else
          some Tryz.f200
      else
       bif Nat.blt t 203 then
        bif Nat.blt t 202 then
         some Tryz.f201
        else
         some Tryz.f202
       else
        bif Nat.blt t 204 then
         some Tryz.f203
        else
         bif Nat.blt t 205 then
          some Tryz.f204
         else
          some Tryz.f205
    else
     bif Nat.blt t 215 then
      bif Nat.blt t 210 then
       bif Nat.blt t 208 then
        bif Nat.blt t 207 then
         none
        else
         none
       else
        bif Nat.blt t 209 then
         some Tryz.f208
        else
         some Tryz.f209
      else
       bif Nat.blt t 212 then
        bif Nat.blt t 211 then
         some Tryz.f210
        else
         some Tryz.f211
       else
        bif Nat.blt t 213 then
         some Tryz.f212
        else
         bif Nat.blt t 214 then
          some Tryz.f213
         else
          some Tryz.f214
     else
      bif Nat.blt t 220 then
       bif Nat.blt t 217 then
        bif Nat.blt t 216 then
         some Tryz.f215
        else
         some Tryz.f216
       else
        bif Nat.blt t 218 then
         some Tryz.f217
        else
         bif Nat.blt t 219 then
          some Tryz.f218
         else
          some Tryz.f219
      else
       bif Nat.blt t 222 then
        bif Nat.blt t 221 then
         some Tryz.f220
        else
         some Tryz.f221
       else
        bif Nat.blt t 223 then
         some Tryz.f222
        else
         bif Nat.blt t 224 then
          some Tryz.f223
         else
          some Tryz.f224
  else
   bif Nat.blt t 262 then
    bif Nat.blt t 243 then
     bif Nat.blt t 234 then
      bif Nat.blt t 229 then
       bif Nat.blt t 227 then
        bif Nat.blt t 226 then
         some Tryz.f225
        else
         some Tryz.f226
       else
        bif Nat.blt t 228 then
         some Tryz.f227
        else
         some Tryz.f228
      else
       bif Nat.blt t 231 then
        bif Nat.blt t 230 then
         some Tryz.f229
        else
         some Tryz.f230
       else
        bif Nat.blt t 232 then
         none
        else
         bif Nat.blt t 233 then
          some Tryz.f232
         else
          some Tryz.f233
     else
      bif Nat.blt t 238 then
       bif Nat.blt t 236 then
        bif Nat.blt t 235 then
         some Tryz.f234
        else
         some Tryz.f235
       else
        bif Nat.blt t 237 then
         some Tryz.f236
        else
         some Tryz.f237
      else
       bif Nat.blt t 240 then
        bif Nat.blt t 239 then
         some Tryz.f238
        else
         some Tryz.f239
       else
        bif Nat.blt t 241 then
         some Tryz.f240
        else
         bif Nat.blt t 242 then
          some Tryz.f241
         else
          some Tryz.f242
    else
     bif Nat.blt t 252 then
      bif Nat.blt t 247 then
       bif Nat.blt t 245 then
        bif Nat.blt t 244 then
         some Tryz.f243
        else
         some Tryz.f244
       else
        bif Nat.blt t 246 then
         some Tryz.f245
        else
         some Tryz.f246
      else
       bif Nat.blt t 249 then
        bif Nat.blt t 248 then
         some Tryz.f247
        else
         some Tryz.f248
       else
        bif Nat.blt t 250 then
         some Tryz.f249
        else
         bif Nat.blt t 251 then
          some Tryz.f250
         else
          some Tryz.f251
     else
      bif Nat.blt t 257 then
       bif Nat.blt t 254 then
        bif Nat.blt t 253 then
         some Tryz.f252
        else
         some Tryz.f253
       else
        bif Nat.blt t 255 then
         some Tryz.f254
        else
         bif Nat.blt t 256 then
          some Tryz.f255
         else
          some Tryz.f256
      else
       bif Nat.blt t 259 then
        bif Nat.blt t 258 then
         some Tryz.f257
        else
         some Tryz.f258
       else
        bif Nat.blt t 260 then
         some Tryz.f259
        else
         bif Nat.blt t 261 then
          some Tryz.f260
         else
          some Tryz.f261
   else
    bif Nat.blt t 281 then
     bif Nat.blt t 271 then
      bif Nat.blt t 266 then
       bif Nat.blt t 264 then
        bif Nat.blt t 263 then
         some Tryz.f262
        else
         some Tryz.f263
       else
        bif Nat.blt t 265 then
         some Tryz.f264
        else
         some Tryz.f265
      else
       bif Nat.blt t 268 then
        bif Nat.blt t 267 then
         some Tryz.f266
        else
         some Tryz.f267
       else
        bif Nat.blt t 269 then
         none
        else
         bif Nat.blt t 270 then
          none
         else
          none
     else
      bif Nat.blt t 276 then
       bif Nat.blt t 273 then
        bif Nat.blt t 272 then
         none
        else
         none
       else
        bif Nat.blt t 274 then
         none
        else
         bif Nat.blt t 275 then
          none
         else
          none
      else
       bif Nat.blt t 278 then
        bif Nat.blt t 277 then
         none
        else
         none
       else
        bif Nat.blt t 279 then
         none
        else
         bif Nat.blt t 280 then
          none
         else
          none
    else
     bif Nat.blt t 290 then
      bif Nat.blt t 285 then
       bif Nat.blt t 283 then
        bif Nat.blt t 282 then
         none
        else
         none
       else
        bif Nat.blt t 284 then
         none
        else
         none
      else
       bif Nat.blt t 287 then
        bif Nat.blt t 286 then
         none
        else
         none
       else
        bif Nat.blt t 288 then
         none
        else
         bif Nat.blt t 289 then
          none
         else
          none
     else
      bif Nat.blt t 295 then
       bif Nat.blt t 292 then
        bif Nat.blt t 291 then
         none
        else
         none
       else
        bif Nat.blt t 293 then
         none
        else
         bif Nat.blt t 294 then
          none
         else
          none
      else
       bif Nat.blt t 297 then
        bif Nat.blt t 296 then
         none
        else
         none
       else
        bif Nat.blt t 298 then
         none
        else
         bif Nat.blt t 299 then
          some Tryz.f298
         else
          none

noncomputable def Tryz.fnT (t : Nat) : Option Func := bif Nat.blt t 299 then Tryz.fnR t else none
def Tryz.nTypes : Nat := 271
def Tryz.nFuncs : Nat := 299

theorem Tryz.tt_eq : (List.range 271).map Tryz.tt = (List.range 271).map (fun t => bif (Tryz.tt t).isSome then tiOf Tryz.prog t else none) := by kernel_rfl
theorem Tryz.fn_eq : (List.range 299).map Tryz.fnT = (List.range 299).map (fun f => bif (Tryz.fnT f).isSome then Tryz.prog.funcs[f]? else none) := by kernel_rfl
theorem Tryz.fn_sane : (List.range 299).all (fun f => saneFn (Tryz.fnT f)) = true := by kernel_rfl
theorem Tryz.fn_mixed : Tryz.prog.follows .mixedOrders = true := by kernel_rfl
theorem Tryz.tt_out : ∀ t, 271 ≤ t → Tryz.tt t = none := by
  intro t ht
  have lt : Nat.blt t 271 = false := by rw [Bool.eq_false_iff]; intro h; rw [Nat.blt_eq] at h; omega
  unfold Tryz.tt
  rw [lt]; rfl
theorem Tryz.fnT_out : ∀ t, 299 ≤ t → Tryz.fnT t = none := by
  intro t ht
  have lt : Nat.blt t 299 = false := by rw [Bool.eq_false_iff]; intro h; rw [Nat.blt_eq] at h; omega
  unfold Tryz.fnT
  rw [lt]; rfl
theorem Tryz.eok (E : Env) (ht : E.tt = Tryz.tt) (hf : E.fn = Tryz.fnT) : EOk Tryz.prog E := by
  refine eok_of 271 299 (by rw [ht]; exact Tryz.tt_out) (by rw [hf]; exact Tryz.fnT_out) ?_ ?_ (by rw [hf]; exact Tryz.fn_sane) Tryz.fn_mixed
  · intro t hlt
    rw [ht]; exact pick_of (map_range Tryz.tt_eq t hlt)
  · intro t hlt
    rw [hf]; exact pick_of (map_range Tryz.fn_eq t hlt)
end Go.Proofs
