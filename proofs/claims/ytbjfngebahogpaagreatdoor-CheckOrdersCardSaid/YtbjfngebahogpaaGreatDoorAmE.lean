/- The machine for the seat's program. No condition. -/
import Derived.Test.YtbjfngebahogpaaGreatDoorAmBuild
namespace Go.Proofs
open Go.Am

noncomputable def Tryz.prim (f : Nat) : Option (List PV → St → Option (PV × St)) :=
  bif Nat.beq f 118 then some (primCopy 109) else
  bif Nat.beq f 71 then some (primStr 109 5) else
  bif Nat.beq f 145 then some (primGrow 109 5) else
  bif Nat.beq f 206 then some primIndexByte else
  bif Nat.beq f 199 then some primAdd64 else none

theorem Tryz.builderOk : BuilderOk Tryz.prog 109 5 118 71 145 where
  enter := fun f hf vs w => by
    rcases hf with rfl | rfl | rfl
    · exact run_callFunc Tryz.func118 (by kernel_rfl) rfl vs w
    · exact run_callFunc Tryz.func71 (by kernel_rfl) rfl vs w
    · exact run_callFunc Tryz.func145 (by kernel_rfl) rfl vs w
  fresh := fun b n w h0 hsh hn hfz => Tryz.copy_fresh b n w h0 hsh hn hfz
  used := fun b w h0 => Tryz.copy_used b w h0
  str0 := fun b w h => Tryz.str_nil b w h
  str := fun b g cap cur l w h1 hg h0 hlc hcm hcs hc => Tryz.str_some b g cap cur l w h1 hg h0 hlc hcm hcs hc
  grow := fun b n vs w hbk h2 h0 h1 hn0 hn => Tryz.Grow_fresh b n vs w hbk h2 h0 h1 hn0 hn

theorem args0 {C : Conf} {S : St} {vs : Array Value} (h : ARel C S [] vs) : vs = #[] := Array.eq_empty_of_size_eq_zero h.1.symm

def u8s (l : List Nat) : List PV := l.map fun n => PV.int .u8 (Int.ofNat n)

noncomputable def Tryz.glb (g : Nat) : Option (List PV) :=
  bif Nat.beq g 1 then some (u8s [128,191,160,191,128,159,144,191,128,143,0,0,0,0,0,0,0,0,0,0,0,0,0,0,0,0,0,0,0,0,0,0]) else
  bif Nat.beq g 0 then some (u8s ((List.replicate 128 0xF0) ++ (List.replicate 66 0xF1) ++ (List.replicate 30 0x02) ++ [0x13] ++ (List.replicate 12 0x03) ++ [0x23,0x03,0x03] ++ [0x34,0x04,0x04,0x04,0x44] ++ List.replicate 11 0xF1)) else
  bif Nat.beq g 7 then some ([1, 10, 100, 1000, 10000, 100000, 1000000, 10000000, 100000000, 1000000000, 10000000000, 100000000000, 1000000000000, 10000000000000, 100000000000000, 1000000000000000, 10000000000000000, 100000000000000000, 1000000000000000000, 10000000000000000000].map fun n => PV.int .u64 (Int.ofNat n)) else
  bif Nat.beq g 3 then some [.iface 247 (.imm 0 [.str [105, 110, 118, 97, 108, 105, 100, 32, 115, 121, 110, 116, 97, 120]])] else
  bif Nat.beq g 4 then some [.iface 247 (.imm 0 [.str [118, 97, 108, 117, 101, 32, 111, 117, 116, 32, 111, 102, 32, 114, 97, 110, 103, 101]])] else none

def Tryz.raw (f : Nat) : Bool := [191, 230, 51, 52, 83, 78, 79, 81, 82, 80, 45, 72, 181, 182].any (Nat.beq f)
def Tryz.ro (f : Nat) : Bool := [100, 105, 108, 166, 210, 124, 121, 178].any (Nat.beq f)
def Tryz.heapy (f : Nat) : Bool := [51, 80].any (Nat.beq f)

noncomputable def Tryz.E : Env := { tt := Tryz.tt, glob := Tryz.glb, fn := Tryz.fnT, prim := Tryz.prim, raw := Tryz.raw, ro := Tryz.ro, heapy := Tryz.heapy }

theorem Tryz.E_ok : EOk Tryz.prog Tryz.E := Tryz.eok Tryz.E rfl rfl

set_option maxRecDepth 100000 in
theorem Tryz.prims : PrimOK Tryz.prog Tryz.E := by
  intro f p hp
  simp only [Tryz.E, Tryz.prim, cond_eq_ite, nat_beq] at hp
  split at hp
  · rename_i h; subst h; cases hp; exact primCopy_ok Tryz.builderOk
  split at hp
  · rename_i h; subst h; cases hp; exact primStr_ok Tryz.builderOk
  split at hp
  · rename_i h; subst h; cases hp; exact primGrow_ok Tryz.builderOk
  split at hp
  · rename_i h; subst h; cases hp
    exact primIndexByte_ok Tryz.func206 (by kernel_rfl) (by kernel_rfl) (by kernel_rfl) (by kernel_rfl)
  split at hp
  · rename_i h; subst h; cases hp
    exact primAdd64_ok Tryz.func199 (by kernel_rfl) (by kernel_rfl) (by kernel_rfl) (by kernel_rfl)
  · cases hp

set_option maxRecDepth 100000 in
/-- What the machine comes to, the seat's program comes to. -/
theorem Tryz.sound : CallOK Tryz.prog Tryz.E (callW Tryz.E) := callW_ok Tryz.E_ok Tryz.prims

end Go.Proofs
