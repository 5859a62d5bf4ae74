/- Facts on this translation's types and functions, each checked by the kernel. No condition. -/
import Derived.Test.YthbcdffldcdfoaaProg
import Derived.Test.YthbcdffldcdfoaaLgi
namespace Go.Proofs.Ythbcdffldcdfoaa
open Go Lg
theorem ty3 : Ty Try.prog 3 false 1 := ⟨⟨_, Try.underlying3, rfl⟩, by kernel_rfl, fun _ => rfl⟩
theorem sz3 : (Try.prog.info? 3).map (·.size) = some 1 := by kernel_rfl
theorem ty4 : Ty Try.prog 4 false 1 := ⟨⟨_, Try.underlying4, rfl⟩, by kernel_rfl, fun _ => rfl⟩
theorem sz4 : (Try.prog.info? 4).map (·.size) = some 1 := by kernel_rfl
theorem ty24 : Ty Try.prog 24 false 1 := ⟨⟨_, Try.underlying24, rfl⟩, by kernel_rfl, fun _ => rfl⟩
theorem sz24 : (Try.prog.info? 24).map (·.size) = some 1 := by kernel_rfl
theorem ty27 : Ty Try.prog 27 false 1 := ⟨⟨_, Try.underlying27, rfl⟩, by kernel_rfl, fun _ => rfl⟩
theorem sz27 : (Try.prog.info? 27).map (·.size) = some 1 := by kernel_rfl
theorem ty28 : Ty Try.prog 28 false 1 := ⟨⟨_, Try.underlying28, rfl⟩, by kernel_rfl, fun _ => rfl⟩
theorem sz28 : (Try.prog.info? 28).map (·.size) = some 1 := by kernel_rfl
theorem ty30 : Ty Try.prog 30 true 7 := ⟨⟨_, Try.underlying30, rfl⟩, by kernel_rfl, fun h => by cases h⟩
theorem sz30 : (Try.prog.info? 30).map (·.size) = some 7 := by kernel_rfl
theorem ty39 : Ty Try.prog 39 true 5 := ⟨⟨_, Try.underlying39, rfl⟩, by kernel_rfl, fun h => by cases h⟩
theorem sz39 : (Try.prog.info? 39).map (·.size) = some 5 := by kernel_rfl
theorem ty48 : Ty Try.prog 48 false 1 := ⟨⟨_, Try.underlying48, rfl⟩, by kernel_rfl, fun _ => rfl⟩
theorem sz48 : (Try.prog.info? 48).map (·.size) = some 1 := by kernel_rfl
theorem ty51 : Ty Try.prog 51 false 1 := ⟨⟨_, Try.underlying51, rfl⟩, by kernel_rfl, fun _ => rfl⟩
theorem sz51 : (Try.prog.info? 51).map (·.size) = some 1 := by kernel_rfl
theorem ty53 : Ty Try.prog 53 true 1 := ⟨⟨_, Try.underlying53, rfl⟩, by kernel_rfl, fun h => by cases h⟩
theorem sz53 : (Try.prog.info? 53).map (·.size) = some 1 := by kernel_rfl
theorem ty55 : Ty Try.prog 55 true 3 := ⟨⟨_, Try.underlying55, rfl⟩, by kernel_rfl, fun h => by cases h⟩
theorem sz55 : (Try.prog.info? 55).map (·.size) = some 3 := by kernel_rfl
theorem ty57 : Ty Try.prog 57 true 2 := ⟨⟨_, Try.underlying57, rfl⟩, by kernel_rfl, fun h => by cases h⟩
theorem sz57 : (Try.prog.info? 57).map (·.size) = some 2 := by kernel_rfl
theorem ty70 : Ty Try.prog 70 true 4 := ⟨⟨_, Try.underlying70, rfl⟩, by kernel_rfl, fun h => by cases h⟩
theorem sz70 : (Try.prog.info? 70).map (·.size) = some 4 := by kernel_rfl
theorem ty77 : Ty Try.prog 77 false 1 := ⟨⟨_, Try.underlying77, rfl⟩, by kernel_rfl, fun _ => rfl⟩
theorem sz77 : (Try.prog.info? 77).map (·.size) = some 1 := by kernel_rfl
theorem ty79 : Ty Try.prog 79 true 1 := ⟨⟨_, Try.underlying79, rfl⟩, by kernel_rfl, fun h => by cases h⟩
theorem sz79 : (Try.prog.info? 79).map (·.size) = some 1 := by kernel_rfl
theorem ty85 : Ty Try.prog 85 true 6 := ⟨⟨_, Try.underlying85, rfl⟩, by kernel_rfl, fun h => by cases h⟩
theorem sz85 : (Try.prog.info? 85).map (·.size) = some 6 := by kernel_rfl
theorem ty87 : Ty Try.prog 87 false 1 := ⟨⟨_, Try.underlying87, rfl⟩, by kernel_rfl, fun _ => rfl⟩
theorem sz87 : (Try.prog.info? 87).map (·.size) = some 1 := by kernel_rfl
theorem ty89 : Ty Try.prog 89 true 1 := ⟨⟨_, Try.underlying89, rfl⟩, by kernel_rfl, fun h => by cases h⟩
theorem sz89 : (Try.prog.info? 89).map (·.size) = some 1 := by kernel_rfl
theorem ty93 : Ty Try.prog 93 false 1 := ⟨⟨_, Try.underlying93, rfl⟩, by kernel_rfl, fun _ => rfl⟩
theorem sz93 : (Try.prog.info? 93).map (·.size) = some 1 := by kernel_rfl
theorem ty95 : Ty Try.prog 95 false 1 := ⟨⟨_, Try.underlying95, rfl⟩, by kernel_rfl, fun _ => rfl⟩
theorem sz95 : (Try.prog.info? 95).map (·.size) = some 1 := by kernel_rfl
theorem ty97 : Ty Try.prog 97 true 2 := ⟨⟨_, Try.underlying97, rfl⟩, by kernel_rfl, fun h => by cases h⟩
theorem sz97 : (Try.prog.info? 97).map (·.size) = some 2 := by kernel_rfl
theorem ty102 : Ty Try.prog 102 true 2 := ⟨⟨_, Try.underlying102, rfl⟩, by kernel_rfl, fun h => by cases h⟩
theorem sz102 : (Try.prog.info? 102).map (·.size) = some 2 := by kernel_rfl
theorem ty104 : Ty Try.prog 104 true 5 := ⟨⟨_, Try.underlying104, rfl⟩, by kernel_rfl, fun h => by cases h⟩
theorem sz104 : (Try.prog.info? 104).map (·.size) = some 5 := by kernel_rfl
theorem ty105 : Ty Try.prog 105 true 5 := ⟨⟨_, Try.underlying105, rfl⟩, by kernel_rfl, fun h => by cases h⟩
theorem sz105 : (Try.prog.info? 105).map (·.size) = some 5 := by kernel_rfl
theorem ty108 : Ty Try.prog 108 true 2 := ⟨⟨_, Try.underlying108, rfl⟩, by kernel_rfl, fun h => by cases h⟩
theorem sz108 : (Try.prog.info? 108).map (·.size) = some 2 := by kernel_rfl
theorem ty110 : Ty Try.prog 110 true 5 := ⟨⟨_, Try.underlying110, rfl⟩, by kernel_rfl, fun h => by cases h⟩
theorem sz110 : (Try.prog.info? 110).map (·.size) = some 5 := by kernel_rfl
theorem z3 : (Try.prog.info? 3).map (·.zero) = some (some (.int .i64 0)) := by kernel_rfl
theorem z30 : (Try.prog.info? 30).map (·.zero) = some (some (.agg #[(.int .i64 0), (.int .i64 0), (.int .i64 0), (.int .i64 0), (.slice none 0 0), (.int .i64 0), (.slice none 0 0)])) := by kernel_rfl
theorem z39 : (Try.prog.info? 39).map (·.zero) = some (some (.agg #[(.slice none 0 0), (.int .i64 0), (.slice none 0 0), (.int .i64 0), (.int .i64 0)])) := by kernel_rfl
theorem z53 : (Try.prog.info? 53).map (·.zero) = some (some (.agg #[(.slice none 0 0)])) := by kernel_rfl
theorem z55 : (Try.prog.info? 55).map (·.zero) = some (some (.agg #[(.int .i64 0), (.int .i64 0), (.int .i64 0)])) := by kernel_rfl
theorem z57 : (Try.prog.info? 57).map (·.zero) = some (some (.agg #[(.int .i64 0), (.int .i64 0)])) := by kernel_rfl
theorem z70 : (Try.prog.info? 70).map (·.zero) = some (some (.agg #[(.slice none 0 0), (.int .i64 0), (.int .i64 0), (.int .i64 0)])) := by kernel_rfl
theorem z79 : (Try.prog.info? 79).map (·.zero) = some (some (.agg #[(.slice none 0 0)])) := by kernel_rfl
theorem z85 : (Try.prog.info? 85).map (·.zero) = some (some (.agg #[(.slice none 0 0), (.slice none 0 0), (.slice none 0 0), (.slice none 0 0), (.slice none 0 0), (.slice none 0 0)])) := by kernel_rfl
theorem z89 : (Try.prog.info? 89).map (·.zero) = some (some (.agg #[.nilFunc])) := by kernel_rfl
theorem z97 : (Try.prog.info? 97).map (·.zero) = some (some (.agg #[(.slice none 0 0), (.map none)])) := by kernel_rfl
theorem z102 : (Try.prog.info? 102).map (·.zero) = some (some (.agg #[(.pointer none), (.int .i64 0)])) := by kernel_rfl
theorem z104 : (Try.prog.info? 104).map (·.zero) = some (some (.agg #[(.pointer none), (.int .i64 0), (.pointer none), (.int .i64 0), (.int .i64 0)])) := by kernel_rfl
theorem z105 : (Try.prog.info? 105).map (·.zero) = some (some (.agg #[(.int .i64 0), (.int .i64 0), (.int .i64 0), (.int .i64 0), (.int .i64 0)])) := by kernel_rfl
theorem z108 : (Try.prog.info? 108).map (·.zero) = some (some (.agg #[(.int .i64 0), (.slice none 0 0)])) := by kernel_rfl
theorem z110 : (Try.prog.info? 110).map (·.zero) = some (some (.agg #[(.bool false), (.int .i64 0), (.slice none 0 0), (.int .i64 0), (.slice none 0 0)])) := by kernel_rfl
theorem bs3 : (Try.prog.info? 3).map (fun i => (i.zero, i.size, i.bytes)) = some (some (.int .i64 0), 1, 8) := by kernel_rfl
theorem bs39 : (Try.prog.info? 39).map (fun i => (i.zero, i.size, i.bytes)) = some (some (.agg #[(.slice none 0 0), (.int .i64 0), (.slice none 0 0), (.int .i64 0), (.int .i64 0)]), 5, 72) := by kernel_rfl
theorem bs57 : (Try.prog.info? 57).map (fun i => (i.zero, i.size, i.bytes)) = some (some (.agg #[(.int .i64 0), (.int .i64 0)]), 2, 16) := by kernel_rfl
theorem bs108 : (Try.prog.info? 108).map (fun i => (i.zero, i.size, i.bytes)) = some (some (.agg #[(.int .i64 0), (.slice none 0 0)]), 2, 32) := by kernel_rfl
theorem bs110 : (Try.prog.info? 110).map (fun i => (i.zero, i.size, i.bytes)) = some (some (.agg #[(.bool false), (.int .i64 0), (.slice none 0 0), (.int .i64 0), (.slice none 0 0)]), 5, 72) := by kernel_rfl
theorem fz3 : (Try.prog.info? 3).map (fun i => Nat.blt 0 i.size) = some true := by kernel_rfl
theorem fz27 : (Try.prog.info? 27).map (fun i => Nat.blt 0 i.size) = some true := by kernel_rfl
theorem fz28 : (Try.prog.info? 28).map (fun i => Nat.blt 0 i.size) = some true := by kernel_rfl
theorem fz48 : (Try.prog.info? 48).map (fun i => Nat.blt 0 i.size) = some true := by kernel_rfl
theorem fz51 : (Try.prog.info? 51).map (fun i => Nat.blt 0 i.size) = some true := by kernel_rfl
theorem fz53 : (Try.prog.info? 53).map (fun i => Nat.blt 0 i.size) = some true := by kernel_rfl
theorem fz77 : (Try.prog.info? 77).map (fun i => Nat.blt 0 i.size) = some true := by kernel_rfl
theorem fz87 : (Try.prog.info? 87).map (fun i => Nat.blt 0 i.size) = some true := by kernel_rfl
theorem fz93 : (Try.prog.info? 93).map (fun i => Nat.blt 0 i.size) = some true := by kernel_rfl
theorem fz95 : (Try.prog.info? 95).map (fun i => Nat.blt 0 i.size) = some true := by kernel_rfl
theorem fz102 : (Try.prog.info? 102).map (fun i => Nat.blt 0 i.size) = some true := by kernel_rfl
theorem fz108 : (Try.prog.info? 108).map (fun i => Nat.blt 0 i.size) = some true := by kernel_rfl
theorem bl39 : Bl Try.prog 39 [(.slice none 0 0), (.int .i64 0), (.slice none 0 0), (.int .i64 0), (.int .i64 0)] [(0, 1), (1, 1), (2, 1), (3, 1), (4, 1)] := ⟨⟨_, Try.underlying39, by kernel_rfl⟩, by kernel_rfl⟩
theorem bl53 : Bl Try.prog 53 [(.slice none 0 0)] [(0, 1)] := ⟨⟨_, Try.underlying53, by kernel_rfl⟩, by kernel_rfl⟩
theorem bl57 : Bl Try.prog 57 [(.int .i64 0), (.int .i64 0)] [(0, 1), (1, 1)] := ⟨⟨_, Try.underlying57, by kernel_rfl⟩, by kernel_rfl⟩
theorem bl70 : Bl Try.prog 70 [(.slice none 0 0), (.int .i64 0), (.int .i64 0), (.int .i64 0)] [(0, 1), (1, 1), (2, 1), (3, 1)] := ⟨⟨_, Try.underlying70, by kernel_rfl⟩, by kernel_rfl⟩
theorem bl79 : Bl Try.prog 79 [(.slice none 0 0)] [(0, 1)] := ⟨⟨_, Try.underlying79, by kernel_rfl⟩, by kernel_rfl⟩
theorem bl89 : Bl Try.prog 89 [.nilFunc] [(0, 1)] := ⟨⟨_, Try.underlying89, by kernel_rfl⟩, by kernel_rfl⟩
theorem bl97 : Bl Try.prog 97 [(.slice none 0 0), (.map none)] [(0, 1), (1, 1)] := ⟨⟨_, Try.underlying97, by kernel_rfl⟩, by kernel_rfl⟩
theorem bl102 : Bl Try.prog 102 [(.pointer none), (.int .i64 0)] [(0, 1), (1, 1)] := ⟨⟨_, Try.underlying102, by kernel_rfl⟩, by kernel_rfl⟩
theorem bl104 : Bl Try.prog 104 [(.pointer none), (.int .i64 0), (.pointer none), (.int .i64 0), (.int .i64 0)] [(0, 2), (2, 2), (4, 1)] := ⟨⟨_, Try.underlying104, by kernel_rfl⟩, by kernel_rfl⟩
theorem pl10 : Plainf Try.prog 10 = true := by kernel_rfl
theorem pl11 : Plainf Try.prog 11 = true := by kernel_rfl
theorem pl12 : Plainf Try.prog 12 = true := by kernel_rfl
theorem pl13 : Plainf Try.prog 13 = true := by kernel_rfl
theorem pl14 : Plainf Try.prog 14 = true := by kernel_rfl
theorem pl15 : Plainf Try.prog 15 = true := by kernel_rfl
theorem pl16 : Plainf Try.prog 16 = true := by kernel_rfl
theorem pl17 : Plainf Try.prog 17 = true := by kernel_rfl
theorem pl18 : Plainf Try.prog 18 = true := by kernel_rfl
theorem pl19 : Plainf Try.prog 19 = true := by kernel_rfl
theorem pl20 : Plainf Try.prog 20 = true := by kernel_rfl
theorem pl21 : Plainf Try.prog 21 = true := by kernel_rfl
theorem pl22 : Plainf Try.prog 22 = true := by kernel_rfl
theorem pl23 : Plainf Try.prog 23 = true := by kernel_rfl
theorem pl24 : Plainf Try.prog 24 = true := by kernel_rfl
theorem pl25 : Plainf Try.prog 25 = true := by kernel_rfl
theorem pl26 : Plainf Try.prog 26 = true := by kernel_rfl
theorem pl27 : Plainf Try.prog 27 = true := by kernel_rfl
theorem pl28 : Plainf Try.prog 28 = true := by kernel_rfl
theorem pl29 : Plainf Try.prog 29 = true := by kernel_rfl
theorem pl30 : Plainf Try.prog 30 = true := by kernel_rfl
theorem pl31 : Plainf Try.prog 31 = true := by kernel_rfl
theorem pl32 : Plainf Try.prog 32 = true := by kernel_rfl
theorem pl33 : Plainf Try.prog 33 = true := by kernel_rfl
theorem pl34 : Plainf Try.prog 34 = true := by kernel_rfl
theorem pl35 : Plainf Try.prog 35 = true := by kernel_rfl
theorem pl36 : Plainf Try.prog 36 = true := by kernel_rfl
theorem pl37 : Plainf Try.prog 37 = true := by kernel_rfl
theorem pl38 : Plainf Try.prog 38 = true := by kernel_rfl
theorem pl39 : Plainf Try.prog 39 = true := by kernel_rfl
theorem pl40 : Plainf Try.prog 40 = true := by kernel_rfl
theorem pl41 : Plainf Try.prog 41 = true := by kernel_rfl
theorem pl42 : Plainf Try.prog 42 = true := by kernel_rfl
theorem pl43 : Plainf Try.prog 43 = true := by kernel_rfl
theorem pl44 : Plainf Try.prog 44 = true := by kernel_rfl
theorem pl45 : Plainf Try.prog 45 = true := by kernel_rfl
theorem pl46 : Plainf Try.prog 46 = true := by kernel_rfl
theorem pl47 : Plainf Try.prog 47 = true := by kernel_rfl
theorem pl48 : Plainf Try.prog 48 = true := by kernel_rfl
theorem pl50 : Plainf Try.prog 50 = true := by kernel_rfl
theorem pl51 : Plainf Try.prog 51 = true := by kernel_rfl
theorem pl52 : Plainf Try.prog 52 = true := by kernel_rfl
theorem pl53 : Plainf Try.prog 53 = true := by kernel_rfl
theorem pl54 : Plainf Try.prog 54 = true := by kernel_rfl
theorem pl55 : Plainf Try.prog 55 = true := by kernel_rfl
theorem pl56 : Plainf Try.prog 56 = true := by kernel_rfl
theorem pl57 : Plainf Try.prog 57 = true := by kernel_rfl
theorem pl58 : Plainf Try.prog 58 = true := by kernel_rfl
theorem pl59 : Plainf Try.prog 59 = true := by kernel_rfl
theorem pl60 : Plainf Try.prog 60 = true := by kernel_rfl
theorem pl61 : Plainf Try.prog 61 = true := by kernel_rfl
theorem pl62 : Plainf Try.prog 62 = true := by kernel_rfl
theorem pl63 : Plainf Try.prog 63 = true := by kernel_rfl
theorem pl64 : Plainf Try.prog 64 = true := by kernel_rfl
theorem pl65 : Plainf Try.prog 65 = true := by kernel_rfl
theorem pl66 : Plainf Try.prog 66 = true := by kernel_rfl
theorem pl67 : Plainf Try.prog 67 = true := by kernel_rfl
theorem mixed : Try.prog.follows .mixedOrders = true := by kernel_rfl
end Go.Proofs.Ythbcdffldcdfoaa
