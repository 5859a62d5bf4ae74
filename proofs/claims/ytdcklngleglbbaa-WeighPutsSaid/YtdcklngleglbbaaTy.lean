/- Facts on this translation's types and functions, each checked by the kernel. No condition. -/
import Derived.Test.YtdcklngleglbbaaProg
import Derived.Test.YtdcklngleglbbaaLge
namespace Go.Proofs.Ytdcklngleglbbaa
open Go Lg
theorem ty3 : Ty Try.prog 3 false 1 := ⟨⟨_, Try.underlying3, rfl⟩, by kernel_rfl, fun _ => rfl⟩
theorem sz3 : (Try.prog.info? 3).map (·.size) = some 1 := by kernel_rfl
theorem ty4 : Ty Try.prog 4 false 1 := ⟨⟨_, Try.underlying4, rfl⟩, by kernel_rfl, fun _ => rfl⟩
theorem sz4 : (Try.prog.info? 4).map (·.size) = some 1 := by kernel_rfl
theorem ty9 : Ty Try.prog 9 false 1 := ⟨⟨_, Try.underlying9, rfl⟩, by kernel_rfl, fun _ => rfl⟩
theorem sz9 : (Try.prog.info? 9).map (·.size) = some 1 := by kernel_rfl
theorem ty22 : Ty Try.prog 22 false 1 := ⟨⟨_, Try.underlying22, rfl⟩, by kernel_rfl, fun _ => rfl⟩
theorem sz22 : (Try.prog.info? 22).map (·.size) = some 1 := by kernel_rfl
theorem ty24 : Ty Try.prog 24 true 2 := ⟨⟨_, Try.underlying24, rfl⟩, by kernel_rfl, fun h => by cases h⟩
theorem sz24 : (Try.prog.info? 24).map (·.size) = some 2 := by kernel_rfl
theorem ty25 : Ty Try.prog 25 false 1 := ⟨⟨_, Try.underlying25, rfl⟩, by kernel_rfl, fun _ => rfl⟩
theorem sz25 : (Try.prog.info? 25).map (·.size) = some 1 := by kernel_rfl
theorem ty36 : Ty Try.prog 36 false 1 := ⟨⟨_, Try.underlying36, rfl⟩, by kernel_rfl, fun _ => rfl⟩
theorem sz36 : (Try.prog.info? 36).map (·.size) = some 1 := by kernel_rfl
theorem ty43 : Ty Try.prog 43 false 1 := ⟨⟨_, Try.underlying43, rfl⟩, by kernel_rfl, fun _ => rfl⟩
theorem sz43 : (Try.prog.info? 43).map (·.size) = some 1 := by kernel_rfl
theorem ty49 : Ty Try.prog 49 true 4 := ⟨⟨_, Try.underlying49, rfl⟩, by kernel_rfl, fun h => by cases h⟩
theorem sz49 : (Try.prog.info? 49).map (·.size) = some 4 := by kernel_rfl
theorem ty59 : Ty Try.prog 59 false 1 := ⟨⟨_, Try.underlying59, rfl⟩, by kernel_rfl, fun _ => rfl⟩
theorem sz59 : (Try.prog.info? 59).map (·.size) = some 1 := by kernel_rfl
theorem ty66 : Ty Try.prog 66 false 1 := ⟨⟨_, Try.underlying66, rfl⟩, by kernel_rfl, fun _ => rfl⟩
theorem sz66 : (Try.prog.info? 66).map (·.size) = some 1 := by kernel_rfl
theorem ty70 : Ty Try.prog 70 false 1 := ⟨⟨_, Try.underlying70, rfl⟩, by kernel_rfl, fun _ => rfl⟩
theorem sz70 : (Try.prog.info? 70).map (·.size) = some 1 := by kernel_rfl
theorem ty85 : Ty Try.prog 85 false 1 := ⟨⟨_, Try.underlying85, rfl⟩, by kernel_rfl, fun _ => rfl⟩
theorem sz85 : (Try.prog.info? 85).map (·.size) = some 1 := by kernel_rfl
theorem ty88 : Ty Try.prog 88 true 3 := ⟨⟨_, Try.underlying88, rfl⟩, by kernel_rfl, fun h => by cases h⟩
theorem sz88 : (Try.prog.info? 88).map (·.size) = some 3 := by kernel_rfl
theorem ty93 : Ty Try.prog 93 false 1 := ⟨⟨_, Try.underlying93, rfl⟩, by kernel_rfl, fun _ => rfl⟩
theorem sz93 : (Try.prog.info? 93).map (·.size) = some 1 := by kernel_rfl
theorem ty102 : Ty Try.prog 102 true 3 := ⟨⟨_, Try.underlying102, rfl⟩, by kernel_rfl, fun h => by cases h⟩
theorem sz102 : (Try.prog.info? 102).map (·.size) = some 3 := by kernel_rfl
theorem ty103 : Ty Try.prog 103 false 1 := ⟨⟨_, Try.underlying103, rfl⟩, by kernel_rfl, fun _ => rfl⟩
theorem sz103 : (Try.prog.info? 103).map (·.size) = some 1 := by kernel_rfl
theorem z3 : (Try.prog.info? 3).map (·.zero) = some (some (.int .i64 0)) := by kernel_rfl
theorem z4 : (Try.prog.info? 4).map (·.zero) = some (some (.bool false)) := by kernel_rfl
theorem z24 : (Try.prog.info? 24).map (·.zero) = some (some (.agg #[(.int .i64 0), (.slice none 0 0)])) := by kernel_rfl
theorem z25 : (Try.prog.info? 25).map (·.zero) = some (some (.slice none 0 0)) := by kernel_rfl
theorem z36 : (Try.prog.info? 36).map (·.zero) = some (some (.slice none 0 0)) := by kernel_rfl
theorem z49 : (Try.prog.info? 49).map (·.zero) = some (some (.agg #[(.string ⟨#[]⟩), (.int .i64 0), (.int .i64 0), (.bool false)])) := by kernel_rfl
theorem z66 : (Try.prog.info? 66).map (·.zero) = some (some (.pointer none)) := by kernel_rfl
theorem z70 : (Try.prog.info? 70).map (·.zero) = some (some .nilFunc) := by kernel_rfl
theorem z85 : (Try.prog.info? 85).map (·.zero) = some (some (.map none)) := by kernel_rfl
theorem z88 : (Try.prog.info? 88).map (·.zero) = some (some (.agg #[(.int .i64 0), (.int .i64 0), (.slice none 0 0)])) := by kernel_rfl
theorem z93 : (Try.prog.info? 93).map (·.zero) = some (some (.map none)) := by kernel_rfl
theorem z102 : (Try.prog.info? 102).map (·.zero) = some (some (.agg #[(.int .i64 0), (.slice none 0 0), (.int .i64 0)])) := by kernel_rfl
theorem z103 : (Try.prog.info? 103).map (·.zero) = some (some (.slice none 0 0)) := by kernel_rfl
theorem bs3 : (Try.prog.info? 3).map (fun i => (i.zero, i.size, i.bytes)) = some (some (.int .i64 0), 1, 8) := by kernel_rfl
theorem bs24 : (Try.prog.info? 24).map (fun i => (i.zero, i.size, i.bytes)) = some (some (.agg #[(.int .i64 0), (.slice none 0 0)]), 2, 32) := by kernel_rfl
theorem bs25 : (Try.prog.info? 25).map (fun i => (i.zero, i.size, i.bytes)) = some (some (.slice none 0 0), 1, 24) := by kernel_rfl
theorem bs49 : (Try.prog.info? 49).map (fun i => (i.zero, i.size, i.bytes)) = some (some (.agg #[(.string ⟨#[]⟩), (.int .i64 0), (.int .i64 0), (.bool false)]), 4, 40) := by kernel_rfl
theorem bs66 : (Try.prog.info? 66).map (fun i => (i.zero, i.size, i.bytes)) = some (some (.pointer none), 1, 8) := by kernel_rfl
theorem bs102 : (Try.prog.info? 102).map (fun i => (i.zero, i.size, i.bytes)) = some (some (.agg #[(.int .i64 0), (.slice none 0 0), (.int .i64 0)]), 3, 40) := by kernel_rfl
theorem fz3 : (Try.prog.info? 3).map (fun i => Nat.blt 0 i.size) = some true := by kernel_rfl
theorem fz4 : (Try.prog.info? 4).map (fun i => Nat.blt 0 i.size) = some true := by kernel_rfl
theorem fz9 : (Try.prog.info? 9).map (fun i => Nat.blt 0 i.size) = some true := by kernel_rfl
theorem fz22 : (Try.prog.info? 22).map (fun i => Nat.blt 0 i.size) = some true := by kernel_rfl
theorem fz24 : (Try.prog.info? 24).map (fun i => Nat.blt 0 i.size) = some true := by kernel_rfl
theorem bl24 : Bl Try.prog 24 [(.int .i64 0), (.slice none 0 0)] [(0, 1), (1, 1)] := ⟨⟨_, Try.underlying24, by kernel_rfl⟩, by kernel_rfl⟩
theorem bl49 : Bl Try.prog 49 [(.string ⟨#[]⟩), (.int .i64 0), (.int .i64 0), (.bool false)] [(0, 1), (1, 1), (2, 1), (3, 1)] := ⟨⟨_, Try.underlying49, by kernel_rfl⟩, by kernel_rfl⟩
theorem bl102 : Bl Try.prog 102 [(.int .i64 0), (.slice none 0 0), (.int .i64 0)] [(0, 2), (2, 1)] := ⟨⟨_, Try.underlying102, by kernel_rfl⟩, by kernel_rfl⟩
theorem pl15 : Plainf Try.prog 15 = true := by kernel_rfl
theorem pl16 : Plainf Try.prog 16 = true := by kernel_rfl
theorem pl17 : Plainf Try.prog 17 = true := by kernel_rfl
theorem pl18 : Plainf Try.prog 18 = true := by kernel_rfl
theorem pl19 : Plainf Try.prog 19 = true := by kernel_rfl
theorem pl20 : Plainf Try.prog 20 = true := by kernel_rfl
theorem pl21 : Plainf Try.prog 21 = true := by kernel_rfl
theorem pl22 : Plainf Try.prog 22 = true := by kernel_rfl
theorem pl23 : Plainf Try.prog 23 = true := by kernel_rfl
theorem pl24 : Plainf Try.prog 24 = true := by kernel_rfl
theorem pl25 : Plainf Try.prog 25 = true := by kernel_rfl
theorem pl26 : Plainf Try.prog 26 = true := by kernel_rfl
theorem pl27 : Plainf Try.prog 27 = true := by kernel_rfl
theorem pl28 : Plainf Try.prog 28 = true := by kernel_rfl
theorem pl29 : Plainf Try.prog 29 = true := by kernel_rfl
theorem pl30 : Plainf Try.prog 30 = true := by kernel_rfl
theorem pl31 : Plainf Try.prog 31 = true := by kernel_rfl
theorem pl32 : Plainf Try.prog 32 = true := by kernel_rfl
theorem pl33 : Plainf Try.prog 33 = true := by kernel_rfl
theorem pl34 : Plainf Try.prog 34 = true := by kernel_rfl
theorem pl35 : Plainf Try.prog 35 = true := by kernel_rfl
theorem pl36 : Plainf Try.prog 36 = true := by kernel_rfl
theorem pl37 : Plainf Try.prog 37 = true := by kernel_rfl
theorem pl38 : Plainf Try.prog 38 = true := by kernel_rfl
theorem pl39 : Plainf Try.prog 39 = true := by kernel_rfl
theorem pl40 : Plainf Try.prog 40 = true := by kernel_rfl
theorem pl41 : Plainf Try.prog 41 = true := by kernel_rfl
theorem pl42 : Plainf Try.prog 42 = true := by kernel_rfl
theorem pl43 : Plainf Try.prog 43 = true := by kernel_rfl
theorem pl44 : Plainf Try.prog 44 = true := by kernel_rfl
theorem pl45 : Plainf Try.prog 45 = true := by kernel_rfl
theorem pl46 : Plainf Try.prog 46 = true := by kernel_rfl
theorem pl47 : Plainf Try.prog 47 = true := by kernel_rfl
theorem pl48 : Plainf Try.prog 48 = true := by kernel_rfl
theorem pl49 : Plainf Try.prog 49 = true := by kernel_rfl
theorem pl50 : Plainf Try.prog 50 = true := by kernel_rfl
theorem pl51 : Plainf Try.prog 51 = true := by kernel_rfl
theorem pl52 : Plainf Try.prog 52 = true := by kernel_rfl
theorem pl53 : Plainf Try.prog 53 = true := by kernel_rfl
theorem pl54 : Plainf Try.prog 54 = true := by kernel_rfl
theorem pl55 : Plainf Try.prog 55 = true := by kernel_rfl
theorem pl56 : Plainf Try.prog 56 = true := by kernel_rfl
theorem pl57 : Plainf Try.prog 57 = true := by kernel_rfl
theorem pl58 : Plainf Try.prog 58 = true := by kernel_rfl
theorem pl59 : Plainf Try.prog 59 = true := by kernel_rfl
theorem pl60 : Plainf Try.prog 60 = true := by kernel_rfl
theorem pl61 : Plainf Try.prog 61 = true := by kernel_rfl
theorem pl62 : Plainf Try.prog 62 = true := by kernel_rfl
theorem pl63 : Plainf Try.prog 63 = true := by kernel_rfl
theorem pl64 : Plainf Try.prog 64 = true := by kernel_rfl
theorem pl65 : Plainf Try.prog 65 = true := by kernel_rfl
theorem pl66 : Plainf Try.prog 66 = true := by kernel_rfl
theorem pl67 : Plainf Try.prog 67 = true := by kernel_rfl
theorem pl68 : Plainf Try.prog 68 = true := by kernel_rfl
theorem pl69 : Plainf Try.prog 69 = true := by kernel_rfl
theorem pl70 : Plainf Try.prog 70 = true := by kernel_rfl
theorem pl71 : Plainf Try.prog 71 = true := by kernel_rfl
theorem pl72 : Plainf Try.prog 72 = true := by kernel_rfl
theorem pl73 : Plainf Try.prog 73 = true := by kernel_rfl
theorem pl74 : Plainf Try.prog 74 = true := by kernel_rfl
theorem pl75 : Plainf Try.prog 75 = true := by kernel_rfl
theorem pl76 : Plainf Try.prog 76 = true := by kernel_rfl
theorem pl77 : Plainf Try.prog 77 = true := by kernel_rfl
theorem pl78 : Plainf Try.prog 78 = true := by kernel_rfl
theorem pl79 : Plainf Try.prog 79 = true := by kernel_rfl
theorem pl80 : Plainf Try.prog 80 = true := by kernel_rfl
theorem pl81 : Plainf Try.prog 81 = true := by kernel_rfl
theorem pl82 : Plainf Try.prog 82 = true := by kernel_rfl
theorem pl83 : Plainf Try.prog 83 = true := by kernel_rfl
theorem pl84 : Plainf Try.prog 84 = true := by kernel_rfl
theorem pl85 : Plainf Try.prog 85 = true := by kernel_rfl
theorem pl86 : Plainf Try.prog 86 = true := by kernel_rfl
theorem pl87 : Plainf Try.prog 87 = true := by kernel_rfl
theorem mixed : Try.prog.follows .mixedOrders = true := by kernel_rfl
end Go.Proofs.Ytdcklngleglbbaa
