/- Own texts, one behind the other: rules of a small program logic, walks through the program's functions, plain facts. No condition. -/
import Derived.Test.YtdbadicpbmndbaaZ1
import Derived.Test.YtdbadicpbmndbaaProg
/- Facts on this translation's types and functions, each checked by the kernel. No condition. -/
namespace Go.Proofs.Ytdbadicpbmndbaa
open Go Lg
theorem ty3 : Ty Try.prog 3 false 1 := ⟨⟨_, Try.underlying3, rfl⟩, by kernel_rfl, fun _ => rfl⟩
theorem sz3 : (Try.prog.info? 3).map (·.size) = some 1 := by kernel_rfl
theorem ty4 : Ty Try.prog 4 false 1 := ⟨⟨_, Try.underlying4, rfl⟩, by kernel_rfl, fun _ => rfl⟩
theorem sz4 : (Try.prog.info? 4).map (·.size) = some 1 := by kernel_rfl
theorem ty9 : Ty Try.prog 9 false 1 := ⟨⟨_, Try.underlying9, rfl⟩, by kernel_rfl, fun _ => rfl⟩
theorem sz9 : (Try.prog.info? 9).map (·.size) = some 1 := by kernel_rfl
theorem ty22 : Ty Try.prog 22 false 1 := ⟨⟨_, Try.underlying22, rfl⟩, by kernel_rfl, fun _ => rfl⟩
theorem sz22 : (Try.prog.info? 22).map (·.size) = some 1 := by kernel_rfl
theorem ty23 : Ty Try.prog 23 false 1 := ⟨⟨_, Try.underlying23, rfl⟩, by kernel_rfl, fun _ => rfl⟩
theorem sz23 : (Try.prog.info? 23).map (·.size) = some 1 := by kernel_rfl
theorem ty25 : Ty Try.prog 25 true 2 := ⟨⟨_, Try.underlying25, rfl⟩, by kernel_rfl, fun h => by cases h⟩
theorem sz25 : (Try.prog.info? 25).map (·.size) = some 2 := by kernel_rfl
theorem ty26 : Ty Try.prog 26 false 1 := ⟨⟨_, Try.underlying26, rfl⟩, by kernel_rfl, fun _ => rfl⟩
theorem sz26 : (Try.prog.info? 26).map (·.size) = some 1 := by kernel_rfl
theorem ty44 : Ty Try.prog 44 false 1 := ⟨⟨_, Try.underlying44, rfl⟩, by kernel_rfl, fun _ => rfl⟩
theorem sz44 : (Try.prog.info? 44).map (·.size) = some 1 := by kernel_rfl
theorem ty45 : Ty Try.prog 45 false 1 := ⟨⟨_, Try.underlying45, rfl⟩, by kernel_rfl, fun _ => rfl⟩
theorem sz45 : (Try.prog.info? 45).map (·.size) = some 1 := by kernel_rfl
theorem ty47 : Ty Try.prog 47 true 2 := ⟨⟨_, Try.underlying47, rfl⟩, by kernel_rfl, fun h => by cases h⟩
theorem sz47 : (Try.prog.info? 47).map (·.size) = some 2 := by kernel_rfl
theorem ty49 : Ty Try.prog 49 true 5 := ⟨⟨_, Try.underlying49, rfl⟩, by kernel_rfl, fun h => by cases h⟩
theorem sz49 : (Try.prog.info? 49).map (·.size) = some 5 := by kernel_rfl
theorem ty51 : Ty Try.prog 51 false 1 := ⟨⟨_, Try.underlying51, rfl⟩, by kernel_rfl, fun _ => rfl⟩
theorem sz51 : (Try.prog.info? 51).map (·.size) = some 1 := by kernel_rfl
theorem ty54 : Ty Try.prog 54 true 3 := ⟨⟨_, Try.underlying54, rfl⟩, by kernel_rfl, fun h => by cases h⟩
theorem sz54 : (Try.prog.info? 54).map (·.size) = some 3 := by kernel_rfl
theorem ty62 : Ty Try.prog 62 false 1 := ⟨⟨_, Try.underlying62, rfl⟩, by kernel_rfl, fun _ => rfl⟩
theorem sz62 : (Try.prog.info? 62).map (·.size) = some 1 := by kernel_rfl
theorem ty79 : Ty Try.prog 79 true 4 := ⟨⟨_, Try.underlying79, rfl⟩, by kernel_rfl, fun h => by cases h⟩
theorem sz79 : (Try.prog.info? 79).map (·.size) = some 4 := by kernel_rfl
theorem ty81 : Ty Try.prog 81 false 1 := ⟨⟨_, Try.underlying81, rfl⟩, by kernel_rfl, fun _ => rfl⟩
theorem sz81 : (Try.prog.info? 81).map (·.size) = some 1 := by kernel_rfl
theorem ty82 : Ty Try.prog 82 false 1 := ⟨⟨_, Try.underlying82, rfl⟩, by kernel_rfl, fun _ => rfl⟩
theorem sz82 : (Try.prog.info? 82).map (·.size) = some 1 := by kernel_rfl
theorem ty84 : Ty Try.prog 84 true 2 := ⟨⟨_, Try.underlying84, rfl⟩, by kernel_rfl, fun h => by cases h⟩
theorem sz84 : (Try.prog.info? 84).map (·.size) = some 2 := by kernel_rfl
theorem ty111 : Ty Try.prog 111 false 1 := ⟨⟨_, Try.underlying111, rfl⟩, by kernel_rfl, fun _ => rfl⟩
theorem sz111 : (Try.prog.info? 111).map (·.size) = some 1 := by kernel_rfl
theorem ty120 : Ty Try.prog 120 false 1 := ⟨⟨_, Try.underlying120, rfl⟩, by kernel_rfl, fun _ => rfl⟩
theorem sz120 : (Try.prog.info? 120).map (·.size) = some 1 := by kernel_rfl
theorem ty121 : Ty Try.prog 121 true 3 := ⟨⟨_, Try.underlying121, rfl⟩, by kernel_rfl, fun h => by cases h⟩
theorem sz121 : (Try.prog.info? 121).map (·.size) = some 3 := by kernel_rfl
theorem ty127 : Ty Try.prog 127 true 4 := ⟨⟨_, Try.underlying127, rfl⟩, by kernel_rfl, fun h => by cases h⟩
theorem sz127 : (Try.prog.info? 127).map (·.size) = some 4 := by kernel_rfl
theorem ty139 : Ty Try.prog 139 false 1 := ⟨⟨_, Try.underlying139, rfl⟩, by kernel_rfl, fun _ => rfl⟩
theorem sz139 : (Try.prog.info? 139).map (·.size) = some 1 := by kernel_rfl
theorem ty141 : Ty Try.prog 141 false 1 := ⟨⟨_, Try.underlying141, rfl⟩, by kernel_rfl, fun _ => rfl⟩
theorem sz141 : (Try.prog.info? 141).map (·.size) = some 1 := by kernel_rfl
theorem ty143 : Ty Try.prog 143 true 1 := ⟨⟨_, Try.underlying143, rfl⟩, by kernel_rfl, fun h => by cases h⟩
theorem sz143 : (Try.prog.info? 143).map (·.size) = some 1 := by kernel_rfl
theorem ty153 : Ty Try.prog 153 true 6 := ⟨⟨_, Try.underlying153, rfl⟩, by kernel_rfl, fun h => by cases h⟩
theorem sz153 : (Try.prog.info? 153).map (·.size) = some 6 := by kernel_rfl
theorem ty154 : Ty Try.prog 154 false 1 := ⟨⟨_, Try.underlying154, rfl⟩, by kernel_rfl, fun _ => rfl⟩
theorem sz154 : (Try.prog.info? 154).map (·.size) = some 1 := by kernel_rfl
theorem ty173 : Ty Try.prog 173 false 1 := ⟨⟨_, Try.underlying173, rfl⟩, by kernel_rfl, fun _ => rfl⟩
theorem sz173 : (Try.prog.info? 173).map (·.size) = some 1 := by kernel_rfl
theorem ty177 : Ty Try.prog 177 true 3 := ⟨⟨_, Try.underlying177, rfl⟩, by kernel_rfl, fun h => by cases h⟩
theorem sz177 : (Try.prog.info? 177).map (·.size) = some 3 := by kernel_rfl
theorem ty178 : Ty Try.prog 178 false 1 := ⟨⟨_, Try.underlying178, rfl⟩, by kernel_rfl, fun _ => rfl⟩
theorem sz178 : (Try.prog.info? 178).map (·.size) = some 1 := by kernel_rfl
theorem ty197 : Ty Try.prog 197 true 2 := ⟨⟨_, Try.underlying197, rfl⟩, by kernel_rfl, fun h => by cases h⟩
theorem sz197 : (Try.prog.info? 197).map (·.size) = some 2 := by kernel_rfl
theorem z3 : (Try.prog.info? 3).map (·.zero) = some (some (.int .i64 0)) := by kernel_rfl
theorem z4 : (Try.prog.info? 4).map (·.zero) = some (some (.bool false)) := by kernel_rfl
theorem z26 : (Try.prog.info? 26).map (·.zero) = some (some (.slice none 0 0)) := by kernel_rfl
theorem z45 : (Try.prog.info? 45).map (·.zero) = some (some (.slice none 0 0)) := by kernel_rfl
theorem z47 : (Try.prog.info? 47).map (·.zero) = some (some (.agg #[(.int .i64 0), (.slice none 0 0)])) := by kernel_rfl
theorem z49 : (Try.prog.info? 49).map (·.zero) = some (some (.agg #[(.bool false), (.int .i64 0), (.slice none 0 0), (.int .i64 0), (.slice none 0 0)])) := by kernel_rfl
theorem z51 : (Try.prog.info? 51).map (·.zero) = some (some (.slice none 0 0)) := by kernel_rfl
theorem z54 : (Try.prog.info? 54).map (·.zero) = some (some (.agg #[(.int .i64 0), (.int .i64 0), (.slice none 0 0)])) := by kernel_rfl
theorem z62 : (Try.prog.info? 62).map (·.zero) = some (some (.slice none 0 0)) := by kernel_rfl
theorem z79 : (Try.prog.info? 79).map (·.zero) = some (some (.agg #[(.string ⟨#[]⟩), (.int .i64 0), (.int .i64 0), (.bool false)])) := by kernel_rfl
theorem z81 : (Try.prog.info? 81).map (·.zero) = some (some (.pointer none)) := by kernel_rfl
theorem z84 : (Try.prog.info? 84).map (·.zero) = some (some (.agg #[(.slice none 0 0), (.slice none 0 0)])) := by kernel_rfl
theorem z111 : (Try.prog.info? 111).map (·.zero) = some (some .nilFunc) := by kernel_rfl
theorem z121 : (Try.prog.info? 121).map (·.zero) = some (some (.agg #[.nilFunc, .nilFunc, .nilFunc])) := by kernel_rfl
theorem z127 : (Try.prog.info? 127).map (·.zero) = some (some (.agg #[(.int .i64 0), (.slice none 0 0), (.int .i64 0), (.slice none 0 0)])) := by kernel_rfl
theorem z139 : (Try.prog.info? 139).map (·.zero) = some (some (.map none)) := by kernel_rfl
theorem z143 : (Try.prog.info? 143).map (·.zero) = some (some (.agg #[.nilFunc])) := by kernel_rfl
theorem z153 : (Try.prog.info? 153).map (·.zero) = some (some (.agg #[(.slice none 0 0), (.bool false), (.int .i64 0), (.slice none 0 0), (.int .i64 0), (.slice none 0 0)])) := by kernel_rfl
theorem z154 : (Try.prog.info? 154).map (·.zero) = some (some .nilFunc) := by kernel_rfl
theorem z173 : (Try.prog.info? 173).map (·.zero) = some (some (.map none)) := by kernel_rfl
theorem z177 : (Try.prog.info? 177).map (·.zero) = some (some (.agg #[(.int .i64 0), (.slice none 0 0), (.int .i64 0)])) := by kernel_rfl
theorem z178 : (Try.prog.info? 178).map (·.zero) = some (some (.slice none 0 0)) := by kernel_rfl
theorem z197 : (Try.prog.info? 197).map (·.zero) = some (some (.agg #[(.int .i64 0), (.map none)])) := by kernel_rfl
theorem bs3 : (Try.prog.info? 3).map (fun i => (i.zero, i.size, i.bytes)) = some (some (.int .i64 0), 1, 8) := by kernel_rfl
theorem bs26 : (Try.prog.info? 26).map (fun i => (i.zero, i.size, i.bytes)) = some (some (.slice none 0 0), 1, 24) := by kernel_rfl
theorem bs45 : (Try.prog.info? 45).map (fun i => (i.zero, i.size, i.bytes)) = some (some (.slice none 0 0), 1, 24) := by kernel_rfl
theorem bs47 : (Try.prog.info? 47).map (fun i => (i.zero, i.size, i.bytes)) = some (some (.agg #[(.int .i64 0), (.slice none 0 0)]), 2, 32) := by kernel_rfl
theorem bs49 : (Try.prog.info? 49).map (fun i => (i.zero, i.size, i.bytes)) = some (some (.agg #[(.bool false), (.int .i64 0), (.slice none 0 0), (.int .i64 0), (.slice none 0 0)]), 5, 72) := by kernel_rfl
theorem bs51 : (Try.prog.info? 51).map (fun i => (i.zero, i.size, i.bytes)) = some (some (.slice none 0 0), 1, 24) := by kernel_rfl
theorem bs54 : (Try.prog.info? 54).map (fun i => (i.zero, i.size, i.bytes)) = some (some (.agg #[(.int .i64 0), (.int .i64 0), (.slice none 0 0)]), 3, 40) := by kernel_rfl
theorem bs79 : (Try.prog.info? 79).map (fun i => (i.zero, i.size, i.bytes)) = some (some (.agg #[(.string ⟨#[]⟩), (.int .i64 0), (.int .i64 0), (.bool false)]), 4, 40) := by kernel_rfl
theorem bs127 : (Try.prog.info? 127).map (fun i => (i.zero, i.size, i.bytes)) = some (some (.agg #[(.int .i64 0), (.slice none 0 0), (.int .i64 0), (.slice none 0 0)]), 4, 64) := by kernel_rfl
theorem bs154 : (Try.prog.info? 154).map (fun i => (i.zero, i.size, i.bytes)) = some (some .nilFunc, 1, 8) := by kernel_rfl
theorem bs177 : (Try.prog.info? 177).map (fun i => (i.zero, i.size, i.bytes)) = some (some (.agg #[(.int .i64 0), (.slice none 0 0), (.int .i64 0)]), 3, 40) := by kernel_rfl
theorem fz3 : (Try.prog.info? 3).map (fun i => Nat.blt 0 i.size) = some true := by kernel_rfl
theorem fz4 : (Try.prog.info? 4).map (fun i => Nat.blt 0 i.size) = some true := by kernel_rfl
theorem fz9 : (Try.prog.info? 9).map (fun i => Nat.blt 0 i.size) = some true := by kernel_rfl
theorem fz22 : (Try.prog.info? 22).map (fun i => Nat.blt 0 i.size) = some true := by kernel_rfl
theorem fz23 : (Try.prog.info? 23).map (fun i => Nat.blt 0 i.size) = some true := by kernel_rfl
theorem fz26 : (Try.prog.info? 26).map (fun i => Nat.blt 0 i.size) = some true := by kernel_rfl
theorem fz45 : (Try.prog.info? 45).map (fun i => Nat.blt 0 i.size) = some true := by kernel_rfl
theorem fz47 : (Try.prog.info? 47).map (fun i => Nat.blt 0 i.size) = some true := by kernel_rfl
theorem fz49 : (Try.prog.info? 49).map (fun i => Nat.blt 0 i.size) = some true := by kernel_rfl
theorem fz82 : (Try.prog.info? 82).map (fun i => Nat.blt 0 i.size) = some true := by kernel_rfl
theorem fz139 : (Try.prog.info? 139).map (fun i => Nat.blt 0 i.size) = some true := by kernel_rfl
theorem fz141 : (Try.prog.info? 141).map (fun i => Nat.blt 0 i.size) = some true := by kernel_rfl
theorem bl47 : Bl Try.prog 47 [(.int .i64 0), (.slice none 0 0)] [(0, 1), (1, 1)] := ⟨⟨_, Try.underlying47, by kernel_rfl⟩, by kernel_rfl⟩
theorem bl49 : Bl Try.prog 49 [(.bool false), (.int .i64 0), (.slice none 0 0), (.int .i64 0), (.slice none 0 0)] [(0, 1), (1, 2), (3, 2)] := ⟨⟨_, Try.underlying49, by kernel_rfl⟩, by kernel_rfl⟩
theorem bl54 : Bl Try.prog 54 [(.int .i64 0), (.int .i64 0), (.slice none 0 0)] [(0, 1), (1, 2)] := ⟨⟨_, Try.underlying54, by kernel_rfl⟩, by kernel_rfl⟩
theorem bl79 : Bl Try.prog 79 [(.string ⟨#[]⟩), (.int .i64 0), (.int .i64 0), (.bool false)] [(0, 1), (1, 1), (2, 1), (3, 1)] := ⟨⟨_, Try.underlying79, by kernel_rfl⟩, by kernel_rfl⟩
theorem bl84 : Bl Try.prog 84 [(.slice none 0 0), (.slice none 0 0)] [(0, 1), (1, 1)] := ⟨⟨_, Try.underlying84, by kernel_rfl⟩, by kernel_rfl⟩
theorem bl143 : Bl Try.prog 143 [.nilFunc] [(0, 1)] := ⟨⟨_, Try.underlying143, by kernel_rfl⟩, by kernel_rfl⟩
theorem bl153 : Bl Try.prog 153 [(.slice none 0 0), (.bool false), (.int .i64 0), (.slice none 0 0), (.int .i64 0), (.slice none 0 0)] [(0, 1), (1, 5)] := ⟨⟨_, Try.underlying153, by kernel_rfl⟩, by kernel_rfl⟩
theorem bl177 : Bl Try.prog 177 [(.int .i64 0), (.slice none 0 0), (.int .i64 0)] [(0, 2), (2, 1)] := ⟨⟨_, Try.underlying177, by kernel_rfl⟩, by kernel_rfl⟩
theorem bl197 : Bl Try.prog 197 [(.int .i64 0), (.map none)] [(0, 1), (1, 1)] := ⟨⟨_, Try.underlying197, by kernel_rfl⟩, by kernel_rfl⟩
theorem pl13 : Plainf Try.prog 13 = true := by kernel_rfl
theorem pl14 : Plainf Try.prog 14 = true := by kernel_rfl
theorem pl15 : Plainf Try.prog 15 = true := by kernel_rfl
theorem pl16 : Plainf Try.prog 16 = true := by kernel_rfl
theorem pl17 : Plainf Try.prog 17 = true := by kernel_rfl
theorem pl18 : Plainf Try.prog 18 = true := by kernel_rfl
theorem pl19 : Plainf Try.prog 19 = true := by kernel_rfl
theorem pl20 : Plainf Try.prog 20 = true := by kernel_rfl
theorem pl21 : Plainf Try.prog 21 = true := by kernel_rfl
theorem pl22 : Plainf Try.prog 22 = true := by kernel_rfl
theorem pl23 : Plainf Try.prog 23 = true := by kernel_rfl
theorem pl24 : Plainf Try.prog 24 = true := by kernel_rfl
theorem pl25 : Plainf Try.prog 25 = true := by kernel_rfl
theorem pl26 : Plainf Try.prog 26 = true := by kernel_rfl
theorem pl27 : Plainf Try.prog 27 = true := by kernel_rfl
theorem pl28 : Plainf Try.prog 28 = true := by kernel_rfl
theorem pl29 : Plainf Try.prog 29 = true := by kernel_rfl
theorem pl30 : Plainf Try.prog 30 = true := by kernel_rfl
theorem pl31 : Plainf Try.prog 31 = true := by kernel_rfl
theorem pl32 : Plainf Try.prog 32 = true := by kernel_rfl
theorem pl33 : Plainf Try.prog 33 = true := by kernel_rfl
theorem pl34 : Plainf Try.prog 34 = true := by kernel_rfl
theorem pl35 : Plainf Try.prog 35 = true := by kernel_rfl
theorem pl36 : Plainf Try.prog 36 = true := by kernel_rfl
theorem pl37 : Plainf Try.prog 37 = true := by kernel_rfl
theorem pl38 : Plainf Try.prog 38 = true := by kernel_rfl
theorem pl39 : Plainf Try.prog 39 = true := by kernel_rfl
theorem pl40 : Plainf Try.prog 40 = true := by kernel_rfl
theorem pl41 : Plainf Try.prog 41 = true := by kernel_rfl
theorem pl42 : Plainf Try.prog 42 = true := by kernel_rfl
theorem pl43 : Plainf Try.prog 43 = true := by kernel_rfl
theorem pl44 : Plainf Try.prog 44 = true := by kernel_rfl
theorem pl45 : Plainf Try.prog 45 = true := by kernel_rfl
theorem pl46 : Plainf Try.prog 46 = true := by kernel_rfl
theorem pl47 : Plainf Try.prog 47 = true := by kernel_rfl
theorem pl48 : Plainf Try.prog 48 = true := by kernel_rfl
theorem pl49 : Plainf Try.prog 49 = true := by kernel_rfl
theorem pl50 : Plainf Try.prog 50 = true := by kernel_rfl
theorem pl51 : Plainf Try.prog 51 = true := by kernel_rfl
theorem pl52 : Plainf Try.prog 52 = true := by kernel_rfl
theorem pl53 : Plainf Try.prog 53 = true := by kernel_rfl
theorem pl54 : Plainf Try.prog 54 = true := by kernel_rfl
theorem pl55 : Plainf Try.prog 55 = true := by kernel_rfl
theorem pl56 : Plainf Try.prog 56 = true := by kernel_rfl
theorem pl57 : Plainf Try.prog 57 = true := by kernel_rfl
theorem pl58 : Plainf Try.prog 58 = true := by kernel_rfl
theorem pl59 : Plainf Try.prog 59 = true := by kernel_rfl
theorem pl60 : Plainf Try.prog 60 = true := by kernel_rfl
theorem pl61 : Plainf Try.prog 61 = true := by kernel_rfl
theorem pl62 : Plainf Try.prog 62 = true := by kernel_rfl
theorem pl64 : Plainf Try.prog 64 = true := by kernel_rfl
theorem pl65 : Plainf Try.prog 65 = true := by kernel_rfl
theorem pl66 : Plainf Try.prog 66 = true := by kernel_rfl
theorem pl67 : Plainf Try.prog 67 = true := by kernel_rfl
theorem pl68 : Plainf Try.prog 68 = true := by kernel_rfl
theorem pl69 : Plainf Try.prog 69 = true := by kernel_rfl
theorem pl70 : Plainf Try.prog 70 = true := by kernel_rfl
theorem pl71 : Plainf Try.prog 71 = true := by kernel_rfl
theorem pl72 : Plainf Try.prog 72 = true := by kernel_rfl
theorem pl73 : Plainf Try.prog 73 = true := by kernel_rfl
theorem pl74 : Plainf Try.prog 74 = true := by kernel_rfl
theorem pl75 : Plainf Try.prog 75 = true := by kernel_rfl
theorem pl76 : Plainf Try.prog 76 = true := by kernel_rfl
theorem pl77 : Plainf Try.prog 77 = true := by kernel_rfl
theorem pl78 : Plainf Try.prog 78 = true := by kernel_rfl
theorem pl79 : Plainf Try.prog 79 = true := by kernel_rfl
theorem pl80 : Plainf Try.prog 80 = true := by kernel_rfl
theorem pl81 : Plainf Try.prog 81 = true := by kernel_rfl
theorem pl82 : Plainf Try.prog 82 = true := by kernel_rfl
theorem pl83 : Plainf Try.prog 83 = true := by kernel_rfl
theorem pl84 : Plainf Try.prog 84 = true := by kernel_rfl
theorem pl85 : Plainf Try.prog 85 = true := by kernel_rfl
theorem pl86 : Plainf Try.prog 86 = true := by kernel_rfl
theorem pl87 : Plainf Try.prog 87 = true := by kernel_rfl
theorem pl88 : Plainf Try.prog 88 = true := by kernel_rfl
theorem pl89 : Plainf Try.prog 89 = true := by kernel_rfl
theorem pl90 : Plainf Try.prog 90 = true := by kernel_rfl
theorem pl91 : Plainf Try.prog 91 = true := by kernel_rfl
theorem pl92 : Plainf Try.prog 92 = true := by kernel_rfl
theorem pl93 : Plainf Try.prog 93 = true := by kernel_rfl
theorem pl94 : Plainf Try.prog 94 = true := by kernel_rfl
theorem pl95 : Plainf Try.prog 95 = true := by kernel_rfl
theorem pl96 : Plainf Try.prog 96 = true := by kernel_rfl
theorem pl97 : Plainf Try.prog 97 = true := by kernel_rfl
theorem pl98 : Plainf Try.prog 98 = true := by kernel_rfl
theorem pl100 : Plainf Try.prog 100 = true := by kernel_rfl
theorem pl102 : Plainf Try.prog 102 = true := by kernel_rfl
theorem pl103 : Plainf Try.prog 103 = true := by kernel_rfl
theorem pl105 : Plainf Try.prog 105 = true := by kernel_rfl
theorem pl106 : Plainf Try.prog 106 = true := by kernel_rfl
theorem pl108 : Plainf Try.prog 108 = true := by kernel_rfl
theorem pl109 : Plainf Try.prog 109 = true := by kernel_rfl
theorem pl110 : Plainf Try.prog 110 = true := by kernel_rfl
theorem pl111 : Plainf Try.prog 111 = true := by kernel_rfl
theorem pl112 : Plainf Try.prog 112 = true := by kernel_rfl
theorem pl113 : Plainf Try.prog 113 = true := by kernel_rfl
theorem pl114 : Plainf Try.prog 114 = true := by kernel_rfl
theorem pl115 : Plainf Try.prog 115 = true := by kernel_rfl
theorem pl116 : Plainf Try.prog 116 = true := by kernel_rfl
theorem pl117 : Plainf Try.prog 117 = true := by kernel_rfl
theorem pl118 : Plainf Try.prog 118 = true := by kernel_rfl
theorem pl119 : Plainf Try.prog 119 = true := by kernel_rfl
theorem pl120 : Plainf Try.prog 120 = true := by kernel_rfl
theorem pl121 : Plainf Try.prog 121 = true := by kernel_rfl
theorem pl122 : Plainf Try.prog 122 = true := by kernel_rfl
theorem pl123 : Plainf Try.prog 123 = true := by kernel_rfl
theorem pl124 : Plainf Try.prog 124 = true := by kernel_rfl
theorem pl125 : Plainf Try.prog 125 = true := by kernel_rfl
theorem pl126 : Plainf Try.prog 126 = true := by kernel_rfl
theorem pl127 : Plainf Try.prog 127 = true := by kernel_rfl
theorem pl128 : Plainf Try.prog 128 = true := by kernel_rfl
theorem pl129 : Plainf Try.prog 129 = true := by kernel_rfl
theorem pl130 : Plainf Try.prog 130 = true := by kernel_rfl
theorem pl131 : Plainf Try.prog 131 = true := by kernel_rfl
theorem pl135 : Plainf Try.prog 135 = true := by kernel_rfl
theorem pl136 : Plainf Try.prog 136 = true := by kernel_rfl
theorem pl137 : Plainf Try.prog 137 = true := by kernel_rfl
theorem pl138 : Plainf Try.prog 138 = true := by kernel_rfl
theorem pl139 : Plainf Try.prog 139 = true := by kernel_rfl
theorem pl141 : Plainf Try.prog 141 = true := by kernel_rfl
theorem pl142 : Plainf Try.prog 142 = true := by kernel_rfl
theorem pl143 : Plainf Try.prog 143 = true := by kernel_rfl
theorem pl144 : Plainf Try.prog 144 = true := by kernel_rfl
theorem pl145 : Plainf Try.prog 145 = true := by kernel_rfl
theorem pl146 : Plainf Try.prog 146 = true := by kernel_rfl
theorem pl147 : Plainf Try.prog 147 = true := by kernel_rfl
theorem pl148 : Plainf Try.prog 148 = true := by kernel_rfl
theorem pl149 : Plainf Try.prog 149 = true := by kernel_rfl
theorem pl150 : Plainf Try.prog 150 = true := by kernel_rfl
theorem pl151 : Plainf Try.prog 151 = true := by kernel_rfl
theorem pl152 : Plainf Try.prog 152 = true := by kernel_rfl
theorem pl153 : Plainf Try.prog 153 = true := by kernel_rfl
theorem pl154 : Plainf Try.prog 154 = true := by kernel_rfl
theorem pl155 : Plainf Try.prog 155 = true := by kernel_rfl
theorem pl156 : Plainf Try.prog 156 = true := by kernel_rfl
theorem pl158 : Plainf Try.prog 158 = true := by kernel_rfl
theorem pl159 : Plainf Try.prog 159 = true := by kernel_rfl
theorem pl160 : Plainf Try.prog 160 = true := by kernel_rfl
theorem pl161 : Plainf Try.prog 161 = true := by kernel_rfl
theorem pl162 : Plainf Try.prog 162 = true := by kernel_rfl
theorem pl163 : Plainf Try.prog 163 = true := by kernel_rfl
theorem pl164 : Plainf Try.prog 164 = true := by kernel_rfl
theorem pl165 : Plainf Try.prog 165 = true := by kernel_rfl
theorem pl166 : Plainf Try.prog 166 = true := by kernel_rfl
theorem pl167 : Plainf Try.prog 167 = true := by kernel_rfl
theorem pl168 : Plainf Try.prog 168 = true := by kernel_rfl
theorem pl169 : Plainf Try.prog 169 = true := by kernel_rfl
theorem pl170 : Plainf Try.prog 170 = true := by kernel_rfl
theorem pl171 : Plainf Try.prog 171 = true := by kernel_rfl
theorem pl172 : Plainf Try.prog 172 = true := by kernel_rfl
theorem pl173 : Plainf Try.prog 173 = true := by kernel_rfl
theorem pl175 : Plainf Try.prog 175 = true := by kernel_rfl
theorem pl176 : Plainf Try.prog 176 = true := by kernel_rfl
theorem pl177 : Plainf Try.prog 177 = true := by kernel_rfl
theorem pl178 : Plainf Try.prog 178 = true := by kernel_rfl
theorem pl179 : Plainf Try.prog 179 = true := by kernel_rfl
theorem pl180 : Plainf Try.prog 180 = true := by kernel_rfl
theorem pl181 : Plainf Try.prog 181 = true := by kernel_rfl
theorem pl182 : Plainf Try.prog 182 = true := by kernel_rfl
theorem pl183 : Plainf Try.prog 183 = true := by kernel_rfl
theorem pl184 : Plainf Try.prog 184 = true := by kernel_rfl
theorem pl185 : Plainf Try.prog 185 = true := by kernel_rfl
theorem mixed : Try.prog.follows .mixedOrders = true := by kernel_rfl
end Go.Proofs.Ytdbadicpbmndbaa
/- How a signature lies in memory, and when two symbols are the same. Plain definitions; no condition. -/
set_option linter.unusedVariables false
set_option linter.unusedSimpArgs false
namespace Go.Proofs.Ytdbadicpbmndbaa
open Go Lg

structure Sy where
  name : ByteArray
  ar : Int
  wt : Int
  tr : Bool
def Sy.cs (s : Sy) : List Value := [.string s.name, .int .i64 s.ar, .int .i64 s.wt, .bool s.tr]
def Sy.v (s : Sy) : Value := .agg s.cs.toArray
def Sy.ok (s : Sy) : Prop := InR s.ar ∧ InR s.wt ∧ s.name.size ≤ maxLen
def nmEq (a b : ByteArray) : Bool := a.toList == b.toList
theorem nmEq_iff {a b : ByteArray} : nmEq a b = true ↔ a.toList = b.toList := by simp [nmEq]
theorem nmEq_self (a : ByteArray) : nmEq a a = true := by simp [nmEq]
theorem nmEq_comm (a b : ByteArray) : nmEq a b = nmEq b a := by
  cases h : nmEq a b
  · cases k : nmEq b a
    · rfl
    · rw [nmEq_iff] at k; rw [← h, nmEq_iff.2 k.symm]
  · rw [nmEq_iff] at h; rw [nmEq_iff.2 h.symm]

/-- a signature that is only read -/
inductive RepG (I : Imm) : Value → List Sy → Prop
  | mk (ad : Option Addr) (c : Nat) (gs : List Sy) (hc : gs.length ≤ c) (hb : gs.length ≤ 4398046511104) (hat : ∀ i (h : i < gs.length), At I ad (i * 4) gs[i].cs) (hr : ∀ s ∈ gs, s.ok) : RepG I (.slice ad gs.length c) gs
theorem RepG.mono {I J : Imm} {v : Value} {gs : List Sy} (h : RepG I v gs) (hl : I.le J) : RepG J v gs := by
  obtain ⟨ad, c, gs, hc, hb, hat, hr⟩ := h
  exact ⟨ad, c, gs, hc, hb, fun i hi => (hat i hi).mono hl, hr⟩
theorem RepG.shape {I : Imm} {v : Value} {gs : List Sy} (h : RepG I v gs) : ∃ ad c, v = .slice ad gs.length c := by
  obtain ⟨ad, c, gs, _, _, _, _⟩ := h; exact ⟨ad, c, rfl⟩
theorem RepG.open {I : Imm} {ad : Option Addr} {n c : Nat} {gs : List Sy} (h : RepG I (.slice ad n c) gs) : n = gs.length ∧ gs.length ≤ c ∧ gs.length ≤ 4398046511104 ∧ (∀ i (h : i < gs.length), At I ad (i * 4) gs[i].cs) ∧ ∀ s ∈ gs, s.ok := by
  generalize e : Value.slice ad n c = v at h
  obtain ⟨ad', c', gs, hc, hb, hat, hr⟩ := h
  cases e
  exact ⟨rfl, hc, hb, hat, hr⟩
theorem RepG.take {I : Imm} {ad : Option Addr} {c : Nat} {gs : List Sy} (h : RepG I (.slice ad gs.length c) gs) {k : Nat} (hk : k ≤ gs.length) : RepG I (.slice ad k c) (gs.take k) := by
  obtain ⟨_, hc, hb, hat, hr⟩ := h.open
  have e : (gs.take k).length = k := by rw [List.length_take]; omega
  have := RepG.mk (I := I) ad c (gs.take k) (by omega) (by omega) (fun i hi => by
    have : (gs.take k)[i] = gs[i]'(by omega) := List.getElem_take
    rw [this]; exact hat i (by omega)) (fun s hs => hr s (List.mem_of_mem_take hs))
  rwa [e] at this
/-- out of a row of one's own -/
theorem RepG.of {I : Imm} {ad : Option Addr} {n c : Nat} {gs : List Sy} {xs : List Value} (hat : Cells I ad xs) (hx : xs = gs.flatMap Sy.cs) (hn : n = gs.length) (hc : n ≤ c) (hb : n ≤ 4398046511104) (hr : ∀ s ∈ gs, s.ok) : RepG I (.slice ad n c) gs := by
  subst hn; subst hx
  refine ⟨ad, c, gs, hc, hb, fun i hi => hat.at _ fun j v hj => ?_, hr⟩
  clear hat hc hb hr
  induction gs generalizing i with
  | nil => simp at hi
  | cons s r ih =>
    have hs : s.cs.length = 4 := rfl
    cases i with
    | zero =>
      simp only [List.getElem_cons_zero] at hj
      have hlt := (List.getElem?_eq_some_iff.1 hj).1
      rw [List.flatMap_cons, List.getElem?_append_left (by omega)]
      simpa using hj
    | succ i =>
      simp only [List.getElem_cons_succ] at hj
      have := ih i (by simpa using hi) hj
      rw [List.flatMap_cons, List.getElem?_append_right (by omega), hs, ← this]
      congr 1; omega

/-! ### equality -/
def syEq (a b : Sy) : Bool := (a.name == b.name) && (a.ar == b.ar && (a.wt == b.wt && a.tr == b.tr))
structure SyTy (P : Program) (t ts ti tb : TypeId) : Prop where
  str : ∃ f0 f1 f2 f3 : Field, P.underlying t = some (.struct #[f0, f1, f2, f3]) ∧ (f0.type = ts ∧ f0.offset = 0 ∧ f0.name ≠ "_") ∧ (f1.type = ti ∧ f1.offset = 1 ∧ f1.name ≠ "_") ∧ (f2.type = ti ∧ f2.offset = 2 ∧ f2.name ≠ "_") ∧ (f3.type = tb ∧ f3.offset = 3 ∧ f3.name ≠ "_")
  us : P.underlying ts = some .string
  ui : P.underlying ti = some (.int .i64)
  ub : P.underlying tb = some .bool
  held : P.stoodInHeld t = false
  guard : P.eqGuardType P.depth t = false
theorem run_part {P : Program} {t : TypeId} {u : TypeDesc} (hu : P.underlying t = some u) (hn : (match u with | .struct _ | .array _ _ => true | _ => false) = false) {cs : Array Value} {i : Nat} {v : Value} (hv : cs[i]? = some v) (w : World) : (part t cs i).run P w = .ok v w := by
  have h1 : (underlying t).run P w = .ok u w := by simp [underlying, program, Sem.run, hu]
  have hia : (isAgg t).run P w = .ok false w := by
    simp only [isAgg, Sem.run_bind, h1, Result.andThen]
    cases u <;> simp at hn <;> rfl
  simp [part, hia, hv]
theorem run_eqSy {P : Program} {t ts ti tb : TypeId} (ty : SyTy P t ts ti tb) (a b : Sy) (w : World) : (Op.equal t a.v b.v).run P w = .ok (syEq a b) w := by
  obtain ⟨f0, f1, f2, f3, hs, ⟨e1, e2, e3⟩, ⟨g1, g2, g3⟩, ⟨h1, h2, h3⟩, k1, k2, k3⟩ := ty.str
  have hu : (underlying t).run P w = .ok (.struct #[f0, f1, f2, f3]) w := by simp [underlying, program, Sem.run, hs]
  have hus : (underlying ts).run P w = .ok .string w := by simp [underlying, program, Sem.run, ty.us]
  have hui : (underlying ti).run P w = .ok (.int .i64) w := by simp [underlying, program, Sem.run, ty.ui]
  have hub : (underlying tb).run P w = .ok .bool w := by simp [underlying, program, Sem.run, ty.ub]
  have q1 : ∀ x y : ByteArray, (Op.equalIn 9999 ts (.string x) (.string y)).run P w = .ok (x == y) w := fun x y => by
    show (Op.equalIn (9998 + 1) ts (.string x) (.string y)).run P w = _
    rw [Op.equalIn]; simp only [Sem.run_bind, hus, Result.andThen]; rfl
  have q2 : ∀ x y : Int, (Op.equalIn 9999 ti (.int .i64 x) (.int .i64 y)).run P w = .ok (x == y) w := fun x y => by
    show (Op.equalIn (9998 + 1) ti (.int .i64 x) (.int .i64 y)).run P w = _
    rw [Op.equalIn]; simp only [Sem.run_bind, hui, Result.andThen]; rfl
  have q3 : ∀ x y : Bool, (Op.equalIn 9999 tb (.bool x) (.bool y)).run P w = .ok (x == y) w := fun x y => by
    show (Op.equalIn (9998 + 1) tb (.bool x) (.bool y)).run P w = _
    rw [Op.equalIn]; simp only [Sem.run_bind, hub, Result.andThen]; rfl
  have p1 : ∀ s : Sy, (part ts s.cs.toArray 0).run P w = .ok (.string s.name) w := fun s => run_part ty.us rfl rfl w
  have p2 : ∀ s : Sy, (part ti s.cs.toArray 1).run P w = .ok (.int .i64 s.ar) w := fun s => run_part ty.ui rfl rfl w
  have p3 : ∀ s : Sy, (part ti s.cs.toArray 2).run P w = .ok (.int .i64 s.wt) w := fun s => run_part ty.ui rfl rfl w
  have p4 : ∀ s : Sy, (part tb s.cs.toArray 3).run P w = .ok (.bool s.tr) w := fun s => run_part ty.ub rfl rfl w
  have hheld := ty.held
  show (Op.equalIn (9999 + 1) t (.agg a.cs.toArray) (.agg b.cs.toArray)).run P w = _
  rw [Op.equalIn]
  simp only [Sem.run_bind, hu, Result.andThen, program, Sem.run, hheld, Bool.false_eq_true, if_false]
  unfold syEq
  cases c1 : (a.name == b.name) <;> cases c2 : (a.ar == b.ar) <;> cases c3 : (a.wt == b.wt) <;> cases c4 : (a.tr == b.tr) <;>
    simp [Sem.run_bind, Result.andThen, e1, e2, e3, g1, g2, g3, h1, h2, h3, k1, k2, k3, p1, p2, p3, p4, q1, q2, q3, c1, c2, c3, c4, List.forIn_cons, List.forIn_nil]

variable {C : Ctx} {σ : Env} {ds : List Nat} {I : Imm} {δ : List Ent}
def cmpG : BinOp → Sy → Sy → Option Bool
  | .eql, a, b => some (syEq a b)
  | .neq, a, b => some (!(syEq a b))
  | _, _, _ => none
theorem Lg.v_eqSy {op : BinOp} {t t' ts ti tb : TypeId} {x y : Operand} {a b : Sy} {z : Bool} (ty : SyTy C.P t ts ti tb) (hx : evS σ x = some a.v) (hy : evS σ y = some b.v) (hz : cmpG op a b = some z) : ValJ C σ ds I δ (.binOp op t x y t') (.bool z) := by
  have hg : ∀ w, (eqGuard op t x y a.v b.v).run C.P w = .ok () w := fun w => by
    have hq := ty.guard
    cases op <;> simp [cmpG] at hz <;> simp [eqGuard, Sy.v, program, Sem.run, hq]
  have he : ∀ w, (Op.equal t a.v b.v).run C.P w = .ok (syEq a b) w := run_eqSy ty a b
  refine v_bin hx hy hg (fun w => ?_)
  have h2 : ∀ f : Bool → Bool, (do pure (Value.bool (f (← Op.equal t a.v b.v))) : Sem Value).run C.P w = .ok (.bool (f (syEq a b))) w := fun f => by simp only [Sem.run_bind, he, Result.andThen]; rfl
  cases op <;> simp only [cmpG, Option.some.injEq, reduceCtorEq] at hz
  · subst hz; exact h2 id
  · subst hz; exact h2 not
theorem syTy : SyTy Try.prog 79 9 3 4 :=
  ⟨⟨_, _, _, _, Try.underlying79, ⟨rfl, rfl, by decide⟩, ⟨rfl, rfl, by decide⟩, ⟨rfl, rfl, by decide⟩, rfl, rfl, by decide⟩, Try.underlying9, Try.underlying3, Try.underlying4, by kernel_rfl, by kernel_rfl⟩
end Go.Proofs.Ytdbadicpbmndbaa
/- Plain facts on terms. No condition. -/
set_option linter.unusedVariables false
set_option linter.unusedSimpArgs false
namespace Go.Proofs.Ytdbadicpbmndbaa

mutual
def T.size : T → Nat
  | .mk _ ars => 1 + sizeL ars
def sizeL : List T → Nat
  | [] => 0
  | t :: r => t.size + sizeL r
end
theorem T.size_pos (t : T) : 1 ≤ t.size := by cases t; simp [T.size]
theorem sizeL_drop (ars : List T) (k : Nat) (h : k < ars.length) : sizeL (ars.drop k) = ars[k].size + sizeL (ars.drop (k + 1)) := by
  rw [List.drop_eq_getElem_cons h]; simp [sizeL]
theorem sizeL_mem : ∀ (ars : List T) (k : Nat) (h : k < ars.length), ars[k].size ≤ sizeL ars
  | t :: r, 0, _ => by simp [sizeL]
  | t :: r, k + 1, h => by
    have := sizeL_mem r k (by simpa using h)
    simp [sizeL]; omega
theorem sizeL_len : ∀ (ars : List T), ars.length ≤ sizeL ars
  | [] => by simp [sizeL]
  | t :: r => by have := sizeL_len r; have := t.size_pos; simp [sizeL]; omega

def ordI (a b : Int) : Int := if a < b then -1 else if a > b then 1 else 0
mutual
def cmpT : T → T → Int
  | .mk h ars, .mk g bs =>
    if 1 + sizeL ars ≠ 1 + sizeL bs then ordI (1 + sizeL ars : Nat) (1 + sizeL bs : Nat)
    else if h ≠ g then ordI h g
    else if ars.length ≠ bs.length then ordI ars.length bs.length
    else cmpL ars bs
def cmpL : List T → List T → Int
  | a :: ars, b :: bs => if cmpT a b ≠ 0 then cmpT a b else cmpL ars bs
  | _, _ => 0
end
theorem ordI_range (a b : Int) : -1 ≤ ordI a b ∧ ordI a b ≤ 1 := by
  unfold ordI
  split
  · omega
  · split <;> omega
mutual
theorem cmpT_range : ∀ (a b : T), -1 ≤ cmpT a b ∧ cmpT a b ≤ 1
  | .mk h ars, .mk g bs => by
    unfold cmpT
    split
    · exact ordI_range _ _
    · split
      · exact ordI_range _ _
      · split
        · exact ordI_range _ _
        · exact cmpL_range ars bs
theorem cmpL_range : ∀ (a b : List T), -1 ≤ cmpL a b ∧ cmpL a b ≤ 1
  | [], _ => by simp [cmpL]
  | _ :: _, [] => by simp [cmpL]
  | a :: ars, b :: bs => by
    unfold cmpL
    split
    · exact cmpT_range a b
    · exact cmpL_range ars bs
end
theorem ordI_zero {a b : Int} (h : ordI a b = 0) : a = b := by
  unfold ordI at h
  split at h
  · omega
  · split at h <;> omega
mutual
theorem cmpT_zero : ∀ (a b : T), cmpT a b = 0 → a = b
  | .mk h ars, .mk g bs, e => by
    unfold cmpT at e
    split at e
    · have := ordI_zero e; omega
    · split at e
      · exact absurd (ordI_zero e) (by assumption)
      · split at e
        · have := ordI_zero e; omega
        · rename_i h1 h2 h3
          have h2' : h = g := by omega
          have h3' : ars.length = bs.length := by omega
          rw [h2', cmpL_zero ars bs h3' e]
theorem cmpL_zero : ∀ (a b : List T), a.length = b.length → cmpL a b = 0 → a = b
  | [], [], _, _ => rfl
  | [], _ :: _, h, _ => by simp at h
  | _ :: _, [], h, _ => by simp at h
  | a :: ars, b :: bs, h, e => by
    unfold cmpL at e
    split at e
    · rename_i hne; exact absurd e hne
    · rename_i h0
      have h0' : cmpT a b = 0 := by omega
      rw [cmpT_zero a b h0', cmpL_zero ars bs (by simpa using h) e]
end
mutual
theorem cmpT_self : ∀ (a : T), cmpT a a = 0
  | .mk h ars => by simp [cmpT, cmpL_self ars]
theorem cmpL_self : ∀ (a : List T), cmpL a a = 0
  | [] => by simp [cmpL]
  | a :: ars => by simp [cmpL, cmpT_self a, cmpL_self ars]
end
theorem cmpT_eq (a b : T) : cmpT a b = 0 ↔ a = b := ⟨cmpT_zero a b, fun h => by subst h; exact cmpT_self a⟩
theorem cmpL_drop (ars bs : List T) (k : Nat) (h : k < ars.length) (h' : k < bs.length) :
    cmpL (ars.drop k) (bs.drop k) = if cmpT ars[k] bs[k] ≠ 0 then cmpT ars[k] bs[k] else cmpL (ars.drop (k + 1)) (bs.drop (k + 1)) := by
  rw [List.drop_eq_getElem_cons h, List.drop_eq_getElem_cons h', cmpL]
/-- the part at a place -/
def atT : T → List Int → Option T
  | t, [] => some t
  | t, x :: r => if h : 0 ≤ x ∧ x.toNat < t.args.length then atT (t.args[x.toNat]'h.2) r else none
instance : DecidableEq T := fun a b => if h : cmpT a b = 0 then .isTrue ((cmpT_eq a b).1 h) else .isFalse fun e => h ((cmpT_eq a b).2 e)
theorem sizeL_app (a b : List T) : sizeL (a ++ b) = sizeL a + sizeL b := by
  induction a with
  | nil => simp [sizeL]
  | cons x r ih => simp [sizeL, ih]; omega

theorem sizeL_take (l : List T) (k : Nat) (h : k < l.length) : sizeL (l.take (k + 1)) = sizeL (l.take k) + l[k].size := by
  rw [List.take_succ_eq_append_getElem h, sizeL_app]; simp [sizeL]
end Go.Proofs.Ytdbadicpbmndbaa
/- Plain facts on the parts of a term, with their depths. No condition. -/
set_option linter.unusedVariables false
set_option linter.unusedSimpArgs false
namespace Go.Proofs.Ytdbadicpbmndbaa
open Go Lg

mutual
def partsT : Nat → T → List (Nat × T)
  | d, .mk h ts => (d, .mk h ts) :: partsL (d + 1) ts
def partsL : Nat → List T → List (Nat × T)
  | _, [] => []
  | d, t :: r => partsT d t ++ partsL d r
end
mutual
theorem partsT_length : ∀ (d : Nat) (t : T), (partsT d t).length = t.size
  | d, .mk h ts => by simp [partsT, T.size, partsL_length (d + 1) ts]; omega
theorem partsL_length : ∀ (d : Nat) (ts : List T), (partsL d ts).length = sizeL ts
  | _, [] => rfl
  | d, t :: r => by simp [partsL, sizeL, partsT_length d t, partsL_length d r]
end
mutual
theorem partsT_deep : ∀ (d : Nat) (t : T) (x : Nat × T), x ∈ partsT d t → x.1 + x.2.size ≤ d + t.size
  | d, .mk h ts, x, hx => by
    simp only [partsT, List.mem_cons] at hx
    rcases hx with rfl | hx
    · simp
    · have := partsL_deep (d + 1) ts x hx; simp [T.size]; omega
theorem partsL_deep : ∀ (d : Nat) (ts : List T) (x : Nat × T), x ∈ partsL d ts → x.1 + x.2.size ≤ d + sizeL ts
  | _, [], x, hx => by simp [partsL] at hx
  | d, t :: r, x, hx => by
    simp only [partsL, List.mem_append] at hx
    rcases hx with hx | hx
    · have := partsT_deep d t x hx; simp [sizeL]; omega
    · have := partsL_deep d r x hx; simp [sizeL]; omega
end
/-- what a stack of terms still has to tell -/
def partsS (st : List (Nat × T)) : List (Nat × T) := st.reverse.flatMap fun x => partsT x.1 x.2
theorem partsS_snoc (st : List (Nat × T)) (x : Nat × T) : partsS (st ++ [x]) = partsT x.1 x.2 ++ partsS st := by simp [partsS]
theorem partsS_app (st us : List (Nat × T)) : partsS (st ++ us) = partsS us ++ partsS st := by simp [partsS]
theorem partsL_eq : ∀ (d : Nat) (ts : List T), partsL d ts = (ts.map fun t => (d, t)).flatMap fun x => partsT x.1 x.2
  | _, [] => rfl
  | d, t :: r => by simp [partsL, partsL_eq d r]
/-- the arguments, the last one first -/
def kids (d : Nat) (ts : List T) (l : List Nat) : List (Nat × T) := l.map fun i => (d, ts.getD i zeroT)
theorem map_range_getD (ts : List T) : (List.range ts.length).map (fun i => ts.getD i zeroT) = ts := by
  apply List.ext_getElem
  · simp
  · intro i h1 h2; simp at h1; simp [h1]
theorem partsS_kids (d : Nat) (ts : List T) : partsS (kids d ts (List.range ts.length).reverse) = partsL d ts := by
  rw [partsL_eq, partsS, kids, ← List.map_reverse, List.reverse_reverse]
  congr 1
  have : (fun i => (d, ts.getD i zeroT)) = (fun t => (d, t)) ∘ (fun i => ts.getD i zeroT) := rfl
  rw [this, ← List.map_map, map_range_getD]
theorem partsS_len (st : List (Nat × T)) : st.length ≤ (partsS st).length := by
  have key : ∀ l : List (Nat × T), l.length ≤ (l.flatMap fun x => partsT x.1 x.2).length := fun l => by
    induction l with
    | nil => simp
    | cons x r ih => have := x.2.size_pos; simp [partsT_length] at ih ⊢; omega
  have := key st.reverse
  simpa [partsS] using this
theorem range_rev (n k : Nat) (h : k < n) : (List.range n).reverse = (List.range n).reverse.take k ++ (n - 1 - k) :: (List.range n).reverse.drop (k + 1) := by
  have hl : k < (List.range n).reverse.length := by simpa using h
  have hk : (List.range n).reverse[k] = n - 1 - k := by simp [List.getElem_reverse]
  rw [← hk]
  have h1 := List.take_append_drop k (List.range n).reverse
  rw [List.drop_eq_getElem_cons hl] at h1
  exact h1.symm
theorem range_rev_take (n k : Nat) (h : k < n) : (List.range n).reverse.take (k + 1) = (List.range n).reverse.take k ++ [n - 1 - k] := by
  have hl : k < (List.range n).reverse.length := by simpa using h
  have hk : (List.range n).reverse[k] = n - 1 - k := by simp [List.getElem_reverse]
  rw [List.take_succ_eq_append_getElem hl, hk]

/-- cells of terms with their depths, one behind the other -/
def RowK (I : Imm) (xs : List Value) (st : List (Nat × T)) : Prop :=
  xs.length = st.length * 3 ∧ ∀ i (h : i < st.length), ∃ s : Option Addr × Nat, xs[i * 3]? = some (.int .i64 st[i].2.head) ∧ xs[i * 3 + 1]? = some (.slice s.1 st[i].2.args.length s.2) ∧ xs[i * 3 + 2]? = some (.int .i64 st[i].1) ∧
    RepT I (.agg #[.int .i64 st[i].2.head, .slice s.1 st[i].2.args.length s.2]) st[i].2
theorem RowK.mono {I J : Imm} {xs : List Value} {st : List (Nat × T)} (h : RowK I xs st) (hl : I.le J) : RowK J xs st :=
  ⟨h.1, fun i hi => let ⟨s, h1, h2, h3, h4⟩ := h.2 i hi; ⟨s, h1, h2, h3, h4.mono hl⟩⟩
theorem RowK.one {I : Imm} {d : Nat} {t : T} {a : Option Addr} {c : Nat} (h : RepT I (.agg #[.int .i64 t.head, .slice a t.args.length c]) t) : RowK I [.int .i64 t.head, .slice a t.args.length c, .int .i64 d] [(d, t)] :=
  ⟨rfl, fun i hi => by
    have : i = 0 := by simp at hi; omega
    subst this
    exact ⟨(a, c), rfl, rfl, rfl, h⟩⟩
theorem RowK.app {I : Imm} {xs ys : List Value} {ts us : List (Nat × T)} (h : RowK I xs ts) (k : RowK I ys us) : RowK I (xs ++ ys) (ts ++ us) := by
  refine ⟨by simp [h.1, k.1]; omega, fun i hi => ?_⟩
  by_cases hlt : i < ts.length
  · obtain ⟨s, h1, h2, h3, h4⟩ := h.2 i hlt
    have e : (ts ++ us)[i] = ts[i] := List.getElem_append_left hlt
    rw [e]
    exact ⟨s, by rw [List.getElem?_append_left (by rw [h.1]; omega)]; exact h1, by rw [List.getElem?_append_left (by rw [h.1]; omega)]; exact h2, by rw [List.getElem?_append_left (by rw [h.1]; omega)]; exact h3, h4⟩
  · have hi' : i - ts.length < us.length := by simp at hi; omega
    obtain ⟨s, h1, h2, h3, h4⟩ := k.2 (i - ts.length) hi'
    have e : (ts ++ us)[i] = us[i - ts.length] := List.getElem_append_right (by omega)
    rw [e]
    refine ⟨s, ?_, ?_, ?_, h4⟩
    · rw [List.getElem?_append_right (by rw [h.1]; omega), h.1, ← h1]; congr 1; omega
    · rw [List.getElem?_append_right (by rw [h.1]; omega), h.1, ← h2]; congr 1; omega
    · rw [List.getElem?_append_right (by rw [h.1]; omega), h.1, ← h3]; congr 1; omega
theorem RowK.take {I : Imm} {xs : List Value} {ts : List (Nat × T)} {x : Nat × T} (h : RowK I xs (ts ++ [x])) : RowK I (xs.take (ts.length * 3)) ts := by
  refine ⟨by rw [List.length_take, h.1]; simp only [List.length_append, List.length_cons, List.length_nil]; omega, fun i hi => ?_⟩
  obtain ⟨s, h1, h2, h3, h4⟩ := h.2 i (by simp; omega)
  have e : (ts ++ [x])[i]'(by simp; omega) = ts[i] := List.getElem_append_left hi
  rw [e] at h1 h2 h3 h4
  exact ⟨s, by rw [List.getElem?_take_of_lt (by omega)]; exact h1, by rw [List.getElem?_take_of_lt (by omega)]; exact h2, by rw [List.getElem?_take_of_lt (by omega)]; exact h3, h4⟩
theorem RowK.last {I : Imm} {xs : List Value} {ts : List (Nat × T)} {x : Nat × T} (h : RowK I xs (ts ++ [x])) :
    ∃ s : Option Addr × Nat, ld true 3 (xs.drop (ts.length * 3)) = some (.agg #[.int .i64 x.2.head, .slice s.1 x.2.args.length s.2, .int .i64 x.1]) ∧ RepT I (.agg #[.int .i64 x.2.head, .slice s.1 x.2.args.length s.2]) x.2 := by
  obtain ⟨s, h1, h2, h3, h4⟩ := h.2 ts.length (by simp)
  have e : (ts ++ [x])[ts.length]'(by simp) = x := by simp
  rw [e] at h1 h2 h3 h4
  refine ⟨s, ?_, h4⟩
  obtain ⟨l1, e1⟩ := List.getElem?_eq_some_iff.1 h1
  obtain ⟨l2, e2⟩ := List.getElem?_eq_some_iff.1 h2
  obtain ⟨l3, e3⟩ := List.getElem?_eq_some_iff.1 h3
  rw [List.drop_eq_getElem_cons l1, List.drop_eq_getElem_cons l2, List.drop_eq_getElem_cons l3, e1, e2, e3]
  rfl
end Go.Proofs.Ytdbadicpbmndbaa
/- Walks: rows of numbers. -/
set_option linter.unusedVariables false
set_option linter.unusedSimpArgs false
/- short -/
namespace Go.Proofs.Ytdbadicpbmndbaa
open Go Lg

theorem Ints_does (I : Imm) {va vb : Value} {xs ys : List Int} (ha : RInts I va xs) (hb : RInts I vb ys) :
    Does Try.prog 43 [va, vb] I [] (fun v I' δ' => v = .bool (decide (xs = ys)) ∧ δ' = []) := by
  obtain ⟨ad, c, xs, hc, hn, hca, hra⟩ := ha
  obtain ⟨bd, e, ys, he, hm, hcb, hrb⟩ := hb
  refine Does.intro Try.func43 rfl Try.ntmps43 rfl fun w0 => ?_
  refine code_seq ?_
  refine code_region ?_
  refine op_v (v_assign rfl) rfl ?_
  refine ops_nil ?_
  refine post_next ?_
  refine code_seq ?_
  refine code_seq ?_
  refine code_region ?_
  refine op_v (v_move rfl) rfl ?_
  refine op_v (v_len Try.underlying62 rfl) rfl ?_
  refine op_v (v_move rfl) rfl ?_
  refine op_v (v_len Try.underlying62 rfl) rfl ?_
  first | refine op_v (v_cmptA rfl rfl rfl) rfl ?_ | refine op_v (v_cmpfA rfl rfl rfl) rfl ?_ | refine op_v (v_cmp rfl rfl rfl) rfl ?_
  refine ops_nil ?_
  refine post_next ?_
  refine code_cond rfl (fun hc0 => ?_) (fun hc0 => ?_)
  · have hl : xs.length ≠ ys.length := by simp at hc0; omega
    refine code_seq ?_
    refine code_region ?_
    refine op_v (v_assign rfl) rfl ?_
    refine ops_nil ?_
    refine post_next ?_
    refine code_ret ?_
    refine post_ret_then ?_
    refine post_ret (rs := [.tmp 4]) rfl (List.Perm.refl _) (.cons (.tmp rfl) .nil) (List.nil_sublist _) ?_
    exact ⟨bool_f fun e => hl (by rw [e]), rfl⟩
  · have hl : xs.length = ys.length := by simp at hc0; omega
    refine code_skip ?_
    refine post_next ?_
    refine code_seq ?_
    refine code_seq ?_
    refine code_region ?_
    refine op_v (v_assign rfl) rfl ?_
    refine ops_nil ?_
    refine post_next ?_
    refine code_block ?_
    refine code_loop (fun m σ' I' δ' => ∃ k : Nat, k ≤ xs.length ∧ m = xs.length - k ∧ σ' = [(0, .slice ad xs.length c), (1, .slice bd ys.length e), (5, .int .i64 k)] ∧ I' = I ∧ δ' = [] ∧ ∀ j (h : j < k) (h1 : j < xs.length) (h2 : j < ys.length), xs[j] = ys[j]) xs.length [(0, .slice ad xs.length c), (1, .slice bd ys.length e), (5, .int .i64 (0 : Nat))] ⟨0, Nat.zero_le _, rfl, rfl, rfl, rfl, fun j h => by omega⟩ ⟨rfl, rfl, rfl, trivial⟩ ?_
    rintro m _ _ _ ⟨k, hk, rfl, rfl, rfl, rfl, hp⟩
    refine code_seq ?_
    refine code_seq ?_
    refine code_region ?_
    refine op_v (v_move rfl) rfl ?_
    refine op_v (v_move rfl) rfl ?_
    refine op_v (v_len Try.underlying62 rfl) rfl ?_
    first | refine op_v (v_cmptA rfl rfl rfl) rfl ?_ | refine op_v (v_cmpfA rfl rfl rfl) rfl ?_ | refine op_v (v_cmp rfl rfl rfl) rfl ?_
    refine ops_nil ?_
    refine post_next ?_
    refine code_cond rfl (fun hc1 => ?_) (fun hc1 => ?_)
    · have hlt : k < xs.length := by simpa using hc1
      have hlt' : k < ys.length := by omega
      have hs1 := ints_some hca k hlt
      have hs2 := ints_some hcb k hlt'
      refine code_skip ?_
      refine post_next ?_
      refine code_seq ?_
      refine code_block ?_
      refine code_seq ?_
      refine code_draw (.fl 0 (.fl 1 (.fl 2 (.fl 3 (.fl 4 (.fl 5 (.fl 6 (.fl 7 (.fl 8 .done))))))))) (fun _ => _) mixed (by kernel_rfl) (by kernel_rfl) (fun _ => (List.Sublist.refl _)) ?_
      refine e_fl rfl rfl (fun hs_ => PF.mk rfl (v_move rfl) hs_) ?_
      refine e_fl rfl rfl (fun hs_ => PF.mk rfl (v_move rfl) hs_) ?_
      first | refine e_fl rfl rfl (fun hs_ => PF.mk rfl (v_indexA Try.underlying62 sz3 rfl rfl) hs_) ?_ | refine e_fl rfl rfl (fun hs_ => PF.mk rfl (v_indexIA Try.underlying62 sz3 rfl rfl) hs_) ?_
      first | refine e_fl rfl rfl (fun hs_ => PF.mk rfl (v_loadI0 ty3 (ints_at hca k hlt) rfl rfl rfl) hs_) ?_ | refine e_fl rfl rfl (fun hs_ => PF.mk rfl (v_loadI ty3 (ints_at hca k hlt) rfl rfl rfl) hs_) ?_
      refine e_fl rfl rfl (fun hs_ => PF.mk rfl (v_move rfl) hs_) ?_
      refine e_fl rfl rfl (fun hs_ => PF.mk rfl (v_move rfl) hs_) ?_
      first | refine e_fl rfl rfl (fun hs_ => PF.mk rfl (v_indexA Try.underlying62 sz3 rfl rfl) hs_) ?_ | refine e_fl rfl rfl (fun hs_ => PF.mk rfl (v_indexIA Try.underlying62 sz3 rfl rfl) hs_) ?_
      first | refine e_fl rfl rfl (fun hs_ => PF.mk rfl (v_loadI0 ty3 (ints_at hcb k hlt') rfl rfl rfl) hs_) ?_ | refine e_fl rfl rfl (fun hs_ => PF.mk rfl (v_loadI ty3 (ints_at hcb k hlt') rfl rfl rfl) hs_) ?_
      first | refine e_fl rfl rfl (fun hs_ => PF.mk rfl (v_cmptA rfl rfl rfl) hs_) ?_ | refine e_fl rfl rfl (fun hs_ => PF.mk rfl (v_cmpfA rfl rfl rfl) hs_) ?_ | refine e_fl rfl rfl (fun hs_ => PF.mk rfl (v_cmp rfl rfl rfl) hs_) ?_
      refine e_done ?_
      refine post_next ?_
      refine code_cond rfl (fun hc2 => ?_) (fun hc2 => ?_)
      · have hne : xs[k] ≠ ys[k] := by simpa using hc2
        refine code_seq ?_
        refine code_region ?_
        refine op_v (v_assign rfl) rfl ?_
        refine ops_nil ?_
        refine post_next ?_
        refine code_ret ?_
        refine post_ret_block ?_
        refine post_ret_then ?_
        refine post_ret_then ?_
        refine post_ret_block ?_
        refine post_ret_then ?_
        refine post_ret (rs := [.tmp 4]) rfl (List.Perm.refl _) (.cons (.tmp rfl) .nil) (List.nil_sublist _) ?_
        exact ⟨bool_f fun e => hne (by subst e; rfl), rfl⟩
      · have heq : xs[k] = ys[k] := by simpa using hc2
        refine code_skip ?_
        refine post_out ?_
        refine post_next ?_
        refine code_region ?_
        refine op_v (v_move rfl) rfl ?_
        first | refine op_v (v_addb rfl rfl rfl (by omega)) rfl ?_ | refine op_v (v_add rfl rfl) rfl ?_
        refine op_v (v_assign rfl) rfl ?_
        refine ops_nil ?_
        refine post_again (xs.length - (k + 1)) [(0, .slice ad xs.length c), (1, .slice bd ys.length e), (5, .int .i64 ((k + 1 : Nat) : Int))] (by omega) ⟨k + 1, hlt, rfl, rfl, rfl, rfl, fun j h h1 h2 => ?_⟩ ⟨rfl, rfl, rfl, trivial⟩
        by_cases hj : j = k
        · subst hj; exact heq
        · exact hp j (by omega) h1 h2
    · have hge : ¬ k < xs.length := by simpa using hc1
      refine code_exit ?_
      refine post_exit_then ?_
      refine post_exit_then ?_
      refine post_exit ?_
      refine post_next ?_
      refine code_seq ?_
      refine code_region ?_
      refine op_v (v_assign rfl) rfl ?_
      refine ops_nil ?_
      refine post_next ?_
      refine code_ret ?_
      refine post_ret (rs := [.tmp 4]) rfl (List.Perm.refl _) (.cons (.tmp rfl) .nil) (List.nil_sublist _) ?_
      exact ⟨bool_t (List.ext_getElem hl fun j h1 h2 => hp j (by omega) h1 h2), rfl⟩
end Go.Proofs.Ytdbadicpbmndbaa
/- Walks: what is ranged over: a row from behind, a term's parts. -/
set_option linter.unusedVariables false
set_option linter.unusedSimpArgs false
/- short -/
namespace Go.Proofs.Ytdbadicpbmndbaa
open Go Lg

def encB (ts : List T) (ss : Nat → Option Addr × Nat) (_ : Imm) (i : Nat) (vs : List Value) : Prop :=
  ∃ hi : i < ts.length, vs = [.int .i64 i, .agg #[.int .i64 ts[i].head, .slice (ss i).1 ts[i].args.length (ss i).2]]
theorem back_iter {I : Imm} {ts : List T} {ad : Option Addr} {c b : Nat} {ss : Nat → Option Addr × Nat} (hb : ts.length ≤ 4398046511104)
    (hat : ∀ i (h : i < ts.length), At I ad (i * 2) [.int .i64 ts[i].head, .slice (ss i).1 ts[i].args.length (ss i).2]) :
    Iter Try.prog 177 [.pointer (some ⟨b, 0, none⟩)] I [.box b 45 [.slice ad ts.length c]] (encB ts ss) (List.range ts.length).reverse := by
  intro yv J δ hmono h0 hy
  refine Does.intro Try.func177 rfl Try.ntmps177 rfl fun w0 => ?_
  refine code_seq ?_
  refine code_region ?_
  refine op_v (v_loadA ty45 rfl rfl) rfl ?_
  refine op_v (v_len Try.underlying45 rfl) rfl ?_
  first | refine op_v (v_subb rfl rfl rfl (by omega)) rfl ?_ | refine op_v (v_sub rfl rfl) rfl ?_
  refine op_v (v_assign rfl) rfl ?_
  refine ops_nil ?_
  refine post_next ?_
  refine code_block ?_
  refine code_loop (fun m σ' I' δ' => ∃ (k : Nat) (δJ : List Ent), m = ts.length - k ∧ k ≤ ts.length ∧ σ' = [(0, yv), (1, .pointer (some ⟨b, 0, none⟩)), (3, .int .i64 ((ts.length : Int) - 1 - k))] ∧ I.le I' ∧ δ' = .box b 45 [.slice ad ts.length c] :: δJ ∧ J ((List.range ts.length).reverse.take k) I' δJ) ts.length [(0, yv), (1, .pointer (some ⟨b, 0, none⟩)), (3, .int .i64 ((ts.length : Int) - 1))] ⟨0, δ, rfl, Nat.zero_le _, by simp, Imm.le_refl _, rfl, h0⟩ ⟨rfl, rfl, rfl, trivial⟩ ?_
  rintro m _ I0 _ ⟨k, δJ, rfl, hk, rfl, hI0, rfl, hJ⟩
  refine code_seq ?_
  refine code_seq ?_
  refine code_region ?_
  refine op_v (v_move rfl) rfl ?_
  first | refine op_v (v_cmptA rfl rfl rfl) rfl ?_ | refine op_v (v_cmpfA rfl rfl rfl) rfl ?_ | refine op_v (v_cmp rfl rfl rfl) rfl ?_
  refine ops_nil ?_
  refine post_next ?_
  refine code_cond rfl (fun hc0 => ?_) (fun hc0 => ?_)
  · have hq : 0 ≤ (ts.length : Int) - 1 - k := by simpa using hc0
    have hlt : k < ts.length := by omega
    obtain ⟨j, hj⟩ : ∃ j : Nat, j = ts.length - 1 - k := ⟨_, rfl⟩
    have hji : (ts.length : Int) - 1 - k = (j : Nat) := by omega
    rw [hji]
    have hjl : j < ts.length := by omega
    have hs1 := (hat j hjl).isSome
    have hx := range_rev ts.length k hlt
    rw [← hj] at hx
    have hx2 := range_rev_take ts.length k hlt
    rw [← hj] at hx2
    refine code_skip ?_
    refine post_next ?_
    refine code_seq ?_
    refine code_block ?_
    refine code_seq ?_
    refine code_region ?_
    refine op_v (v_move rfl) rfl ?_
    refine op_v (v_move rfl) rfl ?_
    refine op_v (v_loadA ty45 rfl rfl) rfl ?_
    refine op_v (v_move rfl) rfl ?_
    first | refine op_v (v_indexA Try.underlying45 sz47 rfl rfl) rfl ?_ | refine op_v (v_indexIA Try.underlying45 sz47 rfl rfl) rfl ?_
    first | refine op_v (v_loadI0 ty47 ((hat j hjl).mono hI0) rfl rfl rfl) rfl ?_ | refine op_v (v_loadI ty47 ((hat j hjl).mono hI0) rfl rfl rfl) rfl ?_
    refine op_fcall rfl rfl rfl ((hy _ j _ _ _ _ hx hI0 hJ ⟨hjl, rfl⟩)) (List.perm_append_comm (l₁ := [_])) ?_
    rintro v17 I17 δ17 hI17 ⟨rfl, hJ17⟩
    refine OpsJ.view (View.perm (List.perm_append_comm (l₂ := [_]))) ?_
    rw [← hx2] at hJ17
    refine op_v (v_not rfl) rfl ?_
    refine ops_nil ?_
    refine post_next ?_
    refine code_cond_f rfl ?_
    refine code_skip ?_
    refine post_out ?_
    refine post_next ?_
    refine code_region ?_
    refine op_v (v_move rfl) rfl ?_
    first | refine op_v (v_subb rfl rfl rfl (by omega)) rfl ?_ | refine op_v (v_sub rfl rfl) rfl ?_
    refine op_v (v_assign rfl) rfl ?_
    refine ops_nil ?_
    refine post_again (ts.length - (k + 1)) [(0, yv), (1, .pointer (some ⟨b, 0, none⟩)), (3, .int .i64 ((j : Int) - 1))] (by omega) ⟨k + 1, δ17, rfl, hlt, ?_, Imm.le_trans hI0 hI17, rfl, hJ17⟩ ⟨rfl, rfl, rfl, trivial⟩
    rw [show (j : Int) - 1 = (ts.length : Int) - 1 - ((k + 1 : Nat) : Int) by omega]
  · have hq : ¬ 0 ≤ (ts.length : Int) - 1 - k := by simpa using hc0
    have hge : k = ts.length := by omega
    have hall : (List.range ts.length).reverse.take k = (List.range ts.length).reverse := List.take_of_length_le (by simp; omega)
    rw [hall] at hJ
    refine code_exit ?_
    refine post_exit_then ?_
    refine post_exit_then ?_
    refine post_exit ?_
    refine post_end (rs := []) rfl (List.Perm.refl _) .nil (List.Sublist.refl _) ⟨δJ, hJ, rfl⟩

theorem Backward_does {I : Imm} {s : Value} :
    Does Try.prog 161 [s] I [] (fun v I' δ' => ∃ b, v = .func (.func 177) #[] #[.pointer (some ⟨b, 0, none⟩)] ∧ δ' = [.box b 45 (cellsL s)]) := by
  refine Does.intro Try.func161 rfl Try.ntmps161 rfl fun w0 => ?_
  refine code_seq ?_
  refine code_region ?_
  refine o_box rfl rfl rfl (fun b1 => ?_)
  refine op_v (v_assign rfl) rfl ?_
  refine ops_nil ?_
  refine post_next ?_
  refine code_seq ?_
  refine code_region ?_
  refine op_v (v_makeFunc rfl rfl) rfl ?_
  refine op_v (v_assign rfl) rfl ?_
  refine ops_nil ?_
  refine post_next ?_
  refine code_ret ?_
  refine post_ret (rs := [.tmp 2]) rfl (List.Perm.refl _) (.cons (.tmp rfl) .nil) (List.Sublist.refl _) ?_
  exact ⟨b1, rfl, rfl⟩
theorem parts_does {I : Imm} {h s : Value} :
    Does Try.prog 127 [.agg #[h, s]] I [] (fun v I' δ' => ∃ b, v = .func (.func 160) #[] #[.pointer (some ⟨b, 0, none⟩)] ∧ δ' = [.box b 47 [h, s]]) := by
  refine Does.intro Try.func127 rfl Try.ntmps127 rfl fun w0 => ?_
  refine code_seq ?_
  refine code_region ?_
  refine o_box rfl rfl rfl (fun b1 => ?_)
  refine op_v (v_assign rfl) rfl ?_
  refine ops_nil ?_
  refine post_next ?_
  refine code_seq ?_
  refine code_region ?_
  refine op_v (v_makeFunc rfl rfl) rfl ?_
  refine op_v (v_assign rfl) rfl ?_
  refine ops_nil ?_
  refine post_next ?_
  refine code_ret ?_
  refine post_ret (rs := [.tmp 2]) rfl (List.Perm.refl _) (.cons (.tmp rfl) .nil) (List.Sublist.refl _) ?_
  exact ⟨b1, rfl, rfl⟩
end Go.Proofs.Ytdbadicpbmndbaa
/- Walk: a term's parts, ranged over. -/
set_option linter.unusedVariables false
set_option linter.unusedSimpArgs false
/- short -/
namespace Go.Proofs.Ytdbadicpbmndbaa
open Go Lg

theorem Lg.OpsJ.rowSome {C : Ctx} {Q : Exit → Act → World → Prop} {σ : Env} {ds : List Nat} {I : Imm} {δ : List Ent} {ops : Array Oper} {rest : List Oper} {A : Option Addr} {c n size : Nat} {e : TypeId} {xs : List Value} (hd : Has δ (.row (.slice A n c) e size n xs)) (hn : 0 < n)
    (h : A.isSome = true → n ≤ c → OpsJ C ops Q rest σ ds I δ) : OpsJ C ops Q rest σ ds I δ := by
  intro a w he hs ht
  have hr : w.ownsRow 0 e size (.slice A n c) n xs := hs.ents _ hd.mem
  rcases hr.2 with ⟨h1, h2⟩ | ⟨g, cap, cur, h1, _, _, h3, _⟩
  · omega
  · cases h1
    exact h rfl h3 a w he hs ht

theorem partsT_eq (d : Nat) (u : T) : partsT d u = (d, u) :: partsL (d + 1) u.args := by cases u; rfl
def encP (I : Imm) (x : Nat × T) (vs : List Value) : Prop :=
  ∃ a c, vs = [.int .i64 x.1, .agg #[.int .i64 x.2.head, .slice a x.2.args.length c]] ∧ RepT I (.agg #[.int .i64 x.2.head, .slice a x.2.args.length c]) x.2

theorem parts_iter {I : Imm} {t : T} {ad : Option Addr} {c b : Nat} (hv : RepT I (.agg #[.int .i64 t.head, .slice ad t.args.length c]) t) (hbig : t.size ≤ 1000000000) :
    Iter Try.prog 160 [.pointer (some ⟨b, 0, none⟩)] I [.box b 47 [.int .i64 t.head, .slice ad t.args.length c]] encP (partsT 1 t) := by
  intro yv J δ hmono h0 hy
  refine Does.intro Try.func160 rfl Try.ntmps160 rfl fun w0 => ?_
  refine code_seq ?_
  refine code_region ?_
  refine op_v (v_loadA ty47 rfl rfl) rfl ?_
  refine op_v (v_build bl177 rfl rfl) rfl ?_
  refine o_buildSlice (xs := [(Go.Operand.tmp 8)]) Try.underlying178 bs177 rfl rfl rfl rfl rfl (fun b9 => ?_)
  refine o_alloc z178 rfl rfl (fun b3 => ?_)
  refine o_store ty178 rfl rfl rfl rfl rfl (by repeat (first | exact Swap.here | apply Swap.there)) rfl ?_
  refine ops_nil ?_
  refine post_next ?_
  refine code_block ?_
  refine code_loopD (fun m σ' ds' I' δ' => ∃ (pre st : List (Nat × T)) (ar : Option Addr) (cr : Nat) (xs : List Value) (δJ : List Ent), m = (partsS st).length ∧ σ' = [(0, yv), (1, .pointer (some ⟨b, 0, none⟩)), (3, .pointer (some ⟨b3, 0, none⟩))] ∧ I.le I' ∧ δ' = .box b3 178 [.slice ar st.length cr] :: .row (.slice ar st.length cr) 177 3 st.length xs :: .box b 47 [.int .i64 t.head, .slice ad t.args.length c] :: (MarkEnts ds' ++ δJ) ∧ J pre I' δJ ∧ RowK I' xs st ∧ pre ++ partsS st = partsT 1 t) (partsS [(1, t)]).length [(0, yv), (1, .pointer (some ⟨b, 0, none⟩)), (3, .pointer (some ⟨b3, 0, none⟩))] ⟨[], [(1, t)], _, _, _, δ, rfl, rfl, Imm.le_refl _, rfl, h0, RowK.one hv, by simp [partsS]⟩ ⟨rfl, rfl, rfl, trivial⟩ ?_
  rintro m _ ds0 I0 _ ⟨pre, st, ar, cr, xs, δJ, rfl, rfl, hI0, rfl, hJ, hrow, hall⟩
  refine code_seq ?_
  refine code_seq ?_
  refine code_region ?_
  refine op_v (v_loadA ty178 rfl rfl) rfl ?_
  refine op_v (v_len Try.underlying178 rfl) rfl ?_
  first | refine op_v (v_cmptA rfl rfl rfl) rfl ?_ | refine op_v (v_cmpfA rfl rfl rfl) rfl ?_ | refine op_v (v_cmp rfl rfl rfl) rfl ?_
  refine ops_nil ?_
  refine post_next ?_
  refine code_cond rfl (fun hc0 => ?_) (fun hc0 => ?_)
  · rcases List.eq_nil_or_concat st with rfl | ⟨st', ⟨d, u⟩, rfl⟩
    · simp at hc0
    rw [List.concat_eq_append] at *
    have hlen : (st' ++ [(d, u)]).length = st'.length + 1 := by simp
    rw [hlen]
    obtain ⟨⟨sa, sc⟩, hld, hru⟩ := hrow.last
    have hrow' := hrow.take
    dsimp only at hld hru
    rw [partsS_snoc, partsT_eq] at hall
    have hdu := partsT_deep 1 t (d, u) (by rw [← hall]; simp)
    have hsz := congrArg List.length hall
    have hps := partsS_len st'
    have hus := sizeL_len u.args
    simp only [List.length_append, List.length_cons, partsT_length, partsL_length] at hsz
    dsimp only at hdu
    refine code_skip ?_
    refine post_next ?_
    refine code_block ?_
    refine code_seq ?_
    refine code_region ?_
    refine OpsJ.rowSome (Has.there Has.here) (by omega) (fun hA hcr => ?_)
    refine op_v (v_loadA ty178 rfl rfl) rfl ?_
    refine op_v (v_loadA ty178 rfl rfl) rfl ?_
    refine op_v (v_len Try.underlying178 rfl) rfl ?_
    first | refine op_v (v_subb rfl rfl rfl (by omega)) rfl ?_ | refine op_v (v_sub rfl rfl) rfl ?_
    rw [show ((st'.length + 1 : Nat) : Int) - 1 = (st'.length : Nat) by omega]
    first | refine op_v (v_indexA Try.underlying178 sz177 rfl rfl) rfl ?_ | refine op_v (v_indexIA Try.underlying178 sz177 rfl rfl) rfl ?_
    refine op_v (v_loadRow ty177 rfl (Has.there Has.here) hA hld) rfl ?_
    refine o_alloc z177 rfl rfl (fun b4 => ?_)
    refine o_store ty177 rfl rfl rfl rfl rfl (by repeat (first | exact Swap.here | apply Swap.there)) rfl ?_
    refine ops_nil ?_
    refine post_next ?_
    refine code_seq ?_
    refine code_region ?_
    refine op_v (v_loadA ty178 rfl rfl) rfl ?_
    refine op_v (v_loadA ty178 rfl rfl) rfl ?_
    refine op_v (v_len Try.underlying178 rfl) rfl ?_
    first | refine op_v (v_subb rfl rfl rfl (by omega)) rfl ?_ | refine op_v (v_sub rfl rfl) rfl ?_
    rw [show ((st'.length + 1 : Nat) : Int) - 1 = (st'.length : Nat) by omega]
    refine op_v (v_sliceTo Try.underlying178 sz177 rfl rfl (by omega)) rfl ?_
    refine o_store ty178 rfl rfl rfl rfl rfl (by repeat (first | exact Swap.here | apply Swap.there)) rfl ?_
    refine ops_nil ?_
    refine post_next ?_
    refine code_seq ?_
    refine code_seq ?_
    refine code_region ?_
    refine OpsJ.view (View.short _ (Swap.there (Swap.there Swap.here)) (Nat.le_succ _)) ?_
    refine op_v (v_move rfl) rfl ?_
    first | refine op_v (v_fieldB 2 Try.underlying177 rfl rfl fz3 rfl) rfl ?_ | refine op_v (v_fieldI 2 Try.underlying177 rfl rfl fz3 rfl (by assumption)) rfl ?_ | refine op_v (v_field Try.underlying177 rfl fz3 rfl rfl) rfl ?_
    refine op_v (v_loadA ty3 rfl rfl) rfl ?_
    first | refine op_v (v_fieldB 0 Try.underlying177 rfl rfl fz47 rfl) rfl ?_ | refine op_v (v_fieldI 0 Try.underlying177 rfl rfl fz47 rfl (by assumption)) rfl ?_ | refine op_v (v_field Try.underlying177 rfl fz47 rfl rfl) rfl ?_
    refine op_v (v_loadA ty47 rfl rfl) rfl ?_
    refine op_fcall rfl rfl rfl ((hy pre (d, u) _ _ _ _ hall.symm hI0 hJ ⟨sa, sc, rfl, hru⟩)) (List.perm_append_comm (l₁ := _ :: _ :: _ :: _ :: MarkEnts ds0)) ?_
    rintro v29 I29 δ29 hI29 ⟨rfl, hJ29⟩
    refine OpsJ.view (View.perm (List.perm_append_comm (l₂ := _ :: _ :: _ :: _ :: MarkEnts ds0))) ?_
    refine op_v (v_not rfl) rfl ?_
    refine ops_nil ?_
    refine post_next ?_
    refine code_cond_f rfl ?_
    refine code_skip ?_
    refine post_next ?_
    refine code_seq ?_
    refine code_region ?_
    first | refine op_v (v_fieldB 0 Try.underlying177 rfl rfl fz47 rfl) rfl ?_ | refine op_v (v_fieldI 0 Try.underlying177 rfl rfl fz47 rfl (by assumption)) rfl ?_ | refine op_v (v_field Try.underlying177 rfl fz47 rfl rfl) rfl ?_
    first | refine op_v (v_fieldB 1 Try.underlying47 rfl rfl fz45 rfl) rfl ?_ | refine op_v (v_fieldI 1 Try.underlying47 rfl rfl fz45 rfl (by assumption)) rfl ?_ | refine op_v (v_field Try.underlying47 rfl fz45 rfl rfl) rfl ?_
    refine op_v (v_loadA ty45 rfl rfl) rfl ?_
    refine op_call pl161 rfl rfl ((Backward_does)) Parts.none ?_
    rintro v34 I34 _ hI34 ⟨b34, rfl, rfl⟩
    refine ops_nil ?_
    refine post_next ?_
    refine code_block ?_
    obtain ⟨_, _, hur, huc, hub, ss, hua, husub⟩ := (hru.mono (Imm.le_trans hI29 hI34)).open
    refine code_range (δb := [_, _, _]) (B := fun l I' δ' => ∃ (ar : Option Addr) (cr : Nat) (xs : List Value), δ' = [.box b4 177 [.int .i64 u.head, .slice sa u.args.length sc, .int .i64 d], .box b3 178 [.slice ar (st' ++ kids (d + 1) u.args l).length cr], .row (.slice ar (st' ++ kids (d + 1) u.args l).length cr) 177 3 (st' ++ kids (d + 1) u.args l).length xs] ∧ RowK I' xs (st' ++ kids (d + 1) u.args l)) rfl rfl pl177 rfl (back_iter hub hua) (List.Perm.refl _) ⟨ar, cr, _, by simp [kids]; rfl, by simpa [kids] using hrow'.mono (Imm.le_trans hI29 hI34)⟩ (by rintro _ _ _ ⟨_, rfl⟩; rfl) (by rintro l I1 I2 _ hle ⟨ar, cr, xs, rfl, hr⟩; exact ⟨ar, cr, xs, rfl, hr.mono hle⟩) ?_ ?_
    · rintro l r w1 pre2 j post2 I2 _ _ hrs hrp hx2 hI2 ⟨ar, cr, xs, rfl, hrow2⟩ ⟨hjl, rfl⟩
      have hpl := congrArg List.length hx2
      have hk2 : (st' ++ kids (d + 1) u.args pre2).length = st'.length + pre2.length := by simp [kids]
      have hk3 : st' ++ kids (d + 1) u.args (pre2 ++ [j]) = (st' ++ kids (d + 1) u.args pre2) ++ [(d + 1, u.args[j])] := by simp [kids, hjl]
      have hd1 : (d : Int) + 1 = ((d + 1 : Nat) : Int) := by omega
      simp only [List.length_reverse, List.length_range, List.length_append, List.length_cons] at hpl
      refine code_region ?_
      refine o_alloc z47 rfl rfl (fun b6 => ?_)
      refine o_store ty47 rfl rfl rfl rfl rfl (by repeat (first | exact Swap.here | apply Swap.there)) rfl ?_
      refine ops_nil ?_
      refine post_begin hrs (Swap.there Swap.here) ?_
      refine code_block ?_
      refine code_region ?_
      refine op_v (v_loadA ty178 rfl rfl) rfl ?_
      refine op_v (v_loadA ty47 rfl rfl) rfl ?_
      first | refine op_v (v_fieldB 2 Try.underlying177 rfl rfl fz3 rfl) rfl ?_ | refine op_v (v_fieldI 2 Try.underlying177 rfl rfl fz3 rfl (by assumption)) rfl ?_ | refine op_v (v_field Try.underlying177 rfl fz3 rfl rfl) rfl ?_
      refine op_v (v_loadA ty3 rfl rfl) rfl ?_
      first | refine op_v (v_addb rfl rfl rfl (by omega)) rfl ?_ | refine op_v (v_add rfl rfl) rfl ?_
      rw [hd1]
      refine op_v (v_build bl177 rfl rfl) rfl ?_
      refine o_buildSlice (xs := [(Go.Operand.tmp 42)]) Try.underlying178 bs177 rfl rfl rfl rfl rfl (fun b43 => ?_)
      refine o_append Try.underlying178 bs177 rfl rfl rfl (fun v' => by repeat (first | exact Swap.here | apply Swap.there)) (Src.ofRow (by repeat (first | exact Has.here | apply Has.there)) rfl) (by first | rfl | omega | simp) (by simp [cat, cellsL, Value.oneCell']) (by omega) (by omega) (fun a44 c44 => ?_)
      refine o_store ty178 rfl rfl rfl rfl rfl (by repeat (first | exact Swap.here | apply Swap.there)) rfl ?_
      refine ops_nil ?_
      refine post_out ?_
      refine PostJ.view ((View.drop Del.here).trans (View.drop Del.here)) ?_
      refine post_round Swap.here hrs hrp ⟨rfl, _, rfl, a44, c44, xs ++ [.int .i64 u.args[j].head, .slice (ss j).1 u.args[j].args.length (ss j).2, .int .i64 ((d + 1 : Nat) : Int)], ?_, ?_⟩
      · rw [hk3]; simp only [List.length_append, List.length_cons, List.length_nil]; rfl
      · rw [hk3]; exact hrow2.app (RowK.one ((husub j hjl).mono hI2))
    · rintro blk I3 _ hI3 ⟨ar, cr, xs, rfl, hrow3⟩
      refine post_out ?_
      refine post_out ?_
      refine PostJ.view ((View.drop (Del.there Del.here)).trans ((View.drop (Del.there Del.here)).trans (View.perm (List.perm_middle (l₁ := [_, _, _])).symm))) ?_
      refine post_againD (partsS (st' ++ kids (d + 1) u.args (List.range u.args.length).reverse)).length [(0, yv), (1, .pointer (some ⟨b, 0, none⟩)), (3, .pointer (some ⟨b3, 0, none⟩))] ?_ ⟨pre ++ [(d, u)], _, ar, cr, xs, δ29, rfl, rfl, Imm.le_trans hI0 (Imm.le_trans hI29 (Imm.le_trans hI34 hI3)), rfl, ?_, hrow3, ?_⟩ ⟨rfl, rfl, rfl, trivial⟩
      · rw [partsS_app, partsS_kids, partsS_snoc, partsT_eq]; simp
      · exact hmono _ _ _ _ (Imm.le_trans hI34 hI3) hJ29
      · rw [partsS_app, partsS_kids]; simpa using hall
  · have hst : st = [] := by simpa using hc0
    subst hst
    have hp : pre = partsT 1 t := by simpa [partsS] using hall
    subst hp
    refine code_exit ?_
    refine post_exit_then ?_
    refine post_exit_then ?_
    refine post_exit ?_
    refine post_end (rs := []) rfl (List.perm_append_comm_assoc [_, _, _] _ _) .nil (List.Sublist.cons _ (List.Sublist.cons _ (List.Sublist.refl _))) ⟨δJ, hJ, rfl⟩
end Go.Proofs.Ytdbadicpbmndbaa
/- Walks: size, depth, variables and rightness of a term, by the program. -/
set_option linter.unusedVariables false
set_option linter.unusedSimpArgs false
/- short -/
namespace Go.Proofs.Ytdbadicpbmndbaa
open Go Lg

/-! ### models -/
mutual
def depT : T → Nat
  | .mk _ ts => 1 + depL ts
def depL : List T → Nat
  | [] => 0
  | t :: r => max (depT t) (depL r)
end
def deepP (l : List (Nat × T)) : Nat := l.foldl (fun m x => max m x.1) 0
theorem deepP_snoc (l : List (Nat × T)) (x : Nat × T) : deepP (l ++ [x]) = max (deepP l) x.1 := by simp [deepP]
theorem foldl_max (l : List (Nat × T)) (m : Nat) : l.foldl (fun m x => max m x.1) m = max m (deepP l) := by
  induction l generalizing m with
  | nil => simp [deepP]
  | cons x r ih => rw [deepP, List.foldl_cons, List.foldl_cons, ih, ih]; omega
theorem deepP_app (l r : List (Nat × T)) : deepP (l ++ r) = max (deepP l) (deepP r) := by rw [deepP, List.foldl_append, foldl_max]; rfl
theorem deepP_cons (x : Nat × T) (r : List (Nat × T)) : deepP (x :: r) = max x.1 (deepP r) := by rw [deepP, List.foldl_cons, foldl_max]; omega
mutual
theorem deepP_T : ∀ (d : Nat) (t : T), deepP (partsT d t) + 1 = d + depT t
  | d, .mk h ts => by
    rw [partsT, deepP_cons]
    have := deepP_L (d + 1) ts
    simp only [depT]
    rcases this with ⟨rfl, h1⟩ | h1
    · simp [partsL, deepP, depL]
    · omega
theorem deepP_L : ∀ (d : Nat) (ts : List T), (ts = [] ∧ deepP (partsL d ts) = 0) ∨ deepP (partsL d ts) + 1 = d + depL ts
  | d, [] => .inl ⟨rfl, rfl⟩
  | d, t :: r => by
    right
    rw [partsL, deepP_app]
    have h1 := deepP_T d t
    have hd : 1 ≤ depT t := by cases t; simp [depT]
    simp only [depL]
    rcases deepP_L d r with ⟨hr, h2⟩ | h2
    · subst hr
      have h3 : depL ([] : List T) = 0 := by simp [depL]
      rw [h2, h3]; omega
    · omega
end
theorem dep_deep (t : T) : deepP (partsT 1 t) = depT t := by have := deepP_T 1 t; omega
mutual
theorem depT_size : ∀ t : T, depT t ≤ t.size
  | .mk h ts => by have := depL_size ts; simp [depT, T.size]; omega
theorem depL_size : ∀ ts : List T, depL ts ≤ sizeL ts
  | [] => by simp [depL, sizeL]
  | t :: r => by have := depT_size t; have := depL_size r; simp [depL, sizeL]; omega
end

end Go.Proofs.Ytdbadicpbmndbaa
/- Walks: a number among others; variables and rightness of a term; comparisons of numbers. -/
set_option linter.unusedVariables false
set_option linter.unusedSimpArgs false
/- short -/
namespace Go.Proofs.Ytdbadicpbmndbaa
open Go Lg

theorem ld_at {cs : List Value} {o : Nat} {x : Value} (h : cs[o]? = some x) : ld false 1 (cs.drop o) = some x := by
  obtain ⟨hl, rfl⟩ := List.getElem?_eq_some_iff.1 h
  rw [List.drop_eq_getElem_cons hl]; rfl
abbrev iRow (ar : Option Addr) (cr : Nat) (xs : List Int) : Ent := .row (.slice ar xs.length cr) 3 1 xs.length (xs.map (Value.int .i64))
theorem Index_does {I : Imm} {ar : Option Addr} {cr : Nat} {xs : List Int} {x : Int} (hb : xs.length ≤ 1000000000) :
    Does Try.prog 128 [.slice ar xs.length cr, .int .i64 x] I [iRow ar cr xs] (fun v I' δ' => (∃ n : Int, v = .int .i64 n ∧ (0 ≤ n ↔ x ∈ xs)) ∧ δ' = [iRow ar cr xs]) := by
  refine Does.intro Try.func128 rfl Try.ntmps128 rfl fun w0 => ?_
  refine code_seq ?_
  refine code_region ?_
  refine op_v (v_assign rfl) rfl ?_
  refine ops_nil ?_
  refine post_next ?_
  refine code_seq ?_
  refine code_seq ?_
  refine code_region ?_
  refine op_v (v_move rfl) rfl ?_
  refine op_v (v_len Try.underlying62 rfl) rfl ?_
  refine op_v (v_move rfl) rfl ?_
  refine ops_nil ?_
  refine post_next ?_
  refine code_block ?_
  refine code_loop (fun m σ' I' δ' => ∃ k : Nat, m = xs.length - k ∧ σ' = [(0, .slice ar xs.length cr), (1, .int .i64 x), (7, .int .i64 xs.length), (8, .int .i64 k)] ∧ I' = I ∧ δ' = [iRow ar cr xs] ∧ k ≤ xs.length ∧ x ∉ xs.take k) (xs.length - 0) [(0, .slice ar xs.length cr), (1, .int .i64 x), (7, .int .i64 xs.length), (8, .int .i64 (0 : Nat))] ⟨0, rfl, rfl, rfl, rfl, ⟨Nat.zero_le _, by simp⟩⟩ ⟨rfl, rfl, rfl, rfl, trivial⟩ ?_
  rintro m _ _ _ ⟨k, rfl, rfl, rfl, rfl, hp⟩
  obtain ⟨hk, hp⟩ := hp
  refine code_seq ?_
  refine code_region ?_
  first | refine op_v (v_cmptA rfl rfl rfl) rfl ?_ | refine op_v (v_cmpfA rfl rfl rfl) rfl ?_ | refine op_v (v_cmp rfl rfl rfl) rfl ?_
  refine ops_nil ?_
  refine post_next ?_
  refine code_seq ?_
  refine code_cond rfl (fun hc0 => ?_) (fun hc0 => ?_)
  · have hlt : k < xs.length := by simpa using hc0
    refine code_skip ?_
    refine post_next ?_
    refine code_seq ?_
    refine code_block ?_
    refine code_seq ?_
    refine code_region ?_
    refine op_v (v_move rfl) rfl ?_
    refine op_v (v_assign rfl) rfl ?_
    refine ops_nil ?_
    refine post_next ?_
    refine code_seq ?_
    refine code_region ?_
    refine OpsJ.rowSome Has.here (by omega) (fun hA hcr => ?_)
    refine op_v (v_move rfl) rfl ?_
    refine op_v (v_move rfl) rfl ?_
    refine op_v (v_move rfl) rfl ?_
    first | refine op_v (v_indexA Try.underlying62 sz3 rfl rfl) rfl ?_ | refine op_v (v_indexIA Try.underlying62 sz3 rfl rfl) rfl ?_
    refine op_v (v_loadRow ty3 rfl Has.here hA (ld_at (x := .int .i64 xs[k]) (by simp [hlt]))) rfl ?_
    first | refine op_v (v_cmptA rfl rfl rfl) rfl ?_ | refine op_v (v_cmpfA rfl rfl rfl) rfl ?_ | refine op_v (v_cmp rfl rfl rfl) rfl ?_
    refine ops_nil ?_
    refine post_next ?_
    refine code_cond rfl (fun hc1 => ?_) (fun hc1 => ?_)
    · have heq : x = xs[k] := by simpa using hc1
      refine code_seq ?_
      refine code_region ?_
      refine op_v (v_move rfl) rfl ?_
      refine op_v (v_assign rfl) rfl ?_
      refine ops_nil ?_
      refine post_next ?_
      refine code_ret ?_
      refine post_ret_block ?_
      refine post_ret_then ?_
      refine post_ret_then ?_
      refine post_ret_block ?_
      refine post_ret_then ?_
      refine post_ret (rs := [.tmp 4]) rfl (List.Perm.refl _) (.cons (.tmp rfl) .nil) (List.Sublist.refl _) ?_
      exact ⟨⟨k, rfl, by rw [heq]; simp⟩, rfl⟩
    · have hne : x ≠ xs[k] := by simpa using hc1
      refine code_skip ?_
      refine post_out ?_
      refine post_next ?_
      refine code_region ?_
      first | refine op_v (v_addb rfl rfl rfl (by omega)) rfl ?_ | refine op_v (v_add rfl rfl) rfl ?_
      refine op_v (v_move rfl) rfl ?_
      refine ops_nil ?_
      refine post_again (xs.length - (k + 1)) [(0, .slice ar xs.length cr), (1, .int .i64 x), (7, .int .i64 xs.length), (8, .int .i64 (k + 1 : Nat))] (by omega) ⟨k + 1, rfl, rfl, rfl, rfl, ⟨hlt, by rw [List.take_succ_eq_append_getElem hlt, List.mem_append, List.mem_singleton]; exact fun h => h.elim hp hne⟩⟩ ⟨rfl, rfl, rfl, rfl, trivial⟩
  · have hge : k = xs.length := by simp at hc0; omega
    subst hge
    rw [List.take_length] at hp
    refine code_exit ?_
    refine post_exit_then ?_
    refine post_exit_then ?_
    refine post_exit ?_
    refine post_next ?_
    refine code_seq ?_
    refine code_region ?_
    refine op_v (v_assign rfl) rfl ?_
    refine ops_nil ?_
    refine post_next ?_
    refine code_ret ?_
    refine post_ret (rs := [.tmp 4]) rfl (List.Perm.refl _) (.cons (.tmp rfl) .nil) (List.Sublist.refl _) ?_
    exact ⟨⟨-1, rfl, by simp [hp]⟩, rfl⟩
theorem Contains_does {I : Imm} {ar : Option Addr} {cr : Nat} {xs : List Int} {x : Int} (hb : xs.length ≤ 1000000000) :
    Does Try.prog 92 [.slice ar xs.length cr, .int .i64 x] I [iRow ar cr xs] (fun v I' δ' => v = .bool (decide (x ∈ xs)) ∧ δ' = [iRow ar cr xs]) := by
  refine Does.intro Try.func92 rfl Try.ntmps92 rfl fun w0 => ?_
  refine code_seq ?_
  refine code_region ?_
  refine op_v (v_assign rfl) rfl ?_
  refine ops_nil ?_
  refine post_next ?_
  refine code_seq ?_
  refine code_region ?_
  refine op_v (v_move rfl) rfl ?_
  refine op_v (v_move rfl) rfl ?_
  refine op_call pl128 rfl rfl ((Index_does hb)) Parts.all ?_
  rintro v7 I7 _ hI7 ⟨⟨n7, rfl, hn7⟩, rfl⟩
  first | refine op_v (v_cmptA rfl rfl rfl) rfl ?_ | refine op_v (v_cmpfA rfl rfl rfl) rfl ?_ | refine op_v (v_cmp rfl rfl rfl) rfl ?_
  refine op_v (v_assign rfl) rfl ?_
  refine ops_nil ?_
  refine post_next ?_
  refine code_ret ?_
  refine post_ret (rs := [.tmp 4]) rfl (List.Perm.refl _) (.cons (.tmp rfl) .nil) (List.Sublist.refl _) ?_
  exact ⟨bool_b (by simp [hn7]), rfl⟩

def orI : List Int → Int
  | [] => 0
  | x :: r => if x ≠ 0 then x else orI r
theorem In_does {I : Imm} {ar : Option Addr} {cr : Nat} {xs : List Int} {x : Int} (hb : xs.length ≤ 1000000000) :
    Does Try.prog 54 [.int .i64 x, .slice ar xs.length cr] I [iRow ar cr xs] (fun v I' δ' => v = .bool (decide (x ∈ xs)) ∧ δ' = [iRow ar cr xs]) := by
  refine Does.intro Try.func54 rfl Try.ntmps54 rfl fun w0 => ?_
  refine code_seq ?_
  refine code_region ?_
  refine op_v (v_assign rfl) rfl ?_
  refine ops_nil ?_
  refine post_next ?_
  refine code_seq ?_
  refine code_seq ?_
  refine code_region ?_
  refine op_v (v_assign rfl) rfl ?_
  refine ops_nil ?_
  refine post_next ?_
  refine code_block ?_
  refine code_loop (fun m σ' I' δ' => ∃ k : Nat, m = xs.length - k ∧ σ' = [(0, .int .i64 x), (1, .slice ar xs.length cr), (5, .int .i64 k)] ∧ I' = I ∧ δ' = [iRow ar cr xs] ∧ k ≤ xs.length ∧ x ∉ xs.take k) (xs.length - 0) [(0, .int .i64 x), (1, .slice ar xs.length cr), (5, .int .i64 (0 : Nat))] ⟨0, rfl, rfl, rfl, rfl, ⟨Nat.zero_le _, by simp⟩⟩ ⟨rfl, rfl, rfl, trivial⟩ ?_
  rintro m _ _ _ ⟨k, rfl, rfl, rfl, rfl, hp⟩
  obtain ⟨hk, hp⟩ := hp
  refine code_seq ?_
  refine code_seq ?_
  refine code_region ?_
  refine op_v (v_move rfl) rfl ?_
  refine op_v (v_move rfl) rfl ?_
  refine op_v (v_len Try.underlying62 rfl) rfl ?_
  first | refine op_v (v_cmptA rfl rfl rfl) rfl ?_ | refine op_v (v_cmpfA rfl rfl rfl) rfl ?_ | refine op_v (v_cmp rfl rfl rfl) rfl ?_
  refine ops_nil ?_
  refine post_next ?_
  refine code_cond rfl (fun hc0 => ?_) (fun hc0 => ?_)
  · have hlt : k < xs.length := by simpa using hc0
    refine code_skip ?_
    refine post_next ?_
    refine code_seq ?_
    refine code_block ?_
    refine code_seq ?_
    refine code_region ?_
    refine OpsJ.rowSome Has.here (by omega) (fun hA hcr => ?_)
    refine op_v (v_move rfl) rfl ?_
    refine op_v (v_move rfl) rfl ?_
    first | refine op_v (v_indexA Try.underlying62 sz3 rfl rfl) rfl ?_ | refine op_v (v_indexIA Try.underlying62 sz3 rfl rfl) rfl ?_
    refine op_v (v_loadRow ty3 rfl Has.here hA (ld_at (x := .int .i64 xs[k]) (by simp [hlt]))) rfl ?_
    refine op_v (v_move rfl) rfl ?_
    first | refine op_v (v_cmptA rfl rfl rfl) rfl ?_ | refine op_v (v_cmpfA rfl rfl rfl) rfl ?_ | refine op_v (v_cmp rfl rfl rfl) rfl ?_
    refine ops_nil ?_
    refine post_next ?_
    refine code_cond rfl (fun hc1 => ?_) (fun hc1 => ?_)
    · have heq : xs[k] = x := by simpa using hc1
      refine code_seq ?_
      refine code_region ?_
      refine op_v (v_assign rfl) rfl ?_
      refine ops_nil ?_
      refine post_next ?_
      refine code_ret ?_
      refine post_ret_block ?_
      refine post_ret_then ?_
      refine post_ret_then ?_
      refine post_ret_block ?_
      refine post_ret_then ?_
      refine post_ret (rs := [.tmp 4]) rfl (List.Perm.refl _) (.cons (.tmp rfl) .nil) (List.Sublist.refl _) ?_
      exact ⟨by rw [show decide (x ∈ xs) = true by simp [← heq]]; rfl, rfl⟩
    · have hne : x ≠ xs[k] := by have h := hc1; simp at h; exact fun e => h e.symm
      refine code_skip ?_
      refine post_out ?_
      refine post_next ?_
      refine code_region ?_
      refine op_v (v_move rfl) rfl ?_
      first | refine op_v (v_addb rfl rfl rfl (by omega)) rfl ?_ | refine op_v (v_add rfl rfl) rfl ?_
      refine op_v (v_assign rfl) rfl ?_
      refine ops_nil ?_
      refine post_again (xs.length - (k + 1)) [(0, .int .i64 x), (1, .slice ar xs.length cr), (5, .int .i64 (k + 1 : Nat))] (by omega) ⟨k + 1, rfl, rfl, rfl, rfl, ⟨hlt, by rw [List.take_succ_eq_append_getElem hlt, List.mem_append, List.mem_singleton]; exact fun h => h.elim hp hne⟩⟩ ⟨rfl, rfl, rfl, trivial⟩
  · have hge : k = xs.length := by simp at hc0; omega
    subst hge
    rw [List.take_length] at hp
    refine code_exit ?_
    refine post_exit_then ?_
    refine post_exit_then ?_
    refine post_exit ?_
    refine post_next ?_
    refine code_seq ?_
    refine code_region ?_
    refine op_v (v_assign rfl) rfl ?_
    refine ops_nil ?_
    refine post_next ?_
    refine code_ret ?_
    refine post_ret (rs := [.tmp 4]) rfl (List.Perm.refl _) (.cons (.tmp rfl) .nil) (List.Sublist.refl _) ?_
    exact ⟨by rw [show decide (x ∈ xs) = false by simp [hp]]; rfl, rfl⟩
end Go.Proofs.Ytdbadicpbmndbaa
/- Walks: sizes, comparison. -/
set_option linter.unusedVariables false
set_option linter.unusedSimpArgs false
/- short -/
namespace Go.Proofs.Ytdbadicpbmndbaa
open Go Lg

theorem order_does (I : Imm) (a b : Int) :
    Does Try.prog 153 [.int .i64 a, .int .i64 b] I [] (fun v I' δ' => v = .int .i64 (ordI a b) ∧ δ' = []) := by
  refine Does.intro Try.func153 rfl Try.ntmps153 rfl fun w0 => ?_
  refine code_seq ?_
  refine code_region ?_
  refine op_v (v_assign rfl) rfl ?_
  refine ops_nil ?_
  refine post_next ?_
  refine code_seq ?_
  refine code_seq ?_
  refine code_region ?_
  refine op_v (v_move rfl) rfl ?_
  refine op_v (v_move rfl) rfl ?_
  first | refine op_v (v_cmptA rfl rfl rfl) rfl ?_ | refine op_v (v_cmpfA rfl rfl rfl) rfl ?_ | refine op_v (v_cmp rfl rfl rfl) rfl ?_
  refine ops_nil ?_
  refine post_next ?_
  refine code_cond rfl (fun hc0 => ?_) (fun hc0 => ?_)
  · have h1 : a < b := by simpa using hc0
    refine code_seq ?_
    refine code_region ?_
    refine op_v (v_assign rfl) rfl ?_
    refine ops_nil ?_
    refine post_next ?_
    refine code_ret ?_
    refine post_ret_then ?_
    refine post_ret (rs := [.tmp 4]) rfl (List.Perm.refl _) (.cons (.tmp rfl) .nil) (List.nil_sublist _) ?_
    exact ⟨by simp [outV, ordI, h1], rfl⟩
  · have h1 : ¬ a < b := by simpa using hc0
    refine code_skip ?_
    refine post_next ?_
    refine code_seq ?_
    refine code_seq ?_
    refine code_region ?_
    refine op_v (v_move rfl) rfl ?_
    refine op_v (v_move rfl) rfl ?_
    first | refine op_v (v_cmptA rfl rfl rfl) rfl ?_ | refine op_v (v_cmpfA rfl rfl rfl) rfl ?_ | refine op_v (v_cmp rfl rfl rfl) rfl ?_
    refine ops_nil ?_
    refine post_next ?_
    refine code_cond rfl (fun hc1 => ?_) (fun hc1 => ?_)
    · have h2 : b < a := by simpa using hc1
      refine code_seq ?_
      refine code_region ?_
      refine op_v (v_assign rfl) rfl ?_
      refine ops_nil ?_
      refine post_next ?_
      refine code_ret ?_
      refine post_ret_then ?_
      refine post_ret (rs := [.tmp 4]) rfl (List.Perm.refl _) (.cons (.tmp rfl) .nil) (List.nil_sublist _) ?_
      exact ⟨by simp [outV, ordI, h1, h2], rfl⟩
    · have h2 : ¬ b < a := by simpa using hc1
      refine code_skip ?_
      refine post_next ?_
      refine code_seq ?_
      refine code_region ?_
      refine op_v (v_assign rfl) rfl ?_
      refine ops_nil ?_
      refine post_next ?_
      refine code_ret ?_
      refine post_ret (rs := [.tmp 4]) rfl (List.Perm.refl _) (.cons (.tmp rfl) .nil) (List.nil_sublist _) ?_
      exact ⟨by simp [outV, ordI, h1, h2], rfl⟩

theorem Size_does : ∀ (n : Nat) (t : T), t.size ≤ n → t.size ≤ 1000000000 → ∀ (I : Imm) (v : Value), RepT I v t →
    Does Try.prog 152 [v] I [] (fun v I' δ' => v = .int .i64 t.size ∧ δ' = []) := by
  intro n
  induction n with
  | zero => intro t ht; have := t.size_pos; omega
  | succ n ih =>
    intro t ht hbig I v hv
    obtain ⟨h, ts⟩ := t
    obtain ⟨ad, c, ss, rfl, hr, hc, hb, hat, hsub⟩ := hv.elim
    have hsz : (T.mk h ts).size = 1 + sizeL ts := by simp [T.size]
    refine Does.intro Try.func152 rfl Try.ntmps152 rfl fun w0 => ?_
    refine code_seq ?_
    refine code_region ?_
    refine o_box rfl rfl rfl (fun b1 => ?_)
    refine op_v (v_assign rfl) rfl ?_
    refine ops_nil ?_
    refine post_next ?_
    refine code_seq ?_
    refine code_region ?_
    refine op_v (v_assign rfl) rfl ?_
    refine ops_nil ?_
    refine post_next ?_
    refine code_seq ?_
    refine code_seq ?_
    refine code_region ?_
    refine op_v (v_assign rfl) rfl ?_
    refine ops_nil ?_
    refine post_next ?_
    refine code_block ?_
    refine code_loop (fun m σ' I' δ' => ∃ k a : Nat, m = ts.length - k ∧ k ≤ ts.length ∧ σ' = [(1, .pointer (some ⟨b1, 0, none⟩)), (3, .int .i64 a), (4, .int .i64 k)] ∧ I.le I' ∧ δ' = [.box b1 47 [.int .i64 h, .slice ad ts.length c]] ∧ a + sizeL (ts.drop k) = 1 + sizeL ts) ts.length [(1, .pointer (some ⟨b1, 0, none⟩)), (3, .int .i64 (1 : Nat)), (4, .int .i64 (0 : Nat))] ⟨0, 1, rfl, Nat.zero_le _, rfl, Imm.le_refl _, rfl, rfl⟩ ⟨rfl, rfl, rfl, trivial⟩ ?_
    rintro m _ I0 _ ⟨k, a, rfl, hk, rfl, hI0, rfl, hp⟩
    refine code_seq ?_
    refine code_seq ?_
    refine code_region ?_
    refine op_v (v_move rfl) rfl ?_
    first | refine op_v (v_fieldB 1 Try.underlying47 rfl rfl fz45 rfl) rfl ?_ | refine op_v (v_fieldI 1 Try.underlying47 rfl rfl fz45 rfl (by assumption)) rfl ?_ | refine op_v (v_field Try.underlying47 rfl fz45 rfl rfl) rfl ?_
    refine op_v (v_loadA ty45 rfl rfl) rfl ?_
    refine op_v (v_len Try.underlying45 rfl) rfl ?_
    first | refine op_v (v_cmptA rfl rfl rfl) rfl ?_ | refine op_v (v_cmpfA rfl rfl rfl) rfl ?_ | refine op_v (v_cmp rfl rfl rfl) rfl ?_
    refine ops_nil ?_
    refine post_next ?_
    refine code_cond rfl (fun hc0 => ?_) (fun hc0 => ?_)
    · have hlt : k < ts.length := by simpa using hc0
      have hs1 := (hat k hlt).isSome
      have hd := sizeL_drop ts k hlt
      have hm := sizeL_mem ts k hlt
      refine code_skip ?_
      refine post_next ?_
      refine code_seq ?_
      refine code_block ?_
      refine code_region ?_
      refine op_v (v_move rfl) rfl ?_
      first | refine op_v (v_fieldB 1 Try.underlying47 rfl rfl fz45 rfl) rfl ?_ | refine op_v (v_fieldI 1 Try.underlying47 rfl rfl fz45 rfl (by assumption)) rfl ?_ | refine op_v (v_field Try.underlying47 rfl fz45 rfl rfl) rfl ?_
      refine op_v (v_loadA ty45 rfl rfl) rfl ?_
      refine op_v (v_move rfl) rfl ?_
      first | refine op_v (v_indexA Try.underlying45 sz47 rfl rfl) rfl ?_ | refine op_v (v_indexIA Try.underlying45 sz47 rfl rfl) rfl ?_
      first | refine op_v (v_loadI0 ty47 ((hat k hlt).mono hI0) rfl rfl rfl) rfl ?_ | refine op_v (v_loadI ty47 ((hat k hlt).mono hI0) rfl rfl rfl) rfl ?_
      refine op_call pl152 rfl rfl ((ih ts[k] (by omega) (by omega) _ _ ((hsub k hlt).mono hI0))) Parts.none ?_
      rintro _ I18 _ hI18 ⟨rfl, rfl⟩
      first | refine op_v (v_addb rfl rfl rfl (by omega)) rfl ?_ | refine op_v (v_add rfl rfl) rfl ?_
      refine op_v (v_assign rfl) rfl ?_
      refine ops_nil ?_
      refine post_out ?_
      refine post_next ?_
      refine code_region ?_
      refine op_v (v_move rfl) rfl ?_
      first | refine op_v (v_addb rfl rfl rfl (by omega)) rfl ?_ | refine op_v (v_add rfl rfl) rfl ?_
      refine op_v (v_assign rfl) rfl ?_
      refine ops_nil ?_
      refine post_again (ts.length - (k + 1)) [(1, .pointer (some ⟨b1, 0, none⟩)), (3, .int .i64 ((a + ts[k].size : Nat) : Int)), (4, .int .i64 ((k + 1 : Nat) : Int))] (by omega) ⟨k + 1, a + ts[k].size, rfl, hlt, rfl, Imm.le_trans hI0 hI18, rfl, by omega⟩ ⟨rfl, rfl, rfl, trivial⟩
    · have hge : ¬ k < ts.length := by simpa using hc0
      rw [List.drop_eq_nil_of_le (by omega)] at hp
      simp only [sizeL] at hp
      refine code_exit ?_
      refine post_exit_then ?_
      refine post_exit_then ?_
      refine post_exit ?_
      refine post_next ?_
      refine code_seq ?_
      refine code_region ?_
      refine op_v (v_move rfl) rfl ?_
      refine op_v (v_assign rfl) rfl ?_
      refine ops_nil ?_
      refine post_next ?_
      refine code_ret ?_
      refine post_ret (rs := [.tmp 2]) rfl (List.Perm.refl _) (.cons (.tmp rfl) .nil) (List.nil_sublist _) ?_
      exact ⟨by simp only [outV, hsz]; congr 2, rfl⟩

theorem Count_does : ∀ (n : Nat) (t : T), t.size ≤ n → ∀ (q : Nat), q ≤ 1000000000 → ∀ (I : Imm) (v : Value), RepT I v t →
    Does Try.prog 82 [v, .int .i64 q] I [] (fun v I' δ' => v = .int .i64 ((min t.size (q + 1) : Nat) : Int) ∧ δ' = []) := by
  intro n
  induction n with
  | zero => intro t ht; have := t.size_pos; omega
  | succ n ih =>
    intro t ht q hq I v hv
    obtain ⟨h, ts⟩ := t
    obtain ⟨ad, c, ss, rfl, hr, hc, hb, hat, hsub⟩ := hv.elim
    have hsz : (T.mk h ts).size = 1 + sizeL ts := by simp [T.size]
    refine Does.intro Try.func82 rfl Try.ntmps82 rfl fun w0 => ?_
    refine code_seq ?_
    refine code_region ?_
    refine o_box rfl rfl rfl (fun b2 => ?_)
    refine op_v (v_assign rfl) rfl ?_
    refine ops_nil ?_
    refine post_next ?_
    refine code_seq ?_
    refine code_region ?_
    refine op_v (v_assign rfl) rfl ?_
    refine ops_nil ?_
    refine post_next ?_
    refine code_seq ?_
    refine code_seq ?_
    refine code_region ?_
    refine op_v (v_assign rfl) rfl ?_
    refine ops_nil ?_
    refine post_next ?_
    refine code_block ?_
    refine code_loop (fun m σ' I' δ' => ∃ k a : Nat, m = ts.length - k ∧ k ≤ ts.length ∧ σ' = [(1, .int .i64 q), (2, .pointer (some ⟨b2, 0, none⟩)), (5, .int .i64 a), (6, .int .i64 k)] ∧ I.le I' ∧ δ' = [.box b2 47 [.int .i64 h, .slice ad ts.length c]] ∧ a ≤ q + 1 ∧ min (a + sizeL (ts.drop k)) (q + 1) = min (1 + sizeL ts) (q + 1)) ts.length [(1, .int .i64 q), (2, .pointer (some ⟨b2, 0, none⟩)), (5, .int .i64 (1 : Nat)), (6, .int .i64 (0 : Nat))] ⟨0, 1, rfl, Nat.zero_le _, rfl, Imm.le_refl _, rfl, by omega, rfl⟩ ⟨rfl, rfl, rfl, rfl, trivial⟩ ?_
    rintro m _ I0 _ ⟨k, a, rfl, hk, rfl, hI0, rfl, ha, hp⟩
    refine code_seq ?_
    refine code_seq ?_
    refine code_region ?_
    refine op_v (v_move rfl) rfl ?_
    first | refine op_v (v_fieldB 1 Try.underlying47 rfl rfl fz45 rfl) rfl ?_ | refine op_v (v_fieldI 1 Try.underlying47 rfl rfl fz45 rfl (by assumption)) rfl ?_ | refine op_v (v_field Try.underlying47 rfl fz45 rfl rfl) rfl ?_
    refine op_v (v_loadA ty45 rfl rfl) rfl ?_
    refine op_v (v_len Try.underlying45 rfl) rfl ?_
    by_cases hlt : k < ts.length
    · first | refine op_v (v_cmptA rfl rfl rfl) rfl ?_ | refine op_v (v_cmpfA rfl rfl rfl) rfl ?_ | refine op_v (v_cmp rfl rfl rfl) rfl ?_
      refine op_v (v_move rfl) rfl ?_
      first
        | (refine op_want rfl rfl ?_
           refine op_v (v_move rfl) rfl ?_)
        | (refine op_skip rfl rfl (by simp [undef]) rfl ?_)
      first
        | (refine op_want rfl rfl ?_
           refine op_v (v_move rfl) rfl ?_)
        | (refine op_skip rfl rfl (by simp [undef]) rfl ?_)
      by_cases hle : a ≤ q
      · first
          | (refine op_want rfl rfl ?_
             first | refine op_v (v_cmptA rfl rfl rfl) rfl ?_ | refine op_v (v_cmpfA rfl rfl rfl) rfl ?_ | refine op_v (v_cmp rfl rfl rfl) rfl ?_)
          | (refine op_skip rfl rfl (by simp [undef]) rfl ?_)
        first | refine op_v (v_pickt rfl rfl) rfl ?_ | refine op_v (v_pickf rfl rfl) rfl ?_ | refine op_v (v_pickb rfl rfl rfl) rfl ?_
        refine ops_nil ?_
        refine post_next ?_
        refine code_cond_t rfl ?_
        refine code_skip ?_
        refine post_next ?_
        refine code_seq ?_
        refine code_block ?_
        refine code_region ?_
        have hs1 := (hat k hlt).isSome
        have hd := sizeL_drop ts k hlt
        have hm := sizeL_mem ts k hlt
        refine op_v (v_move rfl) rfl ?_
        first | refine op_v (v_fieldB 1 Try.underlying47 rfl rfl fz45 rfl) rfl ?_ | refine op_v (v_fieldI 1 Try.underlying47 rfl rfl fz45 rfl (by assumption)) rfl ?_ | refine op_v (v_field Try.underlying47 rfl fz45 rfl rfl) rfl ?_
        refine op_v (v_loadA ty45 rfl rfl) rfl ?_
        refine op_v (v_move rfl) rfl ?_
        first | refine op_v (v_indexA Try.underlying45 sz47 rfl rfl) rfl ?_ | refine op_v (v_indexIA Try.underlying45 sz47 rfl rfl) rfl ?_
        first | refine op_v (v_loadI0 ty47 ((hat k hlt).mono hI0) rfl rfl rfl) rfl ?_ | refine op_v (v_loadI ty47 ((hat k hlt).mono hI0) rfl rfl rfl) rfl ?_
        refine op_v (v_move rfl) rfl ?_
        refine op_v (v_move rfl) rfl ?_
        refine op_v (v_subb (c := ((q - a : Nat) : Int)) rfl rfl (by omega) (by omega)) rfl ?_
        refine op_call pl82 rfl rfl ((ih ts[k] (by omega) (q - a) (by omega) _ _ ((hsub k hlt).mono hI0))) Parts.none ?_
        rintro _ I18 _ hI18 ⟨rfl, rfl⟩
        first | refine op_v (v_addb rfl rfl rfl (by omega)) rfl ?_ | refine op_v (v_add rfl rfl) rfl ?_
        refine op_v (v_assign rfl) rfl ?_
        refine ops_nil ?_
        refine post_out ?_
        refine post_next ?_
        refine code_region ?_
        refine op_v (v_move rfl) rfl ?_
        first | refine op_v (v_addb rfl rfl rfl (by omega)) rfl ?_ | refine op_v (v_add rfl rfl) rfl ?_
        refine op_v (v_assign rfl) rfl ?_
        refine ops_nil ?_
        refine post_again (ts.length - (k + 1)) [(1, .int .i64 q), (2, .pointer (some ⟨b2, 0, none⟩)), (5, .int .i64 ((a + min ts[k].size (q - a + 1) : Nat) : Int)), (6, .int .i64 ((k + 1 : Nat) : Int))] (by omega) ⟨k + 1, a + min ts[k].size (q - a + 1), rfl, hlt, rfl, Imm.le_trans hI0 hI18, rfl, by omega, by omega⟩ ⟨rfl, rfl, rfl, rfl, trivial⟩
      · first
          | (refine op_want rfl rfl ?_
             first | refine op_v (v_cmptA rfl rfl rfl) rfl ?_ | refine op_v (v_cmpfA rfl rfl rfl) rfl ?_ | refine op_v (v_cmp rfl rfl rfl) rfl ?_)
          | (refine op_skip rfl rfl (by simp [undef]) rfl ?_)
        first | refine op_v (v_pickt rfl rfl) rfl ?_ | refine op_v (v_pickf rfl rfl) rfl ?_ | refine op_v (v_pickb rfl rfl rfl) rfl ?_
        refine ops_nil ?_
        refine post_next ?_
        refine code_cond_f rfl ?_
        refine code_exit ?_
        refine post_exit_then ?_
        refine post_exit_then ?_
        refine post_exit ?_
        refine post_next ?_
        refine code_seq ?_
        refine code_region ?_
        refine op_v (v_move rfl) rfl ?_
        refine op_v (v_assign rfl) rfl ?_
        refine ops_nil ?_
        refine post_next ?_
        refine code_ret ?_
        refine post_ret (rs := [.tmp 4]) rfl (List.Perm.refl _) (.cons (.tmp rfl) .nil) (List.nil_sublist _) ?_
        exact ⟨by simp only [outV, hsz, ← hp]; congr 2; omega, rfl⟩
    · first | refine op_v (v_cmptA rfl rfl rfl) rfl ?_ | refine op_v (v_cmpfA rfl rfl rfl) rfl ?_ | refine op_v (v_cmp rfl rfl rfl) rfl ?_
      refine op_v (v_move rfl) rfl ?_
      first
        | (refine op_want rfl rfl ?_
           refine op_v (v_move rfl) rfl ?_)
        | (refine op_skip rfl rfl (by simp [undef]) rfl ?_)
      first
        | (refine op_want rfl rfl ?_
           refine op_v (v_move rfl) rfl ?_)
        | (refine op_skip rfl rfl (by simp [undef]) rfl ?_)
      first
        | (refine op_want rfl rfl ?_
           first | refine op_v (v_cmptA rfl rfl rfl) rfl ?_ | refine op_v (v_cmpfA rfl rfl rfl) rfl ?_ | refine op_v (v_cmp rfl rfl rfl) rfl ?_)
        | (refine op_skip rfl rfl (by simp [undef]) rfl ?_)
      first | refine op_v (v_pickt rfl rfl) rfl ?_ | refine op_v (v_pickf rfl rfl) rfl ?_ | refine op_v (v_pickb rfl rfl rfl) rfl ?_
      refine ops_nil ?_
      refine post_next ?_
      refine code_cond_f rfl ?_
      refine code_exit ?_
      refine post_exit_then ?_
      refine post_exit_then ?_
      refine post_exit ?_
      refine post_next ?_
      refine code_seq ?_
      refine code_region ?_
      refine op_v (v_move rfl) rfl ?_
      refine op_v (v_assign rfl) rfl ?_
      refine ops_nil ?_
      refine post_next ?_
      refine code_ret ?_
      refine post_ret (rs := [.tmp 4]) rfl (List.Perm.refl _) (.cons (.tmp rfl) .nil) (List.nil_sublist _) ?_
      rw [List.drop_eq_nil_of_le (by omega)] at hp
      simp only [sizeL] at hp
      exact ⟨by simp only [outV, hsz, ← hp]; congr 2; omega, rfl⟩

theorem Few_does (I : Imm) (v : Value) (t : T) (hv : RepT I v t) :
    Does Try.prog 102 [v] I [] (fun v I' δ' => v = .bool (decide (t.size ≤ 500)) ∧ δ' = []) := by
  have hv' := hv
  obtain ⟨h, ts⟩ := t
  obtain ⟨ad, c, ss, rfl, hr, hc, hb, hat, hsub⟩ := hv.elim
  refine Does.intro Try.func102 rfl Try.ntmps102 rfl fun w0 => ?_
  refine code_seq ?_
  refine code_region ?_
  refine o_box rfl rfl rfl (fun b1 => ?_)
  refine op_v (v_assign rfl) rfl ?_
  refine ops_nil ?_
  refine post_next ?_
  refine code_seq ?_
  refine code_region ?_
  refine op_v (v_loadA ty47 rfl rfl) rfl ?_
  refine op_call pl82 rfl rfl ((Count_does _ _ (Nat.le_refl _) 500 (by omega) _ _ hv')) Parts.none ?_
  rintro _ I4 _ hI4 ⟨rfl, rfl⟩
  first | refine op_v (v_cmptA rfl rfl rfl) rfl ?_ | refine op_v (v_cmpfA rfl rfl rfl) rfl ?_ | refine op_v (v_cmp rfl rfl rfl) rfl ?_
  refine op_v (v_assign rfl) rfl ?_
  refine ops_nil ?_
  refine post_next ?_
  refine code_ret ?_
  refine post_ret (rs := [.tmp 2]) rfl (List.Perm.refl _) (.cons (.tmp rfl) .nil) (List.nil_sublist _) ?_
  exact ⟨bool_b (by simp; omega), rfl⟩

theorem Compare_does : ∀ (n : Nat) (t u : T), t.size ≤ n → t.size ≤ 1000000000 → u.size ≤ 1000000000 → ∀ (I : Imm) (v w : Value), RepT I v t → RepT I w u →
    Does Try.prog 117 [v, w] I [] (fun v I' δ' => v = .int .i64 (cmpT t u) ∧ δ' = []) := by
  intro n
  induction n with
  | zero => intro t _ ht; have := t.size_pos; omega
  | succ n ih =>
    intro t u ht hbt hbu I v w hv hw
    have hv' := hv
    have hw' := hw
    obtain ⟨h, ts⟩ := t
    obtain ⟨g, us⟩ := u
    obtain ⟨ad, c, ss, rfl, hr, hc, hb, hat, hsub⟩ := hv.elim
    obtain ⟨bd, e, rr, rfl, hr2, hc2, hb2, hat2, hsub2⟩ := hw.elim
    have hsz : (T.mk h ts).size = 1 + sizeL ts := by simp [T.size]
    have hsz2 : (T.mk g us).size = 1 + sizeL us := by simp [T.size]
    refine Does.intro Try.func117 rfl Try.ntmps117 rfl fun w0 => ?_
    refine code_seq ?_
    refine code_region ?_
    refine o_box rfl rfl rfl (fun b2 => ?_)
    refine o_box rfl rfl rfl (fun b3 => ?_)
    refine op_v (v_assign rfl) rfl ?_
    refine ops_nil ?_
    refine post_next ?_
    refine code_seq ?_
    refine code_seq ?_
    refine code_draw (.fl 0 (.fl 2 (.ef 1 (.ef 3 (.fl 4 .done))))) (fun _ => _) mixed (by kernel_rfl) (by kernel_rfl) (fun _ => (List.Sublist.refl _)) ?_
    refine e_float rfl rfl (fun hs_ => PF.mk rfl (v_loadA ty47 rfl rfl) hs_) (by first | exact Imm.le_refl _ | exact hI8 | exact Imm.le_trans hI8 hI10) (by intro x hx; first | exact hx | exact List.mem_cons_of_mem _ hx | exact List.mem_append_right _ hx | (simp only [List.mem_cons, List.not_mem_nil, or_false] at hx; repeat' (first | (subst hx; simp [cellsL]; done) | rcases hx with hx | hx)) | simp_all) ?_
    refine e_float rfl rfl (fun hs_ => PF.mk rfl (v_loadA ty47 rfl rfl) hs_) (by first | exact Imm.le_refl _ | exact hI8 | exact Imm.le_trans hI8 hI10) (by intro x hx; first | exact hx | exact List.mem_cons_of_mem _ hx | exact List.mem_append_right _ hx | (simp only [List.mem_cons, List.not_mem_nil, or_false] at hx; repeat' (first | (subst hx; simp [cellsL]; done) | rcases hx with hx | hx)) | simp_all) ?_
    refine e_eff rfl (by intro cs b hc; cases hc) (by intro c hc; cases hc) ?_
    refine op_call pl152 rfl rfl ((Size_does _ _ (Nat.le_refl _) hbt _ _ hv')) Parts.none ?_
    rintro _ I8 _ hI8 ⟨rfl, rfl⟩
    refine ops_nil ?_
    refine e_next rfl (side_all (by first | exact Imm.le_refl _ | exact hI8 | exact Imm.le_trans hI8 hI10) (fun _ => (by intro x hx; first | exact hx | exact List.mem_cons_of_mem _ hx | exact List.mem_append_right _ hx | (simp only [List.mem_cons, List.not_mem_nil, or_false] at hx; repeat' (first | (subst hx; simp [cellsL]; done) | rcases hx with hx | hx)) | simp_all))) ?_
    refine e_eff rfl (by intro cs b hc; cases hc) (by intro c hc; cases hc) ?_
    refine op_call pl152 rfl rfl ((Size_does _ _ (Nat.le_refl _) hbu _ _ (hw'.mono hI8))) Parts.none ?_
    rintro _ I10 _ hI10 ⟨rfl, rfl⟩
    refine ops_nil ?_
    refine e_next rfl (side_nil (by kernel_rfl)) ?_
    first | refine e_float rfl rfl (fun hs_ => PF.mk rfl (v_cmptA rfl rfl rfl) hs_) (by first | exact Imm.le_refl _ | exact hI8 | exact Imm.le_trans hI8 hI10) (by intro x hx; first | exact hx | exact List.mem_cons_of_mem _ hx | exact List.mem_append_right _ hx | (simp only [List.mem_cons, List.not_mem_nil, or_false] at hx; repeat' (first | (subst hx; simp [cellsL]; done) | rcases hx with hx | hx)) | simp_all) ?_ | refine e_float rfl rfl (fun hs_ => PF.mk rfl (v_cmpfA rfl rfl rfl) hs_) (by first | exact Imm.le_refl _ | exact hI8 | exact Imm.le_trans hI8 hI10) (by intro x hx; first | exact hx | exact List.mem_cons_of_mem _ hx | exact List.mem_append_right _ hx | (simp only [List.mem_cons, List.not_mem_nil, or_false] at hx; repeat' (first | (subst hx; simp [cellsL]; done) | rcases hx with hx | hx)) | simp_all) ?_ | refine e_float rfl rfl (fun hs_ => PF.mk rfl (v_cmp rfl rfl rfl) hs_) (by first | exact Imm.le_refl _ | exact hI8 | exact Imm.le_trans hI8 hI10) (by intro x hx; first | exact hx | exact List.mem_cons_of_mem _ hx | exact List.mem_append_right _ hx | (simp only [List.mem_cons, List.not_mem_nil, or_false] at hx; repeat' (first | (subst hx; simp [cellsL]; done) | rcases hx with hx | hx)) | simp_all) ?_
    refine e_done ?_
    refine post_next ?_
    refine code_cond rfl (fun hc0 => ?_) (fun hc0 => ?_)
    · have he : sizeL ts ≠ sizeL us := by simp [T.size] at hc0; omega
      refine code_seq ?_
      refine code_draw (.fl 0 (.fl 2 (.ef 1 (.ef 3 (.ef 4 (.ef 5 .done)))))) (fun _ => _) mixed (by kernel_rfl) (by kernel_rfl) (fun _ => (List.Sublist.refl _)) ?_
      refine e_float rfl rfl (fun hs_ => PF.mk rfl (v_loadA ty47 rfl rfl) hs_) (by first | exact Imm.le_refl _ | exact hI13 | exact Imm.le_trans hI13 hI15) (by intro x hx; first | exact hx | exact List.mem_cons_of_mem _ hx | exact List.mem_append_right _ hx | (simp only [List.mem_cons, List.not_mem_nil, or_false] at hx; repeat' (first | (subst hx; simp [cellsL]; done) | rcases hx with hx | hx)) | simp_all) ?_
      refine e_float rfl rfl (fun hs_ => PF.mk rfl (v_loadA ty47 rfl rfl) hs_) (by first | exact Imm.le_refl _ | exact hI13 | exact Imm.le_trans hI13 hI15) (by intro x hx; first | exact hx | exact List.mem_cons_of_mem _ hx | exact List.mem_append_right _ hx | (simp only [List.mem_cons, List.not_mem_nil, or_false] at hx; repeat' (first | (subst hx; simp [cellsL]; done) | rcases hx with hx | hx)) | simp_all) ?_
      refine e_eff rfl (by intro cs b hc; cases hc) (by intro c hc; cases hc) ?_
      refine op_call pl152 rfl rfl ((Size_does _ _ (Nat.le_refl _) hbt _ _ ((hv'.mono hI8).mono hI10))) Parts.none ?_
      rintro _ I13 _ hI13 ⟨rfl, rfl⟩
      refine ops_nil ?_
      refine e_next rfl (side_all (by first | exact Imm.le_refl _ | exact hI13 | exact Imm.le_trans hI13 hI15) (fun _ => (by intro x hx; first | exact hx | exact List.mem_cons_of_mem _ hx | exact List.mem_append_right _ hx | (simp only [List.mem_cons, List.not_mem_nil, or_false] at hx; repeat' (first | (subst hx; simp [cellsL]; done) | rcases hx with hx | hx)) | simp_all))) ?_
      refine e_eff rfl (by intro cs b hc; cases hc) (by intro c hc; cases hc) ?_
      refine op_call pl152 rfl rfl ((Size_does _ _ (Nat.le_refl _) hbu _ _ (((hw'.mono hI8).mono hI10).mono hI13))) Parts.none ?_
      rintro _ I15 _ hI15 ⟨rfl, rfl⟩
      refine ops_nil ?_
      refine e_next rfl (side_nil (by kernel_rfl)) ?_
      refine e_eff rfl (by intro cs b hc; cases hc) (by intro c hc; cases hc) ?_
      refine op_call pl153 rfl rfl ((order_does _ _ _)) Parts.none ?_
      rintro _ J _ hJ ⟨rfl, rfl⟩
      refine ops_nil ?_
      refine e_next rfl (side_nil (by kernel_rfl)) ?_
      refine e_eff rfl (by intro cs b hc; cases hc) (by intro c hc; cases hc) ?_
      refine op_v (v_assign rfl) rfl ?_
      refine ops_nil ?_
      refine e_next rfl (side_nil (by kernel_rfl)) ?_
      refine e_done ?_
      refine post_next ?_
      refine code_ret ?_
      refine post_ret_then ?_
      refine post_ret (rs := [.tmp 4]) rfl (List.Perm.refl _) (.cons (.tmp rfl) .nil) (List.nil_sublist _) ?_
      exact ⟨by simp [outV, cmpT, T.size, he], rfl⟩
    · have he : sizeL ts = sizeL us := by simp [T.size] at hc0; omega
      refine code_skip ?_
      refine post_next ?_
      refine code_seq ?_
      refine code_seq ?_
      refine code_region ?_
      first | refine op_v (v_fieldB 0 Try.underlying47 rfl rfl fz3 rfl) rfl ?_ | refine op_v (v_fieldI 0 Try.underlying47 rfl rfl fz3 rfl (by assumption)) rfl ?_ | refine op_v (v_field Try.underlying47 rfl fz3 rfl rfl) rfl ?_
      refine op_v (v_loadA ty3 rfl rfl) rfl ?_
      first | refine op_v (v_fieldB 0 Try.underlying47 rfl rfl fz3 rfl) rfl ?_ | refine op_v (v_fieldI 0 Try.underlying47 rfl rfl fz3 rfl (by assumption)) rfl ?_ | refine op_v (v_field Try.underlying47 rfl fz3 rfl rfl) rfl ?_
      refine op_v (v_loadA ty3 rfl rfl) rfl ?_
      first | refine op_v (v_cmptA rfl rfl rfl) rfl ?_ | refine op_v (v_cmpfA rfl rfl rfl) rfl ?_ | refine op_v (v_cmp rfl rfl rfl) rfl ?_
      refine ops_nil ?_
      refine post_next ?_
      refine code_cond rfl (fun hc1 => ?_) (fun hc1 => ?_)
      · have he1 : h ≠ g := by simpa using hc1
        refine code_seq ?_
        refine code_region ?_
        first | refine op_v (v_fieldB 0 Try.underlying47 rfl rfl fz3 rfl) rfl ?_ | refine op_v (v_fieldI 0 Try.underlying47 rfl rfl fz3 rfl (by assumption)) rfl ?_ | refine op_v (v_field Try.underlying47 rfl fz3 rfl rfl) rfl ?_
        refine op_v (v_loadA ty3 rfl rfl) rfl ?_
        first | refine op_v (v_fieldB 0 Try.underlying47 rfl rfl fz3 rfl) rfl ?_ | refine op_v (v_fieldI 0 Try.underlying47 rfl rfl fz3 rfl (by assumption)) rfl ?_ | refine op_v (v_field Try.underlying47 rfl fz3 rfl rfl) rfl ?_
        refine op_v (v_loadA ty3 rfl rfl) rfl ?_
        refine op_call pl153 rfl rfl ((order_does _ _ _)) Parts.none ?_
        rintro _ J _ hJ ⟨rfl, rfl⟩
        refine op_v (v_assign rfl) rfl ?_
        refine ops_nil ?_
        refine post_next ?_
        refine code_ret ?_
        refine post_ret_then ?_
        refine post_ret (rs := [.tmp 4]) rfl (List.Perm.refl _) (.cons (.tmp rfl) .nil) (List.nil_sublist _) ?_
        exact ⟨by simp [outV, cmpT, he, he1], rfl⟩
      · have he1 : h = g := by simpa using hc1
        refine code_skip ?_
        refine post_next ?_
        refine code_seq ?_
        refine code_seq ?_
        refine code_region ?_
        first | refine op_v (v_fieldB 1 Try.underlying47 rfl rfl fz45 rfl) rfl ?_ | refine op_v (v_fieldI 1 Try.underlying47 rfl rfl fz45 rfl (by assumption)) rfl ?_ | refine op_v (v_field Try.underlying47 rfl fz45 rfl rfl) rfl ?_
        refine op_v (v_loadA ty45 rfl rfl) rfl ?_
        refine op_v (v_len Try.underlying45 rfl) rfl ?_
        first | refine op_v (v_fieldB 1 Try.underlying47 rfl rfl fz45 rfl) rfl ?_ | refine op_v (v_fieldI 1 Try.underlying47 rfl rfl fz45 rfl (by assumption)) rfl ?_ | refine op_v (v_field Try.underlying47 rfl fz45 rfl rfl) rfl ?_
        refine op_v (v_loadA ty45 rfl rfl) rfl ?_
        refine op_v (v_len Try.underlying45 rfl) rfl ?_
        first | refine op_v (v_cmptA rfl rfl rfl) rfl ?_ | refine op_v (v_cmpfA rfl rfl rfl) rfl ?_ | refine op_v (v_cmp rfl rfl rfl) rfl ?_
        refine ops_nil ?_
        refine post_next ?_
        refine code_cond rfl (fun hc2 => ?_) (fun hc2 => ?_)
        · have he2 : ts.length ≠ us.length := by simp at hc2; omega
          refine code_seq ?_
          refine code_region ?_
          first | refine op_v (v_fieldB 1 Try.underlying47 rfl rfl fz45 rfl) rfl ?_ | refine op_v (v_fieldI 1 Try.underlying47 rfl rfl fz45 rfl (by assumption)) rfl ?_ | refine op_v (v_field Try.underlying47 rfl fz45 rfl rfl) rfl ?_
          refine op_v (v_loadA ty45 rfl rfl) rfl ?_
          refine op_v (v_len Try.underlying45 rfl) rfl ?_
          first | refine op_v (v_fieldB 1 Try.underlying47 rfl rfl fz45 rfl) rfl ?_ | refine op_v (v_fieldI 1 Try.underlying47 rfl rfl fz45 rfl (by assumption)) rfl ?_ | refine op_v (v_field Try.underlying47 rfl fz45 rfl rfl) rfl ?_
          refine op_v (v_loadA ty45 rfl rfl) rfl ?_
          refine op_v (v_len Try.underlying45 rfl) rfl ?_
          refine op_call pl153 rfl rfl ((order_does _ _ _)) Parts.none ?_
          rintro _ J _ hJ ⟨rfl, rfl⟩
          refine op_v (v_assign rfl) rfl ?_
          refine ops_nil ?_
          refine post_next ?_
          refine code_ret ?_
          refine post_ret_then ?_
          refine post_ret (rs := [.tmp 4]) rfl (List.Perm.refl _) (.cons (.tmp rfl) .nil) (List.nil_sublist _) ?_
          exact ⟨by simp [outV, cmpT, he, he1, he2], rfl⟩
        · have he2 : ts.length = us.length := by simp at hc2; omega
          refine code_skip ?_
          refine post_next ?_
          refine code_seq ?_
          refine code_seq ?_
          refine code_region ?_
          refine op_v (v_assign rfl) rfl ?_
          refine ops_nil ?_
          refine post_next ?_
          refine code_block ?_
          refine code_loop (fun m σ' I' δ' => ∃ k : Nat, m = ts.length - k ∧ σ' = [(2, .pointer (some ⟨b2, 0, none⟩)), (3, .pointer (some ⟨b3, 0, none⟩)), (5, .int .i64 k)] ∧ I.le I' ∧ δ' = [.box b3 47 [.int .i64 g, .slice bd us.length e], .box b2 47 [.int .i64 h, .slice ad ts.length c]] ∧ cmpL ts us = cmpL (ts.drop k) (us.drop k)) ts.length [(2, .pointer (some ⟨b2, 0, none⟩)), (3, .pointer (some ⟨b3, 0, none⟩)), (5, .int .i64 (0 : Nat))] ⟨0, rfl, rfl, Imm.le_trans hI8 hI10, rfl, rfl⟩ ⟨rfl, rfl, rfl, trivial⟩ ?_
          rintro m _ I0 _ ⟨k, rfl, rfl, hI0, rfl, hp⟩
          refine code_seq ?_
          refine code_seq ?_
          refine code_region ?_
          refine op_v (v_move rfl) rfl ?_
          first | refine op_v (v_fieldB 1 Try.underlying47 rfl rfl fz45 rfl) rfl ?_ | refine op_v (v_fieldI 1 Try.underlying47 rfl rfl fz45 rfl (by assumption)) rfl ?_ | refine op_v (v_field Try.underlying47 rfl fz45 rfl rfl) rfl ?_
          refine op_v (v_loadA ty45 rfl rfl) rfl ?_
          refine op_v (v_len Try.underlying45 rfl) rfl ?_
          first | refine op_v (v_cmptA rfl rfl rfl) rfl ?_ | refine op_v (v_cmpfA rfl rfl rfl) rfl ?_ | refine op_v (v_cmp rfl rfl rfl) rfl ?_
          refine ops_nil ?_
          refine post_next ?_
          refine code_cond rfl (fun hc3 => ?_) (fun hc3 => ?_)
          · have hlt : k < ts.length := by simpa using hc3
            have hlt2 : k < us.length := by omega
            have hs1 := (hat k hlt).isSome
            have hs2 := (hat2 k hlt2).isSome
            have hm := sizeL_mem ts k hlt
            have hm2 := sizeL_mem us k hlt2
            have hcd := cmpL_drop ts us k hlt hlt2
            refine code_skip ?_
            refine post_next ?_
            refine code_seq ?_
            refine code_block ?_
            refine code_seq ?_
            refine code_draw (.fl 0 (.fl 1 (.fl 2 (.fl 3 (.fl 4 (.fl 5 (.fl 6 (.fl 7 (.fl 8 (.fl 9 (.ef 10 (.ef 11 .done)))))))))))) (fun _ => _) mixed (by kernel_rfl) (by kernel_rfl) (fun _ => (List.Sublist.refl _)) ?_
            first | refine e_fl rfl rfl (fun hs_ => PF.mk rfl (v_fieldB 1 Try.underlying47 rfl rfl fz45 rfl) hs_) ?_ | refine e_fl rfl rfl (fun hs_ => PF.mk rfl (v_fieldI 1 Try.underlying47 rfl rfl fz45 rfl (by assumption)) hs_) ?_ | refine e_fl rfl rfl (fun hs_ => PF.mk rfl (v_field Try.underlying47 rfl fz45 rfl rfl) hs_) ?_
            refine e_fl rfl rfl (fun hs_ => PF.mk rfl (v_loadA ty45 rfl rfl) hs_) ?_
            refine e_fl rfl rfl (fun hs_ => PF.mk rfl (v_move rfl) hs_) ?_
            first | refine e_fl rfl rfl (fun hs_ => PF.mk rfl (v_indexA Try.underlying45 sz47 rfl rfl) hs_) ?_ | refine e_fl rfl rfl (fun hs_ => PF.mk rfl (v_indexIA Try.underlying45 sz47 rfl rfl) hs_) ?_
            first | refine e_fl rfl rfl (fun hs_ => PF.mk rfl (v_loadI0 ty47 ((hat k hlt).mono hI0) rfl rfl rfl) hs_) ?_ | refine e_fl rfl rfl (fun hs_ => PF.mk rfl (v_loadI ty47 ((hat k hlt).mono hI0) rfl rfl rfl) hs_) ?_
            first | refine e_fl rfl rfl (fun hs_ => PF.mk rfl (v_fieldB 1 Try.underlying47 rfl rfl fz45 rfl) hs_) ?_ | refine e_fl rfl rfl (fun hs_ => PF.mk rfl (v_fieldI 1 Try.underlying47 rfl rfl fz45 rfl (by assumption)) hs_) ?_ | refine e_fl rfl rfl (fun hs_ => PF.mk rfl (v_field Try.underlying47 rfl fz45 rfl rfl) hs_) ?_
            refine e_fl rfl rfl (fun hs_ => PF.mk rfl (v_loadA ty45 rfl rfl) hs_) ?_
            refine e_fl rfl rfl (fun hs_ => PF.mk rfl (v_move rfl) hs_) ?_
            first | refine e_fl rfl rfl (fun hs_ => PF.mk rfl (v_indexA Try.underlying45 sz47 rfl rfl) hs_) ?_ | refine e_fl rfl rfl (fun hs_ => PF.mk rfl (v_indexIA Try.underlying45 sz47 rfl rfl) hs_) ?_
            first | refine e_fl rfl rfl (fun hs_ => PF.mk rfl (v_loadI0 ty47 ((hat2 k hlt2).mono hI0) rfl rfl rfl) hs_) ?_ | refine e_fl rfl rfl (fun hs_ => PF.mk rfl (v_loadI ty47 ((hat2 k hlt2).mono hI0) rfl rfl rfl) hs_) ?_
            refine e_eff rfl (by intro cs b hc; cases hc) (by intro c hc; cases hc) ?_
            refine op_call pl117 rfl rfl ((ih ts[k] us[k] (by omega) (by omega) (by omega) _ _ _ ((hsub k hlt).mono hI0) ((hsub2 k hlt2).mono hI0))) Parts.none ?_
            rintro _ I58 _ hI58 ⟨rfl, rfl⟩
            refine ops_nil ?_
            refine e_next rfl side_allA ?_
            refine e_eff rfl (by intro cs b hc; cases hc) (by intro c hc; cases hc) ?_
            refine op_v (v_assign rfl) rfl ?_
            refine ops_nil ?_
            refine e_next rfl (side_nil (by kernel_rfl)) ?_
            refine e_done ?_
            refine post_next ?_
            refine code_seq ?_
            refine code_region ?_
            refine op_v (v_move rfl) rfl ?_
            first | refine op_v (v_cmptA rfl rfl rfl) rfl ?_ | refine op_v (v_cmpfA rfl rfl rfl) rfl ?_ | refine op_v (v_cmp rfl rfl rfl) rfl ?_
            refine ops_nil ?_
            refine post_next ?_
            refine code_cond rfl (fun hc4 => ?_) (fun hc4 => ?_)
            · have hz : cmpT ts[k] us[k] ≠ 0 := by simpa using hc4
              refine code_seq ?_
              refine code_region ?_
              refine op_v (v_move rfl) rfl ?_
              refine op_v (v_assign rfl) rfl ?_
              refine ops_nil ?_
              refine post_next ?_
              refine code_ret ?_
              refine post_ret_block ?_
              refine post_ret_then ?_
              refine post_ret_then ?_
              refine post_ret_block ?_
              refine post_ret_then ?_
              refine post_ret (rs := [.tmp 4]) rfl (List.Perm.refl _) (.cons (.tmp rfl) .nil) (List.nil_sublist _) ?_
              exact ⟨by simp [outV, cmpT, he, he1, he2, hp, hcd, hz], rfl⟩
            · have hz : cmpT ts[k] us[k] = 0 := by simpa using hc4
              refine code_skip ?_
              refine post_out ?_
              refine post_next ?_
              refine code_region ?_
              refine op_v (v_move rfl) rfl ?_
              first | refine op_v (v_addb rfl rfl rfl (by omega)) rfl ?_ | refine op_v (v_add rfl rfl) rfl ?_
              refine op_v (v_assign rfl) rfl ?_
              refine ops_nil ?_
              refine post_again (ts.length - (k + 1)) [(2, .pointer (some ⟨b2, 0, none⟩)), (3, .pointer (some ⟨b3, 0, none⟩)), (5, .int .i64 ((k + 1 : Nat) : Int))] (by omega) ⟨k + 1, rfl, rfl, Imm.le_trans hI0 hI58, rfl, by rw [hp, hcd]; simp [hz]⟩ ⟨rfl, rfl, rfl, trivial⟩
          · have hge : ¬ k < ts.length := by simpa using hc3
            rw [List.drop_eq_nil_of_le (by omega), List.drop_eq_nil_of_le (by omega)] at hp
            refine code_exit ?_
            refine post_exit_then ?_
            refine post_exit_then ?_
            refine post_exit ?_
            refine post_next ?_
            refine code_seq ?_
            refine code_region ?_
            refine op_v (v_assign rfl) rfl ?_
            refine ops_nil ?_
            refine post_next ?_
            refine code_ret ?_
            refine post_ret (rs := [.tmp 4]) rfl (List.Perm.refl _) (.cons (.tmp rfl) .nil) (List.nil_sublist _) ?_
            exact ⟨by simp [outV, cmpT, he, he1, he2, hp, cmpL], rfl⟩

theorem Same_does (I : Imm) (v w : Value) (t u : T) (hv : RepT I v t) (hw : RepT I w u) (hbt : t.size ≤ 1000000000) (hbu : u.size ≤ 1000000000) :
    Does Try.prog 76 [v, w] I [] (fun v I' δ' => v = .bool (decide (t = u)) ∧ δ' = []) := by
  have hv' := hv
  have hw' := hw
  obtain ⟨h, ts⟩ := t
  obtain ⟨g, us⟩ := u
  obtain ⟨ad, c, ss, rfl, hr, hc, hb, hat, hsub⟩ := hv.elim
  obtain ⟨bd, e, rr, rfl, hr2, hc2, hb2, hat2, hsub2⟩ := hw.elim
  refine Does.intro Try.func76 rfl Try.ntmps76 rfl fun w0 => ?_
  refine code_seq ?_
  refine code_region ?_
  refine o_box rfl rfl rfl (fun b2 => ?_)
  refine o_box rfl rfl rfl (fun b3 => ?_)
  refine op_v (v_assign rfl) rfl ?_
  refine ops_nil ?_
  refine post_next ?_
  refine code_seq ?_
  refine code_region ?_
  refine op_v (v_loadA ty47 rfl rfl) rfl ?_
  refine op_v (v_loadA ty47 rfl rfl) rfl ?_
  refine op_call pl117 rfl rfl ((Compare_does _ _ _ (Nat.le_refl _) hbt hbu _ _ _ hv' hw')) Parts.none ?_
  rintro _ I7 _ hI7 ⟨rfl, rfl⟩
  first | refine op_v (v_cmptA rfl rfl rfl) rfl ?_ | refine op_v (v_cmpfA rfl rfl rfl) rfl ?_ | refine op_v (v_cmp rfl rfl rfl) rfl ?_
  refine op_v (v_assign rfl) rfl ?_
  refine ops_nil ?_
  refine post_next ?_
  refine code_ret ?_
  refine post_ret (rs := [.tmp 4]) rfl (List.Perm.refl _) (.cons (.tmp rfl) .nil) (List.nil_sublist _) ?_
  exact ⟨bool_b (by simp only [decide_eq_decide]; exact cmpT_eq _ _), rfl⟩
end Go.Proofs.Ytdbadicpbmndbaa
/- Walks: copies, places. -/
set_option linter.unusedVariables false
set_option linter.unusedSimpArgs false
/- short -/
namespace Go.Proofs.Ytdbadicpbmndbaa
open Go Lg

end Go.Proofs.Ytdbadicpbmndbaa
/- Walks: places, by definition. -/
set_option linter.unusedVariables false
set_option linter.unusedSimpArgs false
/- short -/
namespace Go.Proofs.Ytdbadicpbmndbaa
open Go Lg

def AtR (t : T) (p : List Int) (v : Value) (I : Imm) : Prop := ∃ u, v = .tuple #[u, .bool (atT t p).isSome] ∧ RepT I u ((atT t p).getD zeroT)

end Go.Proofs.Ytdbadicpbmndbaa
/- Walks: places under others; clones. -/
set_option linter.unusedVariables false
set_option linter.unusedSimpArgs false
/- short -/
namespace Go.Proofs.Ytdbadicpbmndbaa
open Go Lg

theorem Clone_does (I : Imm) {ad : Option Addr} {n c : Nat} {xs : List Value} (hc : Cells I ad xs) (hl : xs.length = n * 2) (h1 : ∀ u ∈ xs, u.oneCell' = true) (hn : n ≤ 4398046511104) :
    Does Try.prog 166 [.slice ad n c] I [] (fun v I' δ' => ∃ ad' c', v = .slice ad' n c' ∧ δ' = [.row (.slice ad' n c') 47 2 n xs]) := by
  refine Does.intro Try.func166 rfl Try.ntmps166 rfl fun w0 => ?_
  refine code_seq ?_
  refine code_region ?_
  refine op_v (v_assign rfl) rfl ?_
  refine ops_nil ?_
  refine post_next ?_
  refine code_seq ?_
  refine code_seq ?_
  refine code_region ?_
  refine op_v (v_move rfl) rfl ?_
  refine op_v (v_nilq Try.underlying45 rfl rfl rfl) rfl ?_
  refine ops_nil ?_
  refine post_next ?_
  refine code_cond rfl (fun hc0 => ?_) (fun hc0 => ?_)
  · have had : ad = none := by simpa using hc0
    subst had
    have hn0 : n = 0 := by
      rcases Nat.eq_zero_or_pos n with h | h
      · exact h
      · exfalso
        have := hc 0 (xs[0]'(by omega)) (by simp)
        simp [Imm.cellO] at this
    subst hn0
    obtain rfl : xs = [] := List.eq_nil_of_length_eq_zero hl
    refine code_seq ?_
    refine code_region ?_
    refine op_v (v_assign rfl) rfl ?_
    refine ops_nil ?_
    refine post_next ?_
    refine code_ret ?_
    refine post_ret_then ?_
    refine PostJ.view (View.nilRow 47 2) (post_ret (rs := [.tmp 2]) rfl (List.Perm.refl _) (.cons (.tmp rfl) .nil) (List.Sublist.refl _) ⟨none, 0, rfl, rfl⟩)
  · refine code_skip ?_
    refine post_next ?_
    refine code_seq ?_
    refine code_region ?_
    refine o_buildSlice (xs := []) Try.underlying45 bs47 rfl rfl rfl rfl rfl (fun b5 => ?_)
    refine op_v (v_move rfl) rfl ?_
    refine o_append Try.underlying45 bs47 rfl rfl rfl (fun v' => by repeat (first | exact Swap.here | apply Swap.there)) (Src.ofI hc) hl h1 (by omega) (by omega) (fun a7 c7 => ?_)
    refine op_v (v_assign rfl) rfl ?_
    refine ops_nil ?_
    refine post_next ?_
    refine code_ret ?_
    refine post_ret (rs := [.tmp 2]) rfl (List.Perm.refl _) (.cons (.tmp rfl) .nil) (List.Sublist.refl _) ?_
    refine ⟨a7, c7, ?_, ?_⟩
    · simp [outV]
    · simp [cat]
end Go.Proofs.Ytdbadicpbmndbaa
/- Walks: the part at a place. -/
set_option linter.unusedVariables false
set_option linter.unusedSimpArgs false
/- short -/
namespace Go.Proofs.Ytdbadicpbmndbaa
open Go Lg

end Go.Proofs.Ytdbadicpbmndbaa
/- Walks: rows of numbers of one's own. -/
set_option linter.unusedVariables false
set_option linter.unusedSimpArgs false
/- short -/
namespace Go.Proofs.Ytdbadicpbmndbaa
open Go Lg

theorem Lg.Parts.three {δ δ1 δ2 δ3 : List Ent} {x y z : Ent} (h : Del δ x δ1) (k : Del δ1 y δ2) (l : Del δ2 z δ3) : Parts δ [x, y, z] δ3 := h.perm.trans (List.Perm.cons _ (Parts.two k l))

theorem RInts.of {I : Imm} {ad : Option Addr} {n c : Nat} {xs : List Int} (hn : n = xs.length) (hc : n ≤ c) (hb : n ≤ 17592186044416) (hat : Cells I ad (xs.map (Value.int .i64))) (hr : ∀ x ∈ xs, InR x) : RInts I (.slice ad n c) xs := by
  subst hn
  exact ⟨ad, c, xs, hc, hb, hat, hr⟩
theorem RInts.len {I : Imm} {v : Value} {xs : List Int} (h : RInts I v xs) : xs.length ≤ 17592186044416 ∧ ∀ x ∈ xs, InR x := by
  obtain ⟨ad, c, xs, hc, hb, hat, hr⟩ := h
  exact ⟨hb, hr⟩

theorem RInts.shape {I : Imm} {v : Value} {xs : List Int} (h : RInts I v xs) : ∃ ad c, v = .slice ad xs.length c := by
  obtain ⟨ad, c, xs, _, _, _, _⟩ := h
  exact ⟨ad, c, rfl⟩

theorem RInts.atI {I : Imm} {a : Option Addr} {n c : Nat} {xs : List Int} (h : RInts I (.slice a n c) xs) (i : Nat) (hi : i < xs.length) : At I a (i * 1) [.int .i64 xs[i]] := by
  generalize e : Value.slice a n c = v at h
  obtain ⟨ad, c', xs, hc, hb, hat, hr⟩ := h
  cases e
  exact ints_at hat i hi
/-- rows of rows of numbers -/
def RowP (I : Imm) (xs : List Value) (ps : List (List Int)) : Prop := xs.length = ps.length ∧ ∀ i (h : i < ps.length), ∃ v, xs[i]? = some v ∧ RInts I v ps[i]
theorem RowP.nil (I : Imm) : RowP I [] [] := ⟨rfl, fun i h => by simp at h⟩
theorem RowP.mono {I J : Imm} {xs : List Value} {ps : List (List Int)} (h : RowP I xs ps) (hl : I.le J) : RowP J xs ps :=
  ⟨h.1, fun i hi => let ⟨v, h1, h2⟩ := h.2 i hi; ⟨v, h1, h2.mono hl⟩⟩
theorem RowP.snoc {I : Imm} {xs : List Value} {ps : List (List Int)} {v : Value} {p : List Int} (h : RowP I xs ps) (k : RInts I v p) : RowP I (xs ++ [v]) (ps ++ [p]) := by
  refine ⟨by simp [h.1], fun i hi => ?_⟩
  by_cases hlt : i < ps.length
  · obtain ⟨u, h1, h2⟩ := h.2 i hlt
    rw [List.getElem_append_left hlt]
    exact ⟨u, by rw [List.getElem?_append_left (by rw [h.1]; exact hlt)]; exact h1, h2⟩
  · have hi' : i = ps.length := by simp at hi; omega
    subst hi'
    have e : (ps ++ [p])[ps.length] = p := by simp
    rw [e]
    exact ⟨v, by rw [← h.1]; simp, k⟩
theorem RowP.one {I : Imm} {xs : List Value} {ps : List (List Int)} (h : RowP I xs ps) : ∀ u ∈ xs, u.oneCell' = true := by
  intro u hu
  obtain ⟨i, hi, rfl⟩ := List.getElem_of_mem hu
  obtain ⟨v, h1, h2⟩ := h.2 i (by rw [← h.1]; exact hi)
  rw [List.getElem?_eq_getElem hi] at h1
  have e : xs[i] = v := by simpa using h1
  show xs[i].oneCell' = true
  rw [e]
  generalize ps[i]'(by rw [← h.1]; exact hi) = p at h2
  obtain ⟨ad, c, xs, _, _, _, _⟩ := h2
  rfl
inductive RPs (I : Imm) : Value → List (List Int) → Prop
  | mk (ad : Option Addr) (c : Nat) (xs : List Value) (ps : List (List Int)) (hc : ps.length ≤ c) (hb : ps.length ≤ 4398046511104) (hat : Cells I ad xs) (hr : RowP I xs ps) : RPs I (.slice ad ps.length c) ps
theorem RPs.of {I : Imm} {ad : Option Addr} {n c : Nat} {xs : List Value} {ps : List (List Int)} (hn : n = ps.length) (hc : n ≤ c) (hb : n ≤ 4398046511104) (hat : Cells I ad xs) (hr : RowP I xs ps) : RPs I (.slice ad n c) ps := by
  subst hn
  exact ⟨ad, c, xs, ps, hc, hb, hat, hr⟩
theorem RPs.mono {I J : Imm} {v : Value} {ps : List (List Int)} (h : RPs I v ps) (hl : I.le J) : RPs J v ps := by
  obtain ⟨ad, c, xs, ps, hc, hb, hat, hr⟩ := h
  exact ⟨ad, c, xs, ps, hc, hb, hat.mono hl, hr.mono hl⟩
theorem RPs.get {I : Imm} {ad : Option Addr} {xs : List Value} {ps : List (List Int)} (hat : Cells I ad xs) (hr : RowP I xs ps) (i : Nat) (h : i < ps.length) :
    ∃ (ed : Option Addr) (ec : Nat), At I ad (i * 1) [.slice ed ps[i].length ec] ∧ RInts I (.slice ed ps[i].length ec) ps[i] := by
  obtain ⟨v, h1, h2⟩ := hr.2 i h
  generalize he : ps[i] = p at h2
  obtain ⟨ad', c, p, _, _, _, _⟩ := h2
  refine ⟨ad', c, hat.at _ fun j u hj => ?_, ⟨ad', c, p, ‹_›, ‹_›, ‹_›, ‹_›⟩⟩
  rcases j with _ | j
  · simp at hj; subst hj; simpa using h1
  · simp at hj
end Go.Proofs.Ytdbadicpbmndbaa
/- Walks: all places of a term. -/
set_option linter.unusedVariables false
set_option linter.unusedSimpArgs false
/- short -/
namespace Go.Proofs.Ytdbadicpbmndbaa
open Go Lg

mutual
def allT : T → List (List Int)
  | .mk _ ts => [] :: allL 0 ts
def allL : Nat → List T → List (List Int)
  | _, [] => []
  | i, t :: r => (allT t).map ((i : Int) :: ·) ++ allL (i + 1) r
end
mutual
theorem allT_length : ∀ t : T, (allT t).length = t.size
  | .mk h ts => by simp [allT, T.size, allL_length 0 ts]; omega
theorem allL_length : ∀ (i : Nat) (ts : List T), (allL i ts).length = sizeL ts
  | _, [] => rfl
  | i, t :: r => by simp [allL, sizeL, allT_length t, allL_length (i + 1) r]
end
mutual
theorem allT_deep : ∀ (t : T) (p : List Int), p ∈ allT t → p.length + 1 ≤ t.size
  | .mk h ts, p, hp => by
    simp only [allT, List.mem_cons] at hp
    rcases hp with rfl | hp
    · simp [T.size]
    · have := allL_deep 0 ts p hp; simp [T.size]; omega
theorem allL_deep : ∀ (i : Nat) (ts : List T) (p : List Int), p ∈ allL i ts → p.length ≤ sizeL ts
  | _, [], p, hp => by simp [allL] at hp
  | i, t :: r, p, hp => by
    simp only [allL, List.mem_append, List.mem_map] at hp
    rcases hp with ⟨q, hq, rfl⟩ | hp
    · have := allT_deep t q hq; simp [sizeL]; omega
    · have := allL_deep (i + 1) r p hp; simp [sizeL]; omega
end
theorem allL_drop (ts : List T) (k : Nat) (h : k < ts.length) : allL k (ts.drop k) = (allT ts[k]).map ((k : Int) :: ·) ++ allL (k + 1) (ts.drop (k + 1)) := by
  rw [List.drop_eq_getElem_cons h]; simp [allL]

end Go.Proofs.Ytdbadicpbmndbaa
/- Walks: all places of a term, by the program. -/
set_option linter.unusedVariables false
set_option linter.unusedSimpArgs false
/- short -/
namespace Go.Proofs.Ytdbadicpbmndbaa
open Go Lg

end Go.Proofs.Ytdbadicpbmndbaa
/- Walks: another part put at a place, by definition. -/
set_option linter.unusedVariables false
set_option linter.unusedSimpArgs false
/- short -/
namespace Go.Proofs.Ytdbadicpbmndbaa
open Go Lg

/-- another part at a place that is there -/
def putT : T → List Int → T → T
  | _, [], u => u
  | t, x :: r, u => .mk t.head (t.args.set x.toNat (putT (t.args.getD x.toNat zeroT) r u))

theorem atT_cons {t : T} {x : Int} {r : List Int} (h : (atT t (x :: r)).isSome = true) : ∃ i : Nat, x = i ∧ ∃ hi : i < t.args.length, (atT t.args[i] r).isSome = true := by
  unfold atT at h
  by_cases hh : 0 ≤ x ∧ x.toNat < t.args.length
  · rw [dif_pos hh] at h
    obtain ⟨i, rfl⟩ := Int.eq_ofNat_of_zero_le hh.1
    exact ⟨i, rfl, hh.2, h⟩
  · rw [dif_neg hh] at h; cases h

def PutR (t : T) (p : List Int) (u : T) (v : Value) (I : Imm) : Prop :=
  ∃ x, v = .tuple #[x, .int .i64 (if (atT t p).isSome then 0 else 6)] ∧ RepT I x (if (atT t p).isSome then putT t p u else zeroT)

end Go.Proofs.Ytdbadicpbmndbaa
/- Walks: another part put at a place, by the program. -/
set_option linter.unusedVariables false
set_option linter.unusedSimpArgs false
namespace Go.Proofs.Ytdbadicpbmndbaa
open Go Lg

/-! ### rows and boxes -/
theorem Lg.OpsJ.freezeBox {C : Ctx} {Q : Exit → Act → World → Prop} {σ : Env} {ds : List Nat} {I : Imm} {δ δ' : List Ent} {ops : Array Oper} {rest : List Oper} {b : Nat} {e : TypeId} {cs : List Value} (hd : Del δ (.box b e cs) δ')
    (h : ∀ I', I.le I' → I' b = some (.cells cs.toArray e (0, 0)) → OpsJ C ops Q rest σ ds I' δ') : OpsJ C ops Q rest σ ds I δ := by
  intro a w he hs ht
  have h1 := hs.perm hd.perm
  have t1 := ht.permR hd.perm
  obtain ⟨s2, t2, hle⟩ := h1.freeze (b := b) rfl (h1.ents _ (List.mem_cons_self ..))
  exact h _ hle (by simp [Imm.ins]) a w he s2 (t1.trans t2)
theorem Lg.OpsJ.rowBox {C : Ctx} {Q : Exit → Act → World → Prop} {σ : Env} {ds : List Nat} {I : Imm} {δ δ' : List Ent} {ops : Array Oper} {rest : List Oper} {v : Value} {e : TypeId} {size n : Nat} {xs : List Value} (hd : Del δ (.row v e size n xs) δ') (hn : 0 < n)
    (h : ∀ g cap cs, v = .slice (some ⟨g, 0, none⟩) n cap → n ≤ cap → xs.length = n * size → cs.take (n * size) = xs → OpsJ C ops Q rest σ ds I (.box g e cs :: δ')) : OpsJ C ops Q rest σ ds I δ := by
  intro a w he hs ht
  have h1 := hs.perm hd.perm
  have t1 := ht.permR hd.perm
  obtain ⟨hl, hx⟩ : w.ownsRow 0 e size v n xs := h1.ents _ (List.mem_cons_self ..)
  rcases hx with ⟨rfl, rfl⟩ | ⟨g, cap, cur, rfl, _, hh, hnc, _, hcs, htk⟩
  · omega
  · have hb : blks (.row (.slice (some ⟨g, 0, none⟩) n cap) e size n xs :: δ') = blks (.box g e cur.toList :: δ') := rfl
    refine h g cap cur.toList rfl hnc hl htk a w he ⟨h1.imm, fun y hy => ?_, hb ▸ h1.nodup, hb ▸ h1.apart⟩ ⟨t1.os, t1.tape, t1.output, t1.size, t1.same, t1.imm, t1.freshI, hb ▸ t1.freshD⟩
    rcases List.mem_cons.1 hy with rfl | hy
    · simpa [Ent.holds] using hh
    · exact h1.ents y (List.mem_cons_of_mem _ hy)

theorem stL_one {cs : List Value} {o : Nat} {x v : Value} (h : cs[o]? = some x) : stL cs o [v] = some (cs.set o v) := by
  induction cs generalizing o with
  | nil => simp at h
  | cons c cs ih =>
    cases o with
    | zero => cases cs <;> simp [stL]
    | succ o => simp at h; simp [stL, ih h]
theorem stL_two {cs : List Value} {o : Nat} {x y u v : Value} (h : cs[o]? = some x) (k : cs[o + 1]? = some y) : stL cs o [u, v] = some ((cs.set o u).set (o + 1) v) := by
  induction cs generalizing o with
  | nil => simp at h
  | cons c cs ih =>
    cases o with
    | zero =>
      cases cs with
      | nil => simp at k
      | cons c2 cs => cases cs <;> simp [stL]
    | succ o => simp at h k; simp [stL, ih h k]
theorem ld_one {cs : List Value} {o : Nat} {x : Value} (h : cs[o]? = some x) : ld false 1 (cs.drop o) = some x := by
  obtain ⟨hl, rfl⟩ := List.getElem?_eq_some_iff.1 h
  rw [List.drop_eq_getElem_cons hl]; rfl

/-! ### places, from behind -/
theorem atT_c (t : T) (x : Int) (r : List Int) : atT t (x :: r) = if h : 0 ≤ x ∧ x.toNat < t.args.length then atT (t.args[x.toNat]'h.2) r else none := by simp only [atT]
theorem atT_app : ∀ (p q : List Int) (t : T), atT t (p ++ q) = (atT t p).bind (atT · q)
  | [], q, t => by simp [atT]
  | x :: p, q, t => by
    rw [List.cons_append, atT_c, atT_c]
    by_cases hh : 0 ≤ x ∧ x.toNat < t.args.length
    · rw [dif_pos hh, dif_pos hh, atT_app p q]
    · rw [dif_neg hh, dif_neg hh]; rfl
theorem atT_one {t : T} {i : Nat} (h : i < t.args.length) : atT t [(i : Int)] = some t.args[i] := by
  simp [atT, h]
theorem putT_snoc : ∀ (q : List Int) (t u w : T) (i : Nat), atT t q = some u → i < u.args.length → putT t (q ++ [(i : Int)]) w = putT t q (.mk u.head (u.args.set i w))
  | [], t, u, w, i, h, hi => by
    simp [atT] at h; subst h
    simp [putT]
  | x :: q, t, u, w, i, h, hi => by
    rw [List.cons_append]
    have h' : (atT t (x :: q)).isSome = true := by rw [h]; rfl
    obtain ⟨j, rfl, hj, _⟩ := atT_cons h'
    simp only [atT, Int.toNat_natCast] at h
    rw [dif_pos ⟨by omega, hj⟩] at h
    simp only [putT, Int.toNat_natCast]
    have e : t.args.getD j zeroT = t.args[j] := by simp [hj]
    rw [e, putT_snoc q _ u w i h hi]

/-- What is to be put into the cells at (b, off) stands at q. -/
def Hole (t : T) (q : List Int) (b0 b off : Nat) (cs : List Value) (I : Imm) : Prop :=
  ∀ (J : Imm) (w : T) (wd : Option Addr) (wc : Nat), I.le J → J b = some (.cells ((cs.set off (.int .i64 w.head)).set (off + 1) (.slice wd w.args.length wc)).toArray 47 (0, 0)) → RepT J (.agg #[.int .i64 w.head, .slice wd w.args.length wc]) w →
    ∃ v0 v1, J b0 = some (.cells #[v0, v1] 47 (0, 0)) ∧ RepT J (.agg #[v0, v1]) (putT t q w)
theorem Hole.mono {t : T} {q : List Int} {b0 b off : Nat} {cs : List Value} {I J : Imm} (h : Hole t q b0 b off cs I) (hl : I.le J) : Hole t q b0 b off cs J :=
  fun K w wd wc hk hb hr => h K w wd wc (Imm.le_trans hl hk) hb hr
theorem Hole.start {t : T} {b : Nat} {x y : Value} {I : Imm} : Hole t [] b b 0 [x, y] I :=
  fun J w wd wc _ hb hr => ⟨_, _, hb, by simpa [putT] using hr⟩

theorem RowT.set {I : Imm} {xs : List Value} {ts : List T} {w : T} {wd : Option Addr} {wc i : Nat} (h : RowT I xs ts) (hr : RepT I (.agg #[.int .i64 w.head, .slice wd w.args.length wc]) w) (hi : i < ts.length) :
    RowT I ((xs.set (i * 2) (.int .i64 w.head)).set (i * 2 + 1) (.slice wd w.args.length wc)) (ts.set i w) := by
  refine ⟨by simp [h.1], fun j hj => ?_⟩
  have hj' : j < ts.length := by simpa using hj
  obtain ⟨s, h1, h2, h3⟩ := h.2 j hj'
  by_cases e : i = j
  · subst e
    have e1 : (ts.set i w)[i] = w := by simp
    rw [e1]
    exact ⟨(wd, wc), by rw [List.getElem?_set_ne (by omega), List.getElem?_set_self (by rw [h.1]; omega)], by rw [List.getElem?_set_self (by simp [h.1]; omega)], hr⟩
  · have e1 : (ts.set i w)[j] = ts[j] := by simp [List.getElem_set_ne e]
    rw [e1]
    exact ⟨s, by rw [List.getElem?_set_ne (by omega), List.getElem?_set_ne (by omega)]; exact h1, by rw [List.getElem?_set_ne (by omega), List.getElem?_set_ne (by omega)]; exact h2, h3⟩

theorem cells_of {J : Imm} {g : Nat} {e : TypeId} {cs : List Value} (h : J g = some (.cells cs.toArray e (0, 0))) (n : Nat) : Cells J (some ⟨g, 0, none⟩) (cs.take n) := fun j v hj => by
  have hadd : (⟨g, 0, none⟩ : Addr).add j = ⟨g, j, none⟩ := by rw [add_plain]; simp
  simp only [Option.map_some, Imm.cellO, Imm.cell, hadd, h]
  rw [List.getElem?_take] at hj
  split at hj
  · simpa using hj
  · cases hj

theorem Hole.step {t u : T} {q : List Int} {b0 b off g n cap i : Nat} {cs cs3 xs : List Value} {I J : Imm} (h : Hole t q b0 b off cs I) (hl : I.le J) (hat : atT t q = some u) (hn : u.args.length = n)
    (hb : J b = some (.cells (cs.set (off + 1) (.slice (some ⟨g, 0, none⟩) n cap)).toArray 47 (0, 0))) (hc0 : cs[off]? = some (.int .i64 u.head)) (hr : InR u.head) (hnc : n ≤ cap) (hnb : n ≤ 4398046511104)
    (htk : cs3.take (n * 2) = xs) (hrow : RowT J xs u.args) (hi : i < n) : Hole t (q ++ [(i : Int)]) b0 g (i * 2) cs3 J := by
  intro K w wd wc hk hg hw
  have hset : cs.set off (.int .i64 u.head) = cs := by
    obtain ⟨hlt, he⟩ := List.getElem?_eq_some_iff.1 hc0
    rw [← he, List.set_getElem_self]
  have hcells := cells_of hg (n * 2)
  rw [List.take_set, List.take_set, htk] at hcells
  have hrow' := (hrow.mono hk).set hw (i := i) (by omega)
  have hlen : (T.mk u.head (u.args.set i w)).args.length = n := by
    show (u.args.set i w).length = n
    simp [hn]
  obtain ⟨v0, v1, h1, h2⟩ := h K (.mk u.head (u.args.set i w)) (some ⟨g, 0, none⟩) cap (Imm.le_trans hl hk) (by
    rw [hlen]
    show K b = some (.cells ((cs.set off (.int .i64 u.head)).set (off + 1) _).toArray _ _)
    rw [hset]
    exact hk _ _ hb) (RowT.rep (h := u.head) (c := cap) (ts := u.args.set i w) hcells hrow' hr (by simp [hn]; exact hnc) (by simp [hn]; exact hnb))
  refine ⟨v0, v1, h1, ?_⟩
  rw [putT_snoc q t u w i hat (by omega)]
  exact h2
end Go.Proofs.Ytdbadicpbmndbaa
/- Walks: another part put at a place, by the program. -/
set_option linter.unusedVariables false
set_option linter.unusedSimpArgs false
/- short -/
namespace Go.Proofs.Ytdbadicpbmndbaa
open Go Lg

end Go.Proofs.Ytdbadicpbmndbaa
/- Walks: the document's example on places. -/
set_option linter.unusedVariables false
set_option linter.unusedSimpArgs false
/- short -/
namespace Go.Proofs.Ytdbadicpbmndbaa
open Go Lg

theorem Fun_does {I : Imm} {h : Int} {s : Value} {ts : List T} (hh : InR h) (hs : RepS I s ts) :
    Does Try.prog 62 [.int .i64 h, s] I [] (fun v I' δ' => RepT I' v (.mk h ts) ∧ δ' = []) := by
  have hs' := hs
  obtain ⟨ad, c, ss, ts, hc, hb, hat, hr, hsub⟩ := hs
  refine Does.intro Try.func62 rfl Try.ntmps62 rfl fun w0 => ?_
  refine code_seq ?_
  refine code_region ?_
  refine o_alloc z47 rfl rfl (fun b4 => ?_)
  refine ops_nil ?_
  refine post_next ?_
  refine code_seq ?_
  refine code_region ?_
  refine op_v (v_move rfl) rfl ?_
  refine op_v (v_move rfl) rfl ?_
  refine op_v (v_build bl47 rfl rfl) rfl ?_
  refine o_store ty47 rfl rfl rfl rfl rfl (by repeat (first | exact Swap.here | apply Swap.there)) rfl ?_
  refine ops_nil ?_
  refine post_next ?_
  refine code_ret ?_
  refine post_ret (rs := [.cell 4 47]) rfl (List.Perm.refl _) (.cons (.cell rfl ty47 (by repeat (first | exact Has.here | apply Has.there)) rfl) .nil) (List.nil_sublist _) ?_
  exact ⟨RepT.mk _ (.mk h ts) hh hs', rfl⟩
theorem Var_does {I : Imm} {n : Int} (h0 : 0 ≤ n) (h1 : n ≤ 1000000000) :
    Does Try.prog 61 [.int .i64 n] I [] (fun v I' δ' => RepT I' v (.mk (-1 - n) []) ∧ δ' = []) := by
  refine Does.intro Try.func61 rfl Try.ntmps61 rfl fun w0 => ?_
  refine code_seq ?_
  refine code_region ?_
  refine o_alloc z47 rfl rfl (fun b2 => ?_)
  refine ops_nil ?_
  refine post_next ?_
  refine code_seq ?_
  refine code_region ?_
  refine op_v (v_move rfl) rfl ?_
  first | refine op_v (v_subb rfl rfl rfl (by omega)) rfl ?_ | refine op_v (v_sub rfl rfl) rfl ?_
  refine op_v (v_build bl47 rfl rfl) rfl ?_
  refine o_store ty47 rfl rfl rfl rfl rfl (by repeat (first | exact Swap.here | apply Swap.there)) rfl ?_
  refine ops_nil ?_
  refine post_next ?_
  refine code_ret ?_
  refine post_ret (rs := [.cell 2 47]) rfl (List.Perm.refl _) (.cons (.cell rfl ty47 (by repeat (first | exact Has.here | apply Has.there)) rfl) .nil) (List.nil_sublist _) ?_
  exact ⟨RepT.mk _ (.mk (-1 - n) []) (by unfold InR; simp [T.head]; omega) (RepS.nil _), rfl⟩
theorem RowT.repS {I : Imm} {ad : Option Addr} {n c : Nat} {xs : List Value} {ts : List T} (hn : n = ts.length) (hc : Cells I ad xs) (hr : RowT I xs ts) (hle : n ≤ c) (hb : n ≤ 4398046511104) : RepS I (.slice ad n c) ts := by
  subst hn
  exact RepT.args (RowT.rep (h := 0) hc hr (by unfold InR; omega) hle hb)
theorem RInts.lit {I : Imm} {ad : Option Addr} {n c : Nat} {xs : List Int} (hat : Cells I ad (xs.map (Value.int .i64))) (hc : n ≤ c) (hr : xs.all (fun x => decide (0 ≤ x ∧ x ≤ 1000)) = true) (hn : n = xs.length := by rfl) (hb : n ≤ 17592186044416 := by decide) : RInts I (.slice ad n c) xs :=
  RInts.of hn hc hb hat (fun x hx => by have := List.all_eq_true.1 hr x hx; simp at this; unfold InR; omega)

def tA : T := .mk 4 [.mk 1 [], .mk 3 [.mk 2 []]]
end Go.Proofs.Ytdbadicpbmndbaa
/- Walks: variables and rightness of a term, by the program. -/
set_option linter.unusedVariables false
set_option linter.unusedSimpArgs false
/- short -/
namespace Go.Proofs.Ytdbadicpbmndbaa
open Go Lg

def varsP (l : List (Nat × T)) : List Int := l.foldl (fun acc x => if 0 ≤ -1 - x.2.head ∧ -1 - x.2.head ∉ acc then acc ++ [-1 - x.2.head] else acc) []
theorem varsP_snoc (l : List (Nat × T)) (x : Nat × T) : varsP (l ++ [x]) = if 0 ≤ -1 - x.2.head ∧ -1 - x.2.head ∉ varsP l then varsP l ++ [-1 - x.2.head] else varsP l := by simp [varsP]
theorem varsP_len (l : List (Nat × T)) : (varsP l).length ≤ l.length := by
  have key : ∀ (l : List (Nat × T)) (acc : List Int), (l.foldl (fun acc x => if 0 ≤ -1 - x.2.head ∧ -1 - x.2.head ∉ acc then acc ++ [-1 - x.2.head] else acc) acc).length ≤ acc.length + l.length := fun l => by
    induction l with
    | nil => intro acc; simp
    | cons x r ih =>
      intro acc
      rw [List.foldl_cons]
      split
      · have := ih (acc ++ [-1 - x.2.head]); simp at this ⊢; omega
      · have := ih acc; simp at this ⊢; omega
  have := key l []
  simpa [varsP] using this
theorem varsP_in (l : List (Nat × T)) : (∀ x ∈ l, InR x.2.head) → ∀ n ∈ varsP l, InR n := by
  have key : ∀ (l : List (Nat × T)) (acc : List Int), (∀ x ∈ l, InR x.2.head) → (∀ n ∈ acc, InR n) → ∀ n ∈ l.foldl (fun acc x => if 0 ≤ -1 - x.2.head ∧ -1 - x.2.head ∉ acc then acc ++ [-1 - x.2.head] else acc) acc, InR n := fun l => by
    induction l with
    | nil => intro acc _ h; simpa using h
    | cons x r ih =>
      intro acc hl h
      rw [List.foldl_cons]
      refine ih _ (fun y hy => hl y (List.mem_cons_of_mem _ hy)) ?_
      split
      · intro n hn
        rcases List.mem_append.1 hn with hn | hn
        · exact h n hn
        · rw [List.mem_singleton] at hn
          have := hl x (List.mem_cons_self ..)
          unfold InR at *; omega
      · exact h
  intro h
  exact key l [] h (fun n hn => by cases hn)

theorem TVars_does {I : Imm} {v : Value} {t : T} (hv : RepT I v t) (hbig : t.size ≤ 1000000000) :
    Does Try.prog 91 [v] I [] (fun v I' δ' => RInts I' v (varsP (partsT 1 t)) ∧ δ' = []) := by
  obtain ⟨ad, c, rfl, hr0⟩ := hv.shape
  refine Does.intro Try.func91 rfl Try.ntmps91 rfl fun w0 => ?_
  refine code_seq ?_
  refine code_region ?_
  refine o_box rfl rfl rfl (fun b1 => ?_)
  refine op_v (v_assign rfl) rfl ?_
  refine ops_nil ?_
  refine post_next ?_
  refine code_seq ?_
  refine code_region ?_
  refine o_alloc z62 rfl rfl (fun b3 => ?_)
  refine ops_nil ?_
  refine post_next ?_
  refine code_seq ?_
  refine code_seq ?_
  refine code_region ?_
  refine op_v (v_loadA ty47 rfl rfl) rfl ?_
  refine op_call pl127 rfl rfl ((parts_does)) Parts.none ?_
  rintro v8 I8 _ hI8 ⟨b8, rfl, rfl⟩
  refine ops_nil ?_
  refine post_next ?_
  refine code_block ?_
  refine CodeJ.view ((View.nilRow 3 1).trans (View.perm (List.perm_append_comm (l₁ := [_]) (l₂ := [_, _, _])))) ?_
  refine code_range (δb := [_, _]) (B := fun l I' δ' => (∀ x ∈ l, InR x.2.head) ∧ ∃ (ar : Option Addr) (cr : Nat), δ' = [.box b3 62 [.slice ar (varsP l).length cr], iRow ar cr (varsP l)]) rfl rfl pl160 rfl (parts_iter (hv.mono hI8) hbig) (List.Perm.cons _ (List.Perm.cons _ (List.Perm.swap _ _ _))) ⟨by simp, none, 0, rfl⟩ (by rintro _ _ _ ⟨_, _, rfl, _⟩; rfl) (by rintro l I1 I2 _ hle h; exact h) ?_ ?_
  · rintro l r w1 pre x post I2 _ _ hrs hrp hx hI2 ⟨hin, ar, cr, rfl⟩ ⟨xa, xc, rfl, hxv⟩
    obtain ⟨_, _, hxs, hxr⟩ := hxv.shape
    have hpl := congrArg List.length hx
    simp only [partsT_length, List.length_append, List.length_cons] at hpl
    have hvl := varsP_len pre
    have hin2 : ∀ y ∈ pre ++ [x], InR y.2.head := by intro y hy; rcases List.mem_append.1 hy with hy | hy; (exact hin y hy); (rw [List.mem_singleton] at hy; subst hy; exact hxr)
    have hxr2 := hxr
    unfold InR at hxr2
    refine code_region ?_
    refine o_alloc z47 rfl rfl (fun b5 => ?_)
    refine o_store ty47 rfl rfl rfl rfl rfl (by repeat (first | exact Swap.here | apply Swap.there)) rfl ?_
    refine ops_nil ?_
    refine post_begin hrs (Swap.there Swap.here) ?_
    refine code_block ?_
    refine code_seq ?_
    refine code_region ?_
    first | refine op_v (v_fieldB 0 Try.underlying47 rfl rfl fz3 rfl) rfl ?_ | refine op_v (v_fieldI 0 Try.underlying47 rfl rfl fz3 rfl (by assumption)) rfl ?_ | refine op_v (v_field Try.underlying47 rfl fz3 rfl rfl) rfl ?_
    refine op_v (v_loadA ty3 rfl rfl) rfl ?_
    first | refine op_v (v_subb rfl rfl rfl (by omega)) rfl ?_ | refine op_v (v_sub rfl rfl) rfl ?_
    refine op_v (v_assign rfl) rfl ?_
    refine ops_nil ?_
    refine post_next ?_
    refine code_seq ?_
    refine code_region ?_
    refine op_v (v_move rfl) rfl ?_
    by_cases h0 : 0 ≤ -1 - x.2.head
    · first | refine op_v (v_cmptA rfl rfl rfl) rfl ?_ | refine op_v (v_cmpfA rfl rfl rfl) rfl ?_ | refine op_v (v_cmp rfl rfl rfl) rfl ?_
      refine op_v (v_move rfl) rfl ?_
      first
        | (refine op_want rfl rfl ?_
           refine op_v (v_loadA ty62 rfl rfl) rfl ?_)
        | (refine op_skip rfl rfl (by simp [undef]) rfl ?_)
      first
        | (refine op_want rfl rfl ?_
           refine op_v (v_move rfl) rfl ?_)
        | (refine op_skip rfl rfl (by simp [undef]) rfl ?_)
      first
        | (refine op_want rfl rfl ?_
           refine op_call pl92 rfl rfl ((Contains_does (by omega))) (Parts.one (Del.there (Del.there (Del.there Del.here)))) ?_
           rintro v19 I19 _ hI19 ⟨rfl, rfl⟩)
        | (refine op_skip rfl rfl (by simp [undef]) rfl ?_)
      by_cases hm : -1 - x.2.head ∈ varsP pre
      · rw [show decide (-1 - x.2.head ∈ varsP pre) = true by simpa using hm]
        first
          | (refine op_want rfl rfl ?_
             refine op_v (v_not rfl) rfl ?_)
          | (refine op_skip rfl rfl (by simp [undef]) rfl ?_)
        first | refine op_v (v_pickt rfl rfl) rfl ?_ | refine op_v (v_pickf rfl rfl) rfl ?_ | refine op_v (v_pickb rfl rfl rfl) rfl ?_
        refine ops_nil ?_
        refine post_next ?_
        refine code_cond_f rfl ?_
        refine code_skip ?_
        refine post_out ?_
        refine PostJ.view ((View.drop (Del.there Del.here)).trans (View.perm (List.perm_append_comm (l₁ := [_]) (l₂ := [_, _])))) ?_
        refine post_round Swap.here hrs hrp ⟨rfl, _, rfl, hin2, ar, cr, ?_⟩
        rw [varsP_snoc, if_neg (fun hh => hh.2 hm)]
        rfl
      · rw [show decide (-1 - x.2.head ∈ varsP pre) = false by simpa using hm]
        first
          | (refine op_want rfl rfl ?_
             refine op_v (v_not rfl) rfl ?_)
          | (refine op_skip rfl rfl (by simp [undef]) rfl ?_)
        first | refine op_v (v_pickt rfl rfl) rfl ?_ | refine op_v (v_pickf rfl rfl) rfl ?_ | refine op_v (v_pickb rfl rfl rfl) rfl ?_
        refine ops_nil ?_
        refine post_next ?_
        refine code_cond_t rfl ?_
        refine code_region ?_
        refine op_v (v_loadA ty62 rfl rfl) rfl ?_
        refine op_v (v_move rfl) rfl ?_
        refine o_buildSlice (xs := [(Go.Operand.tmp 23)]) Try.underlying62 bs3 rfl rfl rfl rfl rfl (fun b24 => ?_)
        refine o_append Try.underlying62 bs3 rfl rfl rfl (fun v' => by repeat (first | exact Swap.here | apply Swap.there)) (Src.ofRow (by repeat (first | exact Has.here | apply Has.there)) rfl) (by first | rfl | omega | simp) (by simp [cat, cellsL, Value.oneCell']) (by omega) (by omega) (fun a25 c25 => ?_)
        refine o_store ty62 rfl rfl rfl rfl rfl (by repeat (first | exact Swap.here | apply Swap.there)) rfl ?_
        refine ops_nil ?_
        refine post_out ?_
        refine PostJ.view ((View.drop Del.here).trans ((View.drop (Del.there Del.here)).trans (View.perm (List.perm_append_comm (l₁ := [_]) (l₂ := [_, _]))))) ?_
        refine post_round Swap.here hrs hrp ⟨rfl, _, rfl, hin2, a25, c25, ?_⟩
        rw [varsP_snoc, if_pos ⟨h0, hm⟩]
        simp [iRow, cat, cellsL]
    · first | refine op_v (v_cmptA rfl rfl rfl) rfl ?_ | refine op_v (v_cmpfA rfl rfl rfl) rfl ?_ | refine op_v (v_cmp rfl rfl rfl) rfl ?_
      refine op_v (v_move rfl) rfl ?_
      first
        | (refine op_want rfl rfl ?_
           refine op_v (v_loadA ty62 rfl rfl) rfl ?_)
        | (refine op_skip rfl rfl (by simp [undef]) rfl ?_)
      first
        | (refine op_want rfl rfl ?_
           refine op_v (v_move rfl) rfl ?_)
        | (refine op_skip rfl rfl (by simp [undef]) rfl ?_)
      first
        | (refine op_want rfl rfl ?_
           refine op_call pl92 rfl rfl ((Contains_does (by omega))) (Parts.one (Del.there (Del.there (Del.there Del.here)))) ?_
           rintro v19 I19 _ hI19 ⟨rfl, rfl⟩)
        | (refine op_skip rfl rfl (by simp [undef]) rfl ?_)
      first
        | (refine op_want rfl rfl ?_
           refine op_v (v_not rfl) rfl ?_)
        | (refine op_skip rfl rfl (by simp [undef]) rfl ?_)
      first | refine op_v (v_pickt rfl rfl) rfl ?_ | refine op_v (v_pickf rfl rfl) rfl ?_ | refine op_v (v_pickb rfl rfl rfl) rfl ?_
      refine ops_nil ?_
      refine post_next ?_
      refine code_cond_f rfl ?_
      refine code_skip ?_
      refine post_out ?_
      refine PostJ.view (View.drop Del.here) ?_
      refine post_round Swap.here hrs hrp ⟨rfl, _, rfl, hin2, ar, cr, ?_⟩
      rw [varsP_snoc, if_neg (fun hh => h0 hh.1)]
  · rintro blk I3 _ hI3 ⟨hin, ar, cr, rfl⟩
    refine post_out ?_
    refine post_next ?_
    refine code_seq ?_
    refine code_region ?_
    refine op_v (v_loadA ty62 rfl rfl) rfl ?_
    refine OpsJ.freezeRow (Del.there (Del.there (Del.there Del.here))) ?_
    rintro I26 ar' cr' hI26 hvr hcr hlr hcells
    cases hvr
    have hvl := varsP_len (partsT 1 t)
    rw [partsT_length] at hvl
    refine op_v (v_assign rfl) rfl ?_
    refine ops_nil ?_
    refine post_next ?_
    refine code_ret ?_
    refine post_ret (rs := [.tmp 2]) rfl (List.Perm.refl _) (.cons (.tmp rfl) .nil) (List.nil_sublist _) ?_
    exact ⟨RInts.of rfl hcr (by omega) hcells (varsP_in _ hin), rfl⟩

def badN (x : Nat × T) : Bool := (decide (x.2.head < 0) && decide (0 < x.2.args.length)) || decide (x.2.head < -256) || decide (1023 < x.2.head) || decide (8 < x.2.args.length)
def chkT (t : T) : Int := if 400 < t.size then 2 else if 40 < depT t then 7 else if (partsT 1 t).any badN then 1 else 0
theorem TCheck_does {I : Imm} {v : Value} {t : T} (hv : RepT I v t) (hbig : t.size ≤ 1000000000) :
    Does Try.prog 105 [v] I [] (fun v I' δ' => v = .int .i64 (chkT t) ∧ δ' = []) := by
  obtain ⟨ad, c, rfl, hr0⟩ := hv.shape
  refine Does.intro Try.func105 rfl Try.ntmps105 rfl fun w0 => ?_
  refine code_seq ?_
  refine code_region ?_
  refine o_box rfl rfl rfl (fun b1 => ?_)
  refine op_v (v_assign rfl) rfl ?_
  refine ops_nil ?_
  refine post_next ?_
  refine code_seq ?_
  refine code_region ?_
  refine o_alloc z3 rfl rfl (fun b3 => ?_)
  refine o_alloc z3 rfl rfl (fun b4 => ?_)
  refine o_alloc z4 rfl rfl (fun b5 => ?_)
  refine o_store ty3 rfl rfl rfl rfl rfl (by repeat (first | exact Swap.here | apply Swap.there)) rfl ?_
  refine o_store ty3 rfl rfl rfl rfl rfl (by repeat (first | exact Swap.here | apply Swap.there)) rfl ?_
  refine o_store ty4 rfl rfl rfl rfl rfl (by repeat (first | exact Swap.here | apply Swap.there)) rfl ?_
  refine ops_nil ?_
  refine post_next ?_
  refine code_seq ?_
  refine code_seq ?_
  refine code_region ?_
  refine op_v (v_loadA ty47 rfl rfl) rfl ?_
  refine op_call pl127 rfl rfl ((parts_does)) Parts.none ?_
  rintro v9 I9 _ hI9 ⟨b9, rfl, rfl⟩
  refine ops_nil ?_
  refine post_next ?_
  refine code_block ?_
  refine code_range (δb := [_, _, _]) (B := fun l I' δ' => δ' = [.box b5 4 [.bool (l.any badN)], .box b4 3 [.int .i64 (deepP l)], .box b3 3 [.int .i64 l.length]]) rfl rfl pl160 rfl (parts_iter (hv.mono hI9) hbig) (List.Perm.refl _) rfl (by rintro _ _ _ ⟨_, _, rfl, _⟩; rfl) (by rintro l I1 I2 _ hle rfl; rfl) ?_ ?_
  · rintro l r w1 pre x post I2 _ _ hrs hrp hx hI2 rfl ⟨xa, xc, rfl, hxv⟩
    have hpl := congrArg List.length hx
    simp only [partsT_length, List.length_append, List.length_cons] at hpl
    have hlen : ((pre ++ [x]).length : Int) = (pre.length : Int) + 1 := by simp
    have hdp : ((deepP (pre ++ [x]) : Nat) : Int) = max ((deepP pre : Nat) : Int) (x.1 : Int) := by rw [deepP_snoc]; omega
    have hany : (pre ++ [x]).any badN = (pre.any badN || badN x) := by simp
    refine code_seq ?_
    refine code_region ?_
    refine op_v (v_assign rfl) rfl ?_
    refine ops_nil ?_
    refine post_next ?_
    refine code_region ?_
    refine o_alloc z47 rfl rfl (fun b7 => ?_)
    refine o_store ty47 rfl rfl rfl rfl rfl (by repeat (first | exact Swap.here | apply Swap.there)) rfl ?_
    refine ops_nil ?_
    refine post_begin hrs (Swap.there Swap.here) ?_
    refine code_block ?_
    refine code_seq ?_
    refine code_draw (.fl 0 (.fl 1 (.fl 2 (.fl 3 (.fl 4 (.ef 5 (.ef 6 .done))))))) (two 2 [.box b3 3 [.int .i64 pre.length]] [.box b4 3 [.int .i64 (deepP pre)]]) mixed (by kernel_rfl) (by kernel_rfl) (two_sub (List.Sublist.cons _ (List.Sublist.cons _ (List.Sublist.cons _ (List.Sublist.cons _ (List.Sublist.refl _))))) (List.Sublist.cons _ (List.Sublist.cons _ (List.Sublist.cons _ (List.Sublist.cons_cons _ (List.nil_sublist _)))))) ?_
    refine e_float rfl rfl (fun hs_ => PF.mk rfl (v_loadA ty3 rfl rfl) hs_) Imm.leA (by intro x hx; change x ∈ [_] at hx; rw [List.mem_singleton] at hx; subst hx; simp) ?_
    first | refine e_float rfl rfl (fun hs_ => PF.mk rfl (v_addb rfl rfl rfl (by omega)) hs_) Imm.leA (by intro x hx; change x ∈ [_] at hx; rw [List.mem_singleton] at hx; subst hx; simp) ?_ | refine e_float rfl rfl (fun hs_ => PF.mk rfl (v_add rfl rfl) hs_) Imm.leA (by intro x hx; change x ∈ [_] at hx; rw [List.mem_singleton] at hx; subst hx; simp) ?_
    refine e_float rfl rfl (fun hs_ => PF.mk rfl (v_loadA ty3 rfl rfl) hs_) Imm.leA (by intro x hx; change x ∈ [_] at hx; rw [List.mem_singleton] at hx; subst hx; simp) ?_
    refine e_float rfl rfl (fun hs_ => PF.mk rfl (v_move rfl) hs_) Imm.leA (by intro x hx; change x ∈ [_] at hx; rw [List.mem_singleton] at hx; subst hx; simp) ?_
    refine e_float rfl rfl (fun hs_ => PF.mk rfl (v_max rfl rfl) hs_) Imm.leA (by intro x hx; change x ∈ [_] at hx; rw [List.mem_singleton] at hx; subst hx; simp) ?_
    refine e_eff rfl (by intro cs b hc; cases hc) (by intro c hc; cases hc) ?_
    refine o_store ty3 rfl rfl rfl rfl rfl (by repeat (first | exact Swap.here | apply Swap.there)) rfl ?_
    refine ops_nil ?_
    refine e_next_ (side_two (by kernel_rfl) (Imm.le_refl _) (by intro x hx; rw [List.mem_singleton] at hx; subst hx; simp)) ?_
    refine e_eff rfl (by intro cs b hc; cases hc) (by intro c hc; cases hc) ?_
    refine o_store ty3 rfl rfl rfl rfl rfl (by repeat (first | exact Swap.here | apply Swap.there)) rfl ?_
    refine ops_nil ?_
    refine e_next_ (side_nil (by kernel_rfl)) ?_
    refine e_done ?_
    refine post_next ?_
    refine code_region ?_
    refine op_v (v_loadA ty4 rfl rfl) rfl ?_
    by_cases hw : pre.any badN = true
    · rw [hw]
      refine op_v (v_move rfl) rfl ?_
      first
        | (refine op_want rfl rfl ?_
           first | refine op_v (v_fieldB 0 Try.underlying47 rfl rfl fz3 rfl) rfl ?_ | refine op_v (v_fieldI 0 Try.underlying47 rfl rfl fz3 rfl (by assumption)) rfl ?_ | refine op_v (v_field Try.underlying47 rfl fz3 rfl rfl) rfl ?_)
        | (refine op_skip rfl rfl (by simp [undef]) rfl ?_)
      first
        | (refine op_want rfl rfl ?_
           refine op_v (v_loadA ty3 rfl rfl) rfl ?_)
        | (refine op_skip rfl rfl (by simp [undef]) rfl ?_)
      first
        | (refine op_want rfl rfl ?_
           first | refine op_v (v_cmptA rfl rfl rfl) rfl ?_ | refine op_v (v_cmpfA rfl rfl rfl) rfl ?_ | refine op_v (v_cmp rfl rfl rfl) rfl ?_)
        | (refine op_skip rfl rfl (by simp [undef]) rfl ?_)
      first
        | (refine op_want rfl rfl ?_
           refine op_v (v_move rfl) rfl ?_)
        | (refine op_skip rfl rfl (by simp [undef]) rfl ?_)
      first
        | (refine op_want rfl rfl ?_
           first | refine op_v (v_fieldB 1 Try.underlying47 rfl rfl fz45 rfl) rfl ?_ | refine op_v (v_fieldI 1 Try.underlying47 rfl rfl fz45 rfl (by assumption)) rfl ?_ | refine op_v (v_field Try.underlying47 rfl fz45 rfl rfl) rfl ?_)
        | (refine op_skip rfl rfl (by simp [undef]) rfl ?_)
      first
        | (refine op_want rfl rfl ?_
           refine op_v (v_loadA ty45 rfl rfl) rfl ?_)
        | (refine op_skip rfl rfl (by simp [undef]) rfl ?_)
      first
        | (refine op_want rfl rfl ?_
           refine op_v (v_len Try.underlying45 rfl) rfl ?_)
        | (refine op_skip rfl rfl (by simp [undef]) rfl ?_)
      first
        | (refine op_want rfl rfl ?_
           first | refine op_v (v_cmptA rfl rfl rfl) rfl ?_ | refine op_v (v_cmpfA rfl rfl rfl) rfl ?_ | refine op_v (v_cmp rfl rfl rfl) rfl ?_)
        | (refine op_skip rfl rfl (by simp [undef]) rfl ?_)
      first
        | (refine op_want rfl rfl ?_
           first | refine op_v (v_pickt rfl rfl) rfl ?_ | refine op_v (v_pickf rfl rfl) rfl ?_ | refine op_v (v_pickb rfl rfl rfl) rfl ?_)
        | (refine op_skip rfl rfl (by simp [undef]) rfl ?_)
      first | refine op_v (v_pickt rfl rfl) rfl ?_ | refine op_v (v_pickf rfl rfl) rfl ?_ | refine op_v (v_pickb rfl rfl rfl) rfl ?_
      refine op_v (v_move rfl) rfl ?_
      first
        | (refine op_want rfl rfl ?_
           first | refine op_v (v_fieldB 0 Try.underlying47 rfl rfl fz3 rfl) rfl ?_ | refine op_v (v_fieldI 0 Try.underlying47 rfl rfl fz3 rfl (by assumption)) rfl ?_ | refine op_v (v_field Try.underlying47 rfl fz3 rfl rfl) rfl ?_)
        | (refine op_skip rfl rfl (by simp [undef]) rfl ?_)
      first
        | (refine op_want rfl rfl ?_
           refine op_v (v_loadA ty3 rfl rfl) rfl ?_)
        | (refine op_skip rfl rfl (by simp [undef]) rfl ?_)
      first
        | (refine op_want rfl rfl ?_
           first | refine op_v (v_cmptA rfl rfl rfl) rfl ?_ | refine op_v (v_cmpfA rfl rfl rfl) rfl ?_ | refine op_v (v_cmp rfl rfl rfl) rfl ?_)
        | (refine op_skip rfl rfl (by simp [undef]) rfl ?_)
      first | refine op_v (v_pickt rfl rfl) rfl ?_ | refine op_v (v_pickf rfl rfl) rfl ?_ | refine op_v (v_pickb rfl rfl rfl) rfl ?_
      refine op_v (v_move rfl) rfl ?_
      first
        | (refine op_want rfl rfl ?_
           first | refine op_v (v_fieldB 0 Try.underlying47 rfl rfl fz3 rfl) rfl ?_ | refine op_v (v_fieldI 0 Try.underlying47 rfl rfl fz3 rfl (by assumption)) rfl ?_ | refine op_v (v_field Try.underlying47 rfl fz3 rfl rfl) rfl ?_)
        | (refine op_skip rfl rfl (by simp [undef]) rfl ?_)
      first
        | (refine op_want rfl rfl ?_
           refine op_v (v_loadA ty3 rfl rfl) rfl ?_)
        | (refine op_skip rfl rfl (by simp [undef]) rfl ?_)
      first
        | (refine op_want rfl rfl ?_
           first | refine op_v (v_cmptA rfl rfl rfl) rfl ?_ | refine op_v (v_cmpfA rfl rfl rfl) rfl ?_ | refine op_v (v_cmp rfl rfl rfl) rfl ?_)
        | (refine op_skip rfl rfl (by simp [undef]) rfl ?_)
      first | refine op_v (v_pickt rfl rfl) rfl ?_ | refine op_v (v_pickf rfl rfl) rfl ?_ | refine op_v (v_pickb rfl rfl rfl) rfl ?_
      refine op_v (v_move rfl) rfl ?_
      first
        | (refine op_want rfl rfl ?_
           first | refine op_v (v_fieldB 1 Try.underlying47 rfl rfl fz45 rfl) rfl ?_ | refine op_v (v_fieldI 1 Try.underlying47 rfl rfl fz45 rfl (by assumption)) rfl ?_ | refine op_v (v_field Try.underlying47 rfl fz45 rfl rfl) rfl ?_)
        | (refine op_skip rfl rfl (by simp [undef]) rfl ?_)
      first
        | (refine op_want rfl rfl ?_
           refine op_v (v_loadA ty45 rfl rfl) rfl ?_)
        | (refine op_skip rfl rfl (by simp [undef]) rfl ?_)
      first
        | (refine op_want rfl rfl ?_
           refine op_v (v_len Try.underlying45 rfl) rfl ?_)
        | (refine op_skip rfl rfl (by simp [undef]) rfl ?_)
      first
        | (refine op_want rfl rfl ?_
           first | refine op_v (v_cmptA rfl rfl rfl) rfl ?_ | refine op_v (v_cmpfA rfl rfl rfl) rfl ?_ | refine op_v (v_cmp rfl rfl rfl) rfl ?_)
        | (refine op_skip rfl rfl (by simp [undef]) rfl ?_)
      first | refine op_v (v_pickt rfl rfl) rfl ?_ | refine op_v (v_pickf rfl rfl) rfl ?_ | refine op_v (v_pickb rfl rfl rfl) rfl ?_
      refine o_store ty4 rfl rfl rfl rfl rfl (by repeat (first | exact Swap.here | apply Swap.there)) rfl ?_
      refine ops_nil ?_
      refine post_out ?_
      refine PostJ.view (View.drop Del.here) ?_
      refine post_round Swap.here hrs hrp ⟨rfl, _, rfl, ?_⟩
      rw [hlen, hdp, hany]
      refine congrArg (fun q => [Ent.box b5 4 [.bool q], .box b4 3 [.int .i64 (max ((deepP pre : Nat) : Int) (x.1 : Int))], .box b3 3 [.int .i64 ((pre.length : Int) + 1)]]) (?_ : _ = (pre.any badN || badN x))
      clear hx hdp hany hlen hpl hv hxv hI9 hI2 hrs hrp
      rw [show pre.any badN = _ by assumption]
      simp [badN, *]
    · have hw' : pre.any badN = false := by simpa using hw
      rw [hw']
      refine op_v (v_move rfl) rfl ?_
      first
        | (refine op_want rfl rfl ?_
           first | refine op_v (v_fieldB 0 Try.underlying47 rfl rfl fz3 rfl) rfl ?_ | refine op_v (v_fieldI 0 Try.underlying47 rfl rfl fz3 rfl (by assumption)) rfl ?_ | refine op_v (v_field Try.underlying47 rfl fz3 rfl rfl) rfl ?_)
        | (refine op_skip rfl rfl (by simp [undef]) rfl ?_)
      first
        | (refine op_want rfl rfl ?_
           refine op_v (v_loadA ty3 rfl rfl) rfl ?_)
        | (refine op_skip rfl rfl (by simp [undef]) rfl ?_)
      by_cases h1 : x.2.head < 0
      · first
          | (refine op_want rfl rfl ?_
             first | refine op_v (v_cmptA rfl rfl rfl) rfl ?_ | refine op_v (v_cmpfA rfl rfl rfl) rfl ?_ | refine op_v (v_cmp rfl rfl rfl) rfl ?_)
          | (refine op_skip rfl rfl (by simp [undef]) rfl ?_)
        first
          | (refine op_want rfl rfl ?_
             refine op_v (v_move rfl) rfl ?_)
          | (refine op_skip rfl rfl (by simp [undef]) rfl ?_)
        first
          | (refine op_want rfl rfl ?_
             first | refine op_v (v_fieldB 1 Try.underlying47 rfl rfl fz45 rfl) rfl ?_ | refine op_v (v_fieldI 1 Try.underlying47 rfl rfl fz45 rfl (by assumption)) rfl ?_ | refine op_v (v_field Try.underlying47 rfl fz45 rfl rfl) rfl ?_)
          | (refine op_skip rfl rfl (by simp [undef]) rfl ?_)
        first
          | (refine op_want rfl rfl ?_
             refine op_v (v_loadA ty45 rfl rfl) rfl ?_)
          | (refine op_skip rfl rfl (by simp [undef]) rfl ?_)
        first
          | (refine op_want rfl rfl ?_
             refine op_v (v_len Try.underlying45 rfl) rfl ?_)
          | (refine op_skip rfl rfl (by simp [undef]) rfl ?_)
        by_cases h2 : 0 < x.2.args.length
        · first
            | (refine op_want rfl rfl ?_
               first | refine op_v (v_cmptA rfl rfl rfl) rfl ?_ | refine op_v (v_cmpfA rfl rfl rfl) rfl ?_ | refine op_v (v_cmp rfl rfl rfl) rfl ?_)
            | (refine op_skip rfl rfl (by simp [undef]) rfl ?_)
          first
            | (refine op_want rfl rfl ?_
               first | refine op_v (v_pickt rfl rfl) rfl ?_ | refine op_v (v_pickf rfl rfl) rfl ?_ | refine op_v (v_pickb rfl rfl rfl) rfl ?_)
            | (refine op_skip rfl rfl (by simp [undef]) rfl ?_)
          first | refine op_v (v_pickt rfl rfl) rfl ?_ | refine op_v (v_pickf rfl rfl) rfl ?_ | refine op_v (v_pickb rfl rfl rfl) rfl ?_
          refine op_v (v_move rfl) rfl ?_
          first
            | (refine op_want rfl rfl ?_
               first | refine op_v (v_fieldB 0 Try.underlying47 rfl rfl fz3 rfl) rfl ?_ | refine op_v (v_fieldI 0 Try.underlying47 rfl rfl fz3 rfl (by assumption)) rfl ?_ | refine op_v (v_field Try.underlying47 rfl fz3 rfl rfl) rfl ?_)
            | (refine op_skip rfl rfl (by simp [undef]) rfl ?_)
          first
            | (refine op_want rfl rfl ?_
               refine op_v (v_loadA ty3 rfl rfl) rfl ?_)
            | (refine op_skip rfl rfl (by simp [undef]) rfl ?_)
          first
            | (refine op_want rfl rfl ?_
               first | refine op_v (v_cmptA rfl rfl rfl) rfl ?_ | refine op_v (v_cmpfA rfl rfl rfl) rfl ?_ | refine op_v (v_cmp rfl rfl rfl) rfl ?_)
            | (refine op_skip rfl rfl (by simp [undef]) rfl ?_)
          first | refine op_v (v_pickt rfl rfl) rfl ?_ | refine op_v (v_pickf rfl rfl) rfl ?_ | refine op_v (v_pickb rfl rfl rfl) rfl ?_
          refine op_v (v_move rfl) rfl ?_
          first
            | (refine op_want rfl rfl ?_
               first | refine op_v (v_fieldB 0 Try.underlying47 rfl rfl fz3 rfl) rfl ?_ | refine op_v (v_fieldI 0 Try.underlying47 rfl rfl fz3 rfl (by assumption)) rfl ?_ | refine op_v (v_field Try.underlying47 rfl fz3 rfl rfl) rfl ?_)
            | (refine op_skip rfl rfl (by simp [undef]) rfl ?_)
          first
            | (refine op_want rfl rfl ?_
               refine op_v (v_loadA ty3 rfl rfl) rfl ?_)
            | (refine op_skip rfl rfl (by simp [undef]) rfl ?_)
          first
            | (refine op_want rfl rfl ?_
               first | refine op_v (v_cmptA rfl rfl rfl) rfl ?_ | refine op_v (v_cmpfA rfl rfl rfl) rfl ?_ | refine op_v (v_cmp rfl rfl rfl) rfl ?_)
            | (refine op_skip rfl rfl (by simp [undef]) rfl ?_)
          first | refine op_v (v_pickt rfl rfl) rfl ?_ | refine op_v (v_pickf rfl rfl) rfl ?_ | refine op_v (v_pickb rfl rfl rfl) rfl ?_
          refine op_v (v_move rfl) rfl ?_
          first
            | (refine op_want rfl rfl ?_
               first | refine op_v (v_fieldB 1 Try.underlying47 rfl rfl fz45 rfl) rfl ?_ | refine op_v (v_fieldI 1 Try.underlying47 rfl rfl fz45 rfl (by assumption)) rfl ?_ | refine op_v (v_field Try.underlying47 rfl fz45 rfl rfl) rfl ?_)
            | (refine op_skip rfl rfl (by simp [undef]) rfl ?_)
          first
            | (refine op_want rfl rfl ?_
               refine op_v (v_loadA ty45 rfl rfl) rfl ?_)
            | (refine op_skip rfl rfl (by simp [undef]) rfl ?_)
          first
            | (refine op_want rfl rfl ?_
               refine op_v (v_len Try.underlying45 rfl) rfl ?_)
            | (refine op_skip rfl rfl (by simp [undef]) rfl ?_)
          first
            | (refine op_want rfl rfl ?_
               first | refine op_v (v_cmptA rfl rfl rfl) rfl ?_ | refine op_v (v_cmpfA rfl rfl rfl) rfl ?_ | refine op_v (v_cmp rfl rfl rfl) rfl ?_)
            | (refine op_skip rfl rfl (by simp [undef]) rfl ?_)
          first | refine op_v (v_pickt rfl rfl) rfl ?_ | refine op_v (v_pickf rfl rfl) rfl ?_ | refine op_v (v_pickb rfl rfl rfl) rfl ?_
          refine o_store ty4 rfl rfl rfl rfl rfl (by repeat (first | exact Swap.here | apply Swap.there)) rfl ?_
          refine ops_nil ?_
          refine post_out ?_
          refine PostJ.view (View.drop Del.here) ?_
          refine post_round Swap.here hrs hrp ⟨rfl, _, rfl, ?_⟩
          rw [hlen, hdp, hany]
          refine congrArg (fun q => [Ent.box b5 4 [.bool q], .box b4 3 [.int .i64 (max ((deepP pre : Nat) : Int) (x.1 : Int))], .box b3 3 [.int .i64 ((pre.length : Int) + 1)]]) (?_ : _ = (pre.any badN || badN x))
          clear hx hdp hany hlen hpl hv hxv hI9 hI2 hrs hrp
          rw [show pre.any badN = _ by assumption]
          simp [badN, *]
        · first
            | (refine op_want rfl rfl ?_
               first | refine op_v (v_cmptA rfl rfl rfl) rfl ?_ | refine op_v (v_cmpfA rfl rfl rfl) rfl ?_ | refine op_v (v_cmp rfl rfl rfl) rfl ?_)
            | (refine op_skip rfl rfl (by simp [undef]) rfl ?_)
          first
            | (refine op_want rfl rfl ?_
               first | refine op_v (v_pickt rfl rfl) rfl ?_ | refine op_v (v_pickf rfl rfl) rfl ?_ | refine op_v (v_pickb rfl rfl rfl) rfl ?_)
            | (refine op_skip rfl rfl (by simp [undef]) rfl ?_)
          first | refine op_v (v_pickt rfl rfl) rfl ?_ | refine op_v (v_pickf rfl rfl) rfl ?_ | refine op_v (v_pickb rfl rfl rfl) rfl ?_
          refine op_v (v_move rfl) rfl ?_
          first
            | (refine op_want rfl rfl ?_
               first | refine op_v (v_fieldB 0 Try.underlying47 rfl rfl fz3 rfl) rfl ?_ | refine op_v (v_fieldI 0 Try.underlying47 rfl rfl fz3 rfl (by assumption)) rfl ?_ | refine op_v (v_field Try.underlying47 rfl fz3 rfl rfl) rfl ?_)
            | (refine op_skip rfl rfl (by simp [undef]) rfl ?_)
          first
            | (refine op_want rfl rfl ?_
               refine op_v (v_loadA ty3 rfl rfl) rfl ?_)
            | (refine op_skip rfl rfl (by simp [undef]) rfl ?_)
          by_cases h3 : x.2.head < -256
          · first
              | (refine op_want rfl rfl ?_
                 first | refine op_v (v_cmptA rfl rfl rfl) rfl ?_ | refine op_v (v_cmpfA rfl rfl rfl) rfl ?_ | refine op_v (v_cmp rfl rfl rfl) rfl ?_)
              | (refine op_skip rfl rfl (by simp [undef]) rfl ?_)
            first | refine op_v (v_pickt rfl rfl) rfl ?_ | refine op_v (v_pickf rfl rfl) rfl ?_ | refine op_v (v_pickb rfl rfl rfl) rfl ?_
            refine op_v (v_move rfl) rfl ?_
            first
              | (refine op_want rfl rfl ?_
                 first | refine op_v (v_fieldB 0 Try.underlying47 rfl rfl fz3 rfl) rfl ?_ | refine op_v (v_fieldI 0 Try.underlying47 rfl rfl fz3 rfl (by assumption)) rfl ?_ | refine op_v (v_field Try.underlying47 rfl fz3 rfl rfl) rfl ?_)
              | (refine op_skip rfl rfl (by simp [undef]) rfl ?_)
            first
              | (refine op_want rfl rfl ?_
                 refine op_v (v_loadA ty3 rfl rfl) rfl ?_)
              | (refine op_skip rfl rfl (by simp [undef]) rfl ?_)
            first
              | (refine op_want rfl rfl ?_
                 first | refine op_v (v_cmptA rfl rfl rfl) rfl ?_ | refine op_v (v_cmpfA rfl rfl rfl) rfl ?_ | refine op_v (v_cmp rfl rfl rfl) rfl ?_)
              | (refine op_skip rfl rfl (by simp [undef]) rfl ?_)
            first | refine op_v (v_pickt rfl rfl) rfl ?_ | refine op_v (v_pickf rfl rfl) rfl ?_ | refine op_v (v_pickb rfl rfl rfl) rfl ?_
            refine op_v (v_move rfl) rfl ?_
            first
              | (refine op_want rfl rfl ?_
                 first | refine op_v (v_fieldB 1 Try.underlying47 rfl rfl fz45 rfl) rfl ?_ | refine op_v (v_fieldI 1 Try.underlying47 rfl rfl fz45 rfl (by assumption)) rfl ?_ | refine op_v (v_field Try.underlying47 rfl fz45 rfl rfl) rfl ?_)
              | (refine op_skip rfl rfl (by simp [undef]) rfl ?_)
            first
              | (refine op_want rfl rfl ?_
                 refine op_v (v_loadA ty45 rfl rfl) rfl ?_)
              | (refine op_skip rfl rfl (by simp [undef]) rfl ?_)
            first
              | (refine op_want rfl rfl ?_
                 refine op_v (v_len Try.underlying45 rfl) rfl ?_)
              | (refine op_skip rfl rfl (by simp [undef]) rfl ?_)
            first
              | (refine op_want rfl rfl ?_
                 first | refine op_v (v_cmptA rfl rfl rfl) rfl ?_ | refine op_v (v_cmpfA rfl rfl rfl) rfl ?_ | refine op_v (v_cmp rfl rfl rfl) rfl ?_)
              | (refine op_skip rfl rfl (by simp [undef]) rfl ?_)
            first | refine op_v (v_pickt rfl rfl) rfl ?_ | refine op_v (v_pickf rfl rfl) rfl ?_ | refine op_v (v_pickb rfl rfl rfl) rfl ?_
            refine o_store ty4 rfl rfl rfl rfl rfl (by repeat (first | exact Swap.here | apply Swap.there)) rfl ?_
            refine ops_nil ?_
            refine post_out ?_
            refine PostJ.view (View.drop Del.here) ?_
            refine post_round Swap.here hrs hrp ⟨rfl, _, rfl, ?_⟩
            rw [hlen, hdp, hany]
            refine congrArg (fun q => [Ent.box b5 4 [.bool q], .box b4 3 [.int .i64 (max ((deepP pre : Nat) : Int) (x.1 : Int))], .box b3 3 [.int .i64 ((pre.length : Int) + 1)]]) (?_ : _ = (pre.any badN || badN x))
            clear hx hdp hany hlen hpl hv hxv hI9 hI2 hrs hrp
            rw [show pre.any badN = _ by assumption]
            simp [badN, *]
          · first
              | (refine op_want rfl rfl ?_
                 first | refine op_v (v_cmptA rfl rfl rfl) rfl ?_ | refine op_v (v_cmpfA rfl rfl rfl) rfl ?_ | refine op_v (v_cmp rfl rfl rfl) rfl ?_)
              | (refine op_skip rfl rfl (by simp [undef]) rfl ?_)
            first | refine op_v (v_pickt rfl rfl) rfl ?_ | refine op_v (v_pickf rfl rfl) rfl ?_ | refine op_v (v_pickb rfl rfl rfl) rfl ?_
            refine op_v (v_move rfl) rfl ?_
            first
              | (refine op_want rfl rfl ?_
                 first | refine op_v (v_fieldB 0 Try.underlying47 rfl rfl fz3 rfl) rfl ?_ | refine op_v (v_fieldI 0 Try.underlying47 rfl rfl fz3 rfl (by assumption)) rfl ?_ | refine op_v (v_field Try.underlying47 rfl fz3 rfl rfl) rfl ?_)
              | (refine op_skip rfl rfl (by simp [undef]) rfl ?_)
            first
              | (refine op_want rfl rfl ?_
                 refine op_v (v_loadA ty3 rfl rfl) rfl ?_)
              | (refine op_skip rfl rfl (by simp [undef]) rfl ?_)
            by_cases h4 : 1023 < x.2.head
            · first
                | (refine op_want rfl rfl ?_
                   first | refine op_v (v_cmptA rfl rfl rfl) rfl ?_ | refine op_v (v_cmpfA rfl rfl rfl) rfl ?_ | refine op_v (v_cmp rfl rfl rfl) rfl ?_)
                | (refine op_skip rfl rfl (by simp [undef]) rfl ?_)
              first | refine op_v (v_pickt rfl rfl) rfl ?_ | refine op_v (v_pickf rfl rfl) rfl ?_ | refine op_v (v_pickb rfl rfl rfl) rfl ?_
              refine op_v (v_move rfl) rfl ?_
              first
                | (refine op_want rfl rfl ?_
                   first | refine op_v (v_fieldB 1 Try.underlying47 rfl rfl fz45 rfl) rfl ?_ | refine op_v (v_fieldI 1 Try.underlying47 rfl rfl fz45 rfl (by assumption)) rfl ?_ | refine op_v (v_field Try.underlying47 rfl fz45 rfl rfl) rfl ?_)
                | (refine op_skip rfl rfl (by simp [undef]) rfl ?_)
              first
                | (refine op_want rfl rfl ?_
                   refine op_v (v_loadA ty45 rfl rfl) rfl ?_)
                | (refine op_skip rfl rfl (by simp [undef]) rfl ?_)
              first
                | (refine op_want rfl rfl ?_
                   refine op_v (v_len Try.underlying45 rfl) rfl ?_)
                | (refine op_skip rfl rfl (by simp [undef]) rfl ?_)
              first
                | (refine op_want rfl rfl ?_
                   first | refine op_v (v_cmptA rfl rfl rfl) rfl ?_ | refine op_v (v_cmpfA rfl rfl rfl) rfl ?_ | refine op_v (v_cmp rfl rfl rfl) rfl ?_)
                | (refine op_skip rfl rfl (by simp [undef]) rfl ?_)
              first | refine op_v (v_pickt rfl rfl) rfl ?_ | refine op_v (v_pickf rfl rfl) rfl ?_ | refine op_v (v_pickb rfl rfl rfl) rfl ?_
              refine o_store ty4 rfl rfl rfl rfl rfl (by repeat (first | exact Swap.here | apply Swap.there)) rfl ?_
              refine ops_nil ?_
              refine post_out ?_
              refine PostJ.view (View.drop Del.here) ?_
              refine post_round Swap.here hrs hrp ⟨rfl, _, rfl, ?_⟩
              rw [hlen, hdp, hany]
              refine congrArg (fun q => [Ent.box b5 4 [.bool q], .box b4 3 [.int .i64 (max ((deepP pre : Nat) : Int) (x.1 : Int))], .box b3 3 [.int .i64 ((pre.length : Int) + 1)]]) (?_ : _ = (pre.any badN || badN x))
              clear hx hdp hany hlen hpl hv hxv hI9 hI2 hrs hrp
              rw [show pre.any badN = _ by assumption]
              simp [badN, *]
            · first
                | (refine op_want rfl rfl ?_
                   first | refine op_v (v_cmptA rfl rfl rfl) rfl ?_ | refine op_v (v_cmpfA rfl rfl rfl) rfl ?_ | refine op_v (v_cmp rfl rfl rfl) rfl ?_)
                | (refine op_skip rfl rfl (by simp [undef]) rfl ?_)
              first | refine op_v (v_pickt rfl rfl) rfl ?_ | refine op_v (v_pickf rfl rfl) rfl ?_ | refine op_v (v_pickb rfl rfl rfl) rfl ?_
              refine op_v (v_move rfl) rfl ?_
              first
                | (refine op_want rfl rfl ?_
                   first | refine op_v (v_fieldB 1 Try.underlying47 rfl rfl fz45 rfl) rfl ?_ | refine op_v (v_fieldI 1 Try.underlying47 rfl rfl fz45 rfl (by assumption)) rfl ?_ | refine op_v (v_field Try.underlying47 rfl fz45 rfl rfl) rfl ?_)
                | (refine op_skip rfl rfl (by simp [undef]) rfl ?_)
              first
                | (refine op_want rfl rfl ?_
                   refine op_v (v_loadA ty45 rfl rfl) rfl ?_)
                | (refine op_skip rfl rfl (by simp [undef]) rfl ?_)
              first
                | (refine op_want rfl rfl ?_
                   refine op_v (v_len Try.underlying45 rfl) rfl ?_)
                | (refine op_skip rfl rfl (by simp [undef]) rfl ?_)
              by_cases h5 : 8 < x.2.args.length
              · first
                  | (refine op_want rfl rfl ?_
                     first | refine op_v (v_cmptA rfl rfl rfl) rfl ?_ | refine op_v (v_cmpfA rfl rfl rfl) rfl ?_ | refine op_v (v_cmp rfl rfl rfl) rfl ?_)
                  | (refine op_skip rfl rfl (by simp [undef]) rfl ?_)
                first | refine op_v (v_pickt rfl rfl) rfl ?_ | refine op_v (v_pickf rfl rfl) rfl ?_ | refine op_v (v_pickb rfl rfl rfl) rfl ?_
                refine o_store ty4 rfl rfl rfl rfl rfl (by repeat (first | exact Swap.here | apply Swap.there)) rfl ?_
                refine ops_nil ?_
                refine post_out ?_
                refine PostJ.view (View.drop Del.here) ?_
                refine post_round Swap.here hrs hrp ⟨rfl, _, rfl, ?_⟩
                rw [hlen, hdp, hany]
                refine congrArg (fun q => [Ent.box b5 4 [.bool q], .box b4 3 [.int .i64 (max ((deepP pre : Nat) : Int) (x.1 : Int))], .box b3 3 [.int .i64 ((pre.length : Int) + 1)]]) (?_ : _ = (pre.any badN || badN x))
                clear hx hdp hany hlen hpl hv hxv hI9 hI2 hrs hrp
                rw [show pre.any badN = _ by assumption]
                simp [badN, *]
              · first
                  | (refine op_want rfl rfl ?_
                     first | refine op_v (v_cmptA rfl rfl rfl) rfl ?_ | refine op_v (v_cmpfA rfl rfl rfl) rfl ?_ | refine op_v (v_cmp rfl rfl rfl) rfl ?_)
                  | (refine op_skip rfl rfl (by simp [undef]) rfl ?_)
                first | refine op_v (v_pickt rfl rfl) rfl ?_ | refine op_v (v_pickf rfl rfl) rfl ?_ | refine op_v (v_pickb rfl rfl rfl) rfl ?_
                refine o_store ty4 rfl rfl rfl rfl rfl (by repeat (first | exact Swap.here | apply Swap.there)) rfl ?_
                refine ops_nil ?_
                refine post_out ?_
                refine PostJ.view (View.drop Del.here) ?_
                refine post_round Swap.here hrs hrp ⟨rfl, _, rfl, ?_⟩
                rw [hlen, hdp, hany]
                refine congrArg (fun q => [Ent.box b5 4 [.bool q], .box b4 3 [.int .i64 (max ((deepP pre : Nat) : Int) (x.1 : Int))], .box b3 3 [.int .i64 ((pre.length : Int) + 1)]]) (?_ : _ = (pre.any badN || badN x))
                clear hx hdp hany hlen hpl hv hxv hI9 hI2 hrs hrp
                rw [show pre.any badN = _ by assumption]
                simp [badN, *]
      · first
          | (refine op_want rfl rfl ?_
             first | refine op_v (v_cmptA rfl rfl rfl) rfl ?_ | refine op_v (v_cmpfA rfl rfl rfl) rfl ?_ | refine op_v (v_cmp rfl rfl rfl) rfl ?_)
          | (refine op_skip rfl rfl (by simp [undef]) rfl ?_)
        first
          | (refine op_want rfl rfl ?_
             refine op_v (v_move rfl) rfl ?_)
          | (refine op_skip rfl rfl (by simp [undef]) rfl ?_)
        first
          | (refine op_want rfl rfl ?_
             first | refine op_v (v_fieldB 1 Try.underlying47 rfl rfl fz45 rfl) rfl ?_ | refine op_v (v_fieldI 1 Try.underlying47 rfl rfl fz45 rfl (by assumption)) rfl ?_ | refine op_v (v_field Try.underlying47 rfl fz45 rfl rfl) rfl ?_)
          | (refine op_skip rfl rfl (by simp [undef]) rfl ?_)
        first
          | (refine op_want rfl rfl ?_
             refine op_v (v_loadA ty45 rfl rfl) rfl ?_)
          | (refine op_skip rfl rfl (by simp [undef]) rfl ?_)
        first
          | (refine op_want rfl rfl ?_
             refine op_v (v_len Try.underlying45 rfl) rfl ?_)
          | (refine op_skip rfl rfl (by simp [undef]) rfl ?_)
        first
          | (refine op_want rfl rfl ?_
             first | refine op_v (v_cmptA rfl rfl rfl) rfl ?_ | refine op_v (v_cmpfA rfl rfl rfl) rfl ?_ | refine op_v (v_cmp rfl rfl rfl) rfl ?_)
          | (refine op_skip rfl rfl (by simp [undef]) rfl ?_)
        first
          | (refine op_want rfl rfl ?_
             first | refine op_v (v_pickt rfl rfl) rfl ?_ | refine op_v (v_pickf rfl rfl) rfl ?_ | refine op_v (v_pickb rfl rfl rfl) rfl ?_)
          | (refine op_skip rfl rfl (by simp [undef]) rfl ?_)
        first | refine op_v (v_pickt rfl rfl) rfl ?_ | refine op_v (v_pickf rfl rfl) rfl ?_ | refine op_v (v_pickb rfl rfl rfl) rfl ?_
        refine op_v (v_move rfl) rfl ?_
        first
          | (refine op_want rfl rfl ?_
             first | refine op_v (v_fieldB 0 Try.underlying47 rfl rfl fz3 rfl) rfl ?_ | refine op_v (v_fieldI 0 Try.underlying47 rfl rfl fz3 rfl (by assumption)) rfl ?_ | refine op_v (v_field Try.underlying47 rfl fz3 rfl rfl) rfl ?_)
          | (refine op_skip rfl rfl (by simp [undef]) rfl ?_)
        first
          | (refine op_want rfl rfl ?_
             refine op_v (v_loadA ty3 rfl rfl) rfl ?_)
          | (refine op_skip rfl rfl (by simp [undef]) rfl ?_)
        by_cases h3 : x.2.head < -256
        · first
            | (refine op_want rfl rfl ?_
               first | refine op_v (v_cmptA rfl rfl rfl) rfl ?_ | refine op_v (v_cmpfA rfl rfl rfl) rfl ?_ | refine op_v (v_cmp rfl rfl rfl) rfl ?_)
            | (refine op_skip rfl rfl (by simp [undef]) rfl ?_)
          first | refine op_v (v_pickt rfl rfl) rfl ?_ | refine op_v (v_pickf rfl rfl) rfl ?_ | refine op_v (v_pickb rfl rfl rfl) rfl ?_
          refine op_v (v_move rfl) rfl ?_
          first
            | (refine op_want rfl rfl ?_
               first | refine op_v (v_fieldB 0 Try.underlying47 rfl rfl fz3 rfl) rfl ?_ | refine op_v (v_fieldI 0 Try.underlying47 rfl rfl fz3 rfl (by assumption)) rfl ?_ | refine op_v (v_field Try.underlying47 rfl fz3 rfl rfl) rfl ?_)
            | (refine op_skip rfl rfl (by simp [undef]) rfl ?_)
          first
            | (refine op_want rfl rfl ?_
               refine op_v (v_loadA ty3 rfl rfl) rfl ?_)
            | (refine op_skip rfl rfl (by simp [undef]) rfl ?_)
          first
            | (refine op_want rfl rfl ?_
               first | refine op_v (v_cmptA rfl rfl rfl) rfl ?_ | refine op_v (v_cmpfA rfl rfl rfl) rfl ?_ | refine op_v (v_cmp rfl rfl rfl) rfl ?_)
            | (refine op_skip rfl rfl (by simp [undef]) rfl ?_)
          first | refine op_v (v_pickt rfl rfl) rfl ?_ | refine op_v (v_pickf rfl rfl) rfl ?_ | refine op_v (v_pickb rfl rfl rfl) rfl ?_
          refine op_v (v_move rfl) rfl ?_
          first
            | (refine op_want rfl rfl ?_
               first | refine op_v (v_fieldB 1 Try.underlying47 rfl rfl fz45 rfl) rfl ?_ | refine op_v (v_fieldI 1 Try.underlying47 rfl rfl fz45 rfl (by assumption)) rfl ?_ | refine op_v (v_field Try.underlying47 rfl fz45 rfl rfl) rfl ?_)
            | (refine op_skip rfl rfl (by simp [undef]) rfl ?_)
          first
            | (refine op_want rfl rfl ?_
               refine op_v (v_loadA ty45 rfl rfl) rfl ?_)
            | (refine op_skip rfl rfl (by simp [undef]) rfl ?_)
          first
            | (refine op_want rfl rfl ?_
               refine op_v (v_len Try.underlying45 rfl) rfl ?_)
            | (refine op_skip rfl rfl (by simp [undef]) rfl ?_)
          first
            | (refine op_want rfl rfl ?_
               first | refine op_v (v_cmptA rfl rfl rfl) rfl ?_ | refine op_v (v_cmpfA rfl rfl rfl) rfl ?_ | refine op_v (v_cmp rfl rfl rfl) rfl ?_)
            | (refine op_skip rfl rfl (by simp [undef]) rfl ?_)
          first | refine op_v (v_pickt rfl rfl) rfl ?_ | refine op_v (v_pickf rfl rfl) rfl ?_ | refine op_v (v_pickb rfl rfl rfl) rfl ?_
          refine o_store ty4 rfl rfl rfl rfl rfl (by repeat (first | exact Swap.here | apply Swap.there)) rfl ?_
          refine ops_nil ?_
          refine post_out ?_
          refine PostJ.view (View.drop Del.here) ?_
          refine post_round Swap.here hrs hrp ⟨rfl, _, rfl, ?_⟩
          rw [hlen, hdp, hany]
          refine congrArg (fun q => [Ent.box b5 4 [.bool q], .box b4 3 [.int .i64 (max ((deepP pre : Nat) : Int) (x.1 : Int))], .box b3 3 [.int .i64 ((pre.length : Int) + 1)]]) (?_ : _ = (pre.any badN || badN x))
          clear hx hdp hany hlen hpl hv hxv hI9 hI2 hrs hrp
          rw [show pre.any badN = _ by assumption]
          simp [badN, *]
        · first
            | (refine op_want rfl rfl ?_
               first | refine op_v (v_cmptA rfl rfl rfl) rfl ?_ | refine op_v (v_cmpfA rfl rfl rfl) rfl ?_ | refine op_v (v_cmp rfl rfl rfl) rfl ?_)
            | (refine op_skip rfl rfl (by simp [undef]) rfl ?_)
          first | refine op_v (v_pickt rfl rfl) rfl ?_ | refine op_v (v_pickf rfl rfl) rfl ?_ | refine op_v (v_pickb rfl rfl rfl) rfl ?_
          refine op_v (v_move rfl) rfl ?_
          first
            | (refine op_want rfl rfl ?_
               first | refine op_v (v_fieldB 0 Try.underlying47 rfl rfl fz3 rfl) rfl ?_ | refine op_v (v_fieldI 0 Try.underlying47 rfl rfl fz3 rfl (by assumption)) rfl ?_ | refine op_v (v_field Try.underlying47 rfl fz3 rfl rfl) rfl ?_)
            | (refine op_skip rfl rfl (by simp [undef]) rfl ?_)
          first
            | (refine op_want rfl rfl ?_
               refine op_v (v_loadA ty3 rfl rfl) rfl ?_)
            | (refine op_skip rfl rfl (by simp [undef]) rfl ?_)
          by_cases h4 : 1023 < x.2.head
          · first
              | (refine op_want rfl rfl ?_
                 first | refine op_v (v_cmptA rfl rfl rfl) rfl ?_ | refine op_v (v_cmpfA rfl rfl rfl) rfl ?_ | refine op_v (v_cmp rfl rfl rfl) rfl ?_)
              | (refine op_skip rfl rfl (by simp [undef]) rfl ?_)
            first | refine op_v (v_pickt rfl rfl) rfl ?_ | refine op_v (v_pickf rfl rfl) rfl ?_ | refine op_v (v_pickb rfl rfl rfl) rfl ?_
            refine op_v (v_move rfl) rfl ?_
            first
              | (refine op_want rfl rfl ?_
                 first | refine op_v (v_fieldB 1 Try.underlying47 rfl rfl fz45 rfl) rfl ?_ | refine op_v (v_fieldI 1 Try.underlying47 rfl rfl fz45 rfl (by assumption)) rfl ?_ | refine op_v (v_field Try.underlying47 rfl fz45 rfl rfl) rfl ?_)
              | (refine op_skip rfl rfl (by simp [undef]) rfl ?_)
            first
              | (refine op_want rfl rfl ?_
                 refine op_v (v_loadA ty45 rfl rfl) rfl ?_)
              | (refine op_skip rfl rfl (by simp [undef]) rfl ?_)
            first
              | (refine op_want rfl rfl ?_
                 refine op_v (v_len Try.underlying45 rfl) rfl ?_)
              | (refine op_skip rfl rfl (by simp [undef]) rfl ?_)
            first
              | (refine op_want rfl rfl ?_
                 first | refine op_v (v_cmptA rfl rfl rfl) rfl ?_ | refine op_v (v_cmpfA rfl rfl rfl) rfl ?_ | refine op_v (v_cmp rfl rfl rfl) rfl ?_)
              | (refine op_skip rfl rfl (by simp [undef]) rfl ?_)
            first | refine op_v (v_pickt rfl rfl) rfl ?_ | refine op_v (v_pickf rfl rfl) rfl ?_ | refine op_v (v_pickb rfl rfl rfl) rfl ?_
            refine o_store ty4 rfl rfl rfl rfl rfl (by repeat (first | exact Swap.here | apply Swap.there)) rfl ?_
            refine ops_nil ?_
            refine post_out ?_
            refine PostJ.view (View.drop Del.here) ?_
            refine post_round Swap.here hrs hrp ⟨rfl, _, rfl, ?_⟩
            rw [hlen, hdp, hany]
            refine congrArg (fun q => [Ent.box b5 4 [.bool q], .box b4 3 [.int .i64 (max ((deepP pre : Nat) : Int) (x.1 : Int))], .box b3 3 [.int .i64 ((pre.length : Int) + 1)]]) (?_ : _ = (pre.any badN || badN x))
            clear hx hdp hany hlen hpl hv hxv hI9 hI2 hrs hrp
            rw [show pre.any badN = _ by assumption]
            simp [badN, *]
          · first
              | (refine op_want rfl rfl ?_
                 first | refine op_v (v_cmptA rfl rfl rfl) rfl ?_ | refine op_v (v_cmpfA rfl rfl rfl) rfl ?_ | refine op_v (v_cmp rfl rfl rfl) rfl ?_)
              | (refine op_skip rfl rfl (by simp [undef]) rfl ?_)
            first | refine op_v (v_pickt rfl rfl) rfl ?_ | refine op_v (v_pickf rfl rfl) rfl ?_ | refine op_v (v_pickb rfl rfl rfl) rfl ?_
            refine op_v (v_move rfl) rfl ?_
            first
              | (refine op_want rfl rfl ?_
                 first | refine op_v (v_fieldB 1 Try.underlying47 rfl rfl fz45 rfl) rfl ?_ | refine op_v (v_fieldI 1 Try.underlying47 rfl rfl fz45 rfl (by assumption)) rfl ?_ | refine op_v (v_field Try.underlying47 rfl fz45 rfl rfl) rfl ?_)
              | (refine op_skip rfl rfl (by simp [undef]) rfl ?_)
            first
              | (refine op_want rfl rfl ?_
                 refine op_v (v_loadA ty45 rfl rfl) rfl ?_)
              | (refine op_skip rfl rfl (by simp [undef]) rfl ?_)
            first
              | (refine op_want rfl rfl ?_
                 refine op_v (v_len Try.underlying45 rfl) rfl ?_)
              | (refine op_skip rfl rfl (by simp [undef]) rfl ?_)
            by_cases h5 : 8 < x.2.args.length
            · first
                | (refine op_want rfl rfl ?_
                   first | refine op_v (v_cmptA rfl rfl rfl) rfl ?_ | refine op_v (v_cmpfA rfl rfl rfl) rfl ?_ | refine op_v (v_cmp rfl rfl rfl) rfl ?_)
                | (refine op_skip rfl rfl (by simp [undef]) rfl ?_)
              first | refine op_v (v_pickt rfl rfl) rfl ?_ | refine op_v (v_pickf rfl rfl) rfl ?_ | refine op_v (v_pickb rfl rfl rfl) rfl ?_
              refine o_store ty4 rfl rfl rfl rfl rfl (by repeat (first | exact Swap.here | apply Swap.there)) rfl ?_
              refine ops_nil ?_
              refine post_out ?_
              refine PostJ.view (View.drop Del.here) ?_
              refine post_round Swap.here hrs hrp ⟨rfl, _, rfl, ?_⟩
              rw [hlen, hdp, hany]
              refine congrArg (fun q => [Ent.box b5 4 [.bool q], .box b4 3 [.int .i64 (max ((deepP pre : Nat) : Int) (x.1 : Int))], .box b3 3 [.int .i64 ((pre.length : Int) + 1)]]) (?_ : _ = (pre.any badN || badN x))
              clear hx hdp hany hlen hpl hv hxv hI9 hI2 hrs hrp
              rw [show pre.any badN = _ by assumption]
              simp [badN, *]
            · first
                | (refine op_want rfl rfl ?_
                   first | refine op_v (v_cmptA rfl rfl rfl) rfl ?_ | refine op_v (v_cmpfA rfl rfl rfl) rfl ?_ | refine op_v (v_cmp rfl rfl rfl) rfl ?_)
                | (refine op_skip rfl rfl (by simp [undef]) rfl ?_)
              first | refine op_v (v_pickt rfl rfl) rfl ?_ | refine op_v (v_pickf rfl rfl) rfl ?_ | refine op_v (v_pickb rfl rfl rfl) rfl ?_
              refine o_store ty4 rfl rfl rfl rfl rfl (by repeat (first | exact Swap.here | apply Swap.there)) rfl ?_
              refine ops_nil ?_
              refine post_out ?_
              refine PostJ.view (View.drop Del.here) ?_
              refine post_round Swap.here hrs hrp ⟨rfl, _, rfl, ?_⟩
              rw [hlen, hdp, hany]
              refine congrArg (fun q => [Ent.box b5 4 [.bool q], .box b4 3 [.int .i64 (max ((deepP pre : Nat) : Int) (x.1 : Int))], .box b3 3 [.int .i64 ((pre.length : Int) + 1)]]) (?_ : _ = (pre.any badN || badN x))
              clear hx hdp hany hlen hpl hv hxv hI9 hI2 hrs hrp
              rw [show pre.any badN = _ by assumption]
              simp [badN, *]
  · rintro blk I3 _ hI3 rfl
    refine post_out ?_
    refine post_next ?_
    refine code_seq ?_
    refine code_block ?_
    refine code_seq ?_
    refine code_region ?_
    rw [dep_deep, partsT_length]
    refine op_v (v_loadA ty3 rfl rfl) rfl ?_
    by_cases hq1 : 400 < t.size
    · first | refine op_v (v_cmptA rfl rfl rfl) rfl ?_ | refine op_v (v_cmpfA rfl rfl rfl) rfl ?_ | refine op_v (v_cmp rfl rfl rfl) rfl ?_
      refine op_v (v_assign rfl) rfl ?_
      refine ops_nil ?_
      refine post_next ?_
      refine code_cond_t rfl ?_
      refine code_seq ?_
      refine code_region ?_
      refine op_v (v_assign rfl) rfl ?_
      refine ops_nil ?_
      refine post_next ?_
      refine code_ret ?_
      refine post_ret_block ?_
      refine post_ret_then ?_
      refine post_ret (rs := [.tmp 2]) rfl (List.Perm.refl _) (.cons (.tmp rfl) .nil) (List.nil_sublist _) ?_
      exact ⟨by simp [outV, chkT, *], rfl⟩
    · first | refine op_v (v_cmptA rfl rfl rfl) rfl ?_ | refine op_v (v_cmpfA rfl rfl rfl) rfl ?_ | refine op_v (v_cmp rfl rfl rfl) rfl ?_
      refine op_v (v_assign rfl) rfl ?_
      refine ops_nil ?_
      refine post_next ?_
      refine code_cond_f rfl ?_
      refine code_seq ?_
      refine code_region ?_
      refine op_v (v_loadA ty3 rfl rfl) rfl ?_
      by_cases hq2 : 40 < depT t
      · first | refine op_v (v_cmptA rfl rfl rfl) rfl ?_ | refine op_v (v_cmpfA rfl rfl rfl) rfl ?_ | refine op_v (v_cmp rfl rfl rfl) rfl ?_
        refine op_v (v_assign rfl) rfl ?_
        refine ops_nil ?_
        refine post_next ?_
        refine code_cond_t rfl ?_
        refine code_seq ?_
        refine code_region ?_
        refine op_v (v_assign rfl) rfl ?_
        refine ops_nil ?_
        refine post_next ?_
        refine code_ret ?_
        refine post_ret_block ?_
        refine post_ret_then ?_
        refine post_ret (rs := [.tmp 2]) rfl (List.Perm.refl _) (.cons (.tmp rfl) .nil) (List.nil_sublist _) ?_
        exact ⟨by simp [outV, chkT, *], rfl⟩
      · first | refine op_v (v_cmptA rfl rfl rfl) rfl ?_ | refine op_v (v_cmpfA rfl rfl rfl) rfl ?_ | refine op_v (v_cmp rfl rfl rfl) rfl ?_
        refine op_v (v_assign rfl) rfl ?_
        refine ops_nil ?_
        refine post_next ?_
        refine code_cond_f rfl ?_
        refine code_seq ?_
        refine code_region ?_
        by_cases hq3 : (partsT 1 t).any badN = true
        · rw [hq3]
          refine op_v (v_loadA ty4 rfl rfl) rfl ?_
          refine op_v (v_assign rfl) rfl ?_
          refine ops_nil ?_
          refine post_next ?_
          refine code_cond_t rfl ?_
          refine code_seq ?_
          refine code_region ?_
          refine op_v (v_assign rfl) rfl ?_
          refine ops_nil ?_
          refine post_next ?_
          refine code_ret ?_
          refine post_ret_block ?_
          refine post_ret_then ?_
          refine post_ret (rs := [.tmp 2]) rfl (List.Perm.refl _) (.cons (.tmp rfl) .nil) (List.nil_sublist _) ?_
          exact ⟨by simp [outV, chkT, *], rfl⟩
        · rw [show (partsT 1 t).any badN = false by simpa using hq3]
          refine op_v (v_loadA ty4 rfl rfl) rfl ?_
          refine op_v (v_assign rfl) rfl ?_
          refine ops_nil ?_
          refine post_next ?_
          refine code_cond_f rfl ?_
          refine code_skip ?_
          refine post_out ?_
          refine post_next ?_
          refine code_seq ?_
          refine code_region ?_
          refine op_v (v_assign rfl) rfl ?_
          refine ops_nil ?_
          refine post_next ?_
          refine code_ret ?_
          refine post_ret (rs := [.tmp 2]) rfl (List.Perm.refl _) (.cons (.tmp rfl) .nil) (List.nil_sublist _) ?_
          exact ⟨by simp [outV, chkT, *], rfl⟩
end Go.Proofs.Ytdbadicpbmndbaa
/- Walk: are two terms the same, by the program. -/
set_option linter.unusedVariables false
set_option linter.unusedSimpArgs false
/- short -/
namespace Go.Proofs.Ytdbadicpbmndbaa
open Go Lg

theorem RowT.take {I : Imm} {xs : List Value} {ts : List T} {x : T} (h : RowT I xs (ts ++ [x])) : RowT I (xs.take (ts.length * 2)) ts := by
  refine ⟨by rw [List.length_take, h.1]; simp only [List.length_append, List.length_cons, List.length_nil]; omega, fun i hi => ?_⟩
  obtain ⟨s, h1, h2, h3⟩ := h.2 i (by simp; omega)
  have e : (ts ++ [x])[i]'(by simp; omega) = ts[i] := List.getElem_append_left hi
  rw [e] at h1 h2 h3
  exact ⟨s, by rw [List.getElem?_take_of_lt (by omega)]; exact h1, by rw [List.getElem?_take_of_lt (by omega)]; exact h2, h3⟩
theorem RowT.last {I : Imm} {xs : List Value} {ts : List T} {x : T} (h : RowT I xs (ts ++ [x])) :
    ∃ s : Option Addr × Nat, ld true 2 (xs.drop (ts.length * 2)) = some (.agg #[.int .i64 x.head, .slice s.1 x.args.length s.2]) ∧ RepT I (.agg #[.int .i64 x.head, .slice s.1 x.args.length s.2]) x := by
  obtain ⟨s, h1, h2, h3⟩ := h.2 ts.length (by simp)
  have e : (ts ++ [x])[ts.length]'(by simp) = x := by simp
  rw [e] at h1 h2 h3
  refine ⟨s, ?_, h3⟩
  obtain ⟨l1, e1⟩ := List.getElem?_eq_some_iff.1 h1
  obtain ⟨l2, e2⟩ := List.getElem?_eq_some_iff.1 h2
  rw [List.drop_eq_getElem_cons l1, List.drop_eq_getElem_cons l2, e1, e2]
  rfl
/-- pairs of a stack of two rows -/
theorem same_cons {ls rs : List T} {x y : T} (hl : ls.length = rs.length) (hx : x.head = y.head) (hn : x.args.length = y.args.length) : (ls ++ [x] = rs ++ [y]) ↔ (ls ++ x.args = rs ++ y.args) := by
  constructor
  · intro h
    have := List.append_inj h hl
    obtain ⟨h1, h2⟩ := this
    simp at h2
    rw [h1, h2]
  · intro h
    obtain ⟨h1, h2⟩ := List.append_inj h hl
    obtain ⟨a, a2⟩ := x
    obtain ⟨b, b2⟩ := y
    simp only [T.head, T.args] at hx h2
    rw [h1, hx, h2]
theorem TSame_does {I : Imm} {v w : Value} {t u : T} (hv : RepT I v t) (hw : RepT I w u) (hbt : t.size ≤ 1000000000) (hbu : u.size ≤ 1000000000) :
    Does Try.prog 77 [v, w] I [] (fun v I' δ' => v = .bool (decide (t = u)) ∧ δ' = []) := by
  obtain ⟨ta, tc, rfl, _⟩ := hv.shape
  obtain ⟨ua, uc, rfl, _⟩ := hw.shape
  refine Does.intro Try.func77 rfl Try.ntmps77 rfl fun w0 => ?_
  refine code_seq ?_
  refine code_region ?_
  refine o_box rfl rfl rfl (fun b2 => ?_)
  refine o_box rfl rfl rfl (fun b3 => ?_)
  refine op_v (v_assign rfl) rfl ?_
  refine ops_nil ?_
  refine post_next ?_
  refine code_seq_meet (fun σ' I' δ' => ∃ b11 b13 : Nat, σ' = [(2, .pointer (some ⟨b2, 0, none⟩)), (3, .pointer (some ⟨b3, 0, none⟩)), (5, .slice (some ⟨b11, 0, none⟩) 1 1), (6, .slice (some ⟨b13, 0, none⟩) 1 1)] ∧ I = I' ∧ δ' = [.row (.slice (some ⟨b11, 0, none⟩) 1 1) 47 2 1 [.int .i64 t.head, .slice ta t.args.length tc], .row (.slice (some ⟨b13, 0, none⟩) 1 1) 47 2 1 [.int .i64 u.head, .slice ua u.args.length uc]]) ?_ ?_
  · refine code_draw (.fl 0 (.fl 2 (.two 1 3 (.fl 4 (.ef 3 (.ef 5 .done))) (.ef 1 (.ef 4 (.ef 5 .done)))))) (fun _ => [.box b3 47 [.int .i64 u.head, .slice ua u.args.length uc], .box b2 47 [.int .i64 t.head, .slice ta t.args.length tc]]) mixed (by kernel_rfl) (by kernel_rfl) (fun _ => (List.Sublist.refl _)) ?_
    refine e_float rfl rfl (fun hs_ => PF.mk rfl (v_loadA ty47 rfl rfl) hs_) Imm.leA (by intro x hx; simp only [List.mem_cons, List.not_mem_nil, or_false] at hx; rcases hx with rfl | rfl <;> simp [cellsL]) ?_
    refine e_float rfl rfl (fun hs_ => PF.mk rfl (v_loadA ty47 rfl rfl) hs_) Imm.leA (by intro x hx; simp only [List.mem_cons, List.not_mem_nil, or_false] at hx; rcases hx with rfl | rfl <;> simp [cellsL]) ?_
    refine e_two rfl (by intro cs b hc; cases hc) (by intro c hc; cases hc) rfl (by intro cs b hc; cases hc) (by intro c hc; cases hc) ?_ ?_
    · refine o_buildSlice (xs := [(Go.Operand.tmp 10)]) Try.underlying45 bs47 rfl rfl rfl rfl rfl (fun b11 => ?_)
      refine ops_nil ?_
      refine e_next rfl (side_all Imm.leA (fun _ => (by intro x hx; simp only [List.mem_cons, List.not_mem_nil, or_false] at hx; rcases hx with rfl | rfl <;> simp [cellsL]))) ?_
      refine e_float rfl rfl (fun hs_ => PF.mk rfl (v_assign rfl) hs_) Imm.leA (by intro x hx; simp only [List.mem_cons, List.not_mem_nil, or_false] at hx; rcases hx with rfl | rfl <;> simp [cellsL]) ?_
      refine e_eff rfl (by intro cs b hc; cases hc) (by intro c hc; cases hc) ?_
      refine o_buildSlice (xs := [(Go.Operand.tmp 12)]) Try.underlying45 bs47 rfl rfl rfl rfl rfl (fun b13 => ?_)
      refine ops_nil ?_
      refine e_next rfl (side_all Imm.leA (fun _ => (by intro x hx; simp only [List.mem_cons, List.not_mem_nil, or_false] at hx; rcases hx with rfl | rfl <;> simp [cellsL]))) ?_
      refine e_eff rfl (by intro cs b hc; cases hc) (by intro c hc; cases hc) ?_
      refine op_v (v_assign rfl) rfl ?_
      refine ops_nil ?_
      refine e_next rfl (side_nil (by kernel_rfl)) ?_
      refine e_done ?_
      refine PostJ.view ((View.perm (List.Perm.swap _ _ _)).trans (View.sub (List.Sublist.cons_cons _ (List.Sublist.cons_cons _ (List.nil_sublist _))))) ?_
      exact post_meet _ ⟨b11, b13, rfl, rfl, rfl⟩ ⟨rfl, rfl, rfl, rfl, trivial⟩
    · refine o_buildSlice (xs := [(Go.Operand.tmp 12)]) Try.underlying45 bs47 rfl rfl rfl rfl rfl (fun b13 => ?_)
      refine ops_nil ?_
      refine e_next rfl (side_all Imm.leA (fun _ => (by intro x hx; simp only [List.mem_cons, List.not_mem_nil, or_false] at hx; rcases hx with rfl | rfl <;> simp [cellsL]))) ?_
      refine e_eff rfl (by intro cs b hc; cases hc) (by intro c hc; cases hc) ?_
      refine o_buildSlice (xs := [(Go.Operand.tmp 10)]) Try.underlying45 bs47 rfl rfl rfl rfl rfl (fun b11 => ?_)
      refine ops_nil ?_
      refine e_next rfl (side_nil (by kernel_rfl)) ?_
      refine e_eff rfl (by intro cs b hc; cases hc) (by intro c hc; cases hc) ?_
      refine op_v (v_assign rfl) rfl ?_
      refine ops_nil ?_
      refine e_next rfl (side_nil (by kernel_rfl)) ?_
      refine e_eff rfl (by intro cs b hc; cases hc) (by intro c hc; cases hc) ?_
      refine op_v (v_assign rfl) rfl ?_
      refine ops_nil ?_
      refine e_next rfl (side_nil (by kernel_rfl)) ?_
      refine e_done ?_
      refine PostJ.view (View.sub (List.Sublist.cons_cons _ (List.Sublist.cons_cons _ (List.nil_sublist _)))) ?_
      exact post_meet _ ⟨b11, b13, rfl, rfl, rfl⟩ ⟨rfl, rfl, rfl, rfl, trivial⟩
  · rintro _ _ _ ⟨b11, b13, rfl, rfl, rfl⟩
    refine code_seq ?_
    refine code_block ?_
    refine code_loop (fun m σ' I' δ' => ∃ (ls rs : List T) (la ra : Option Addr) (lc rc : Nat) (xs ys : List Value), m = sizeL ls ∧ ls.length = rs.length ∧ σ' = [(5, .slice la ls.length lc), (6, .slice ra ls.length rc)] ∧ I.le I' ∧ δ' = [.row (.slice la ls.length lc) 47 2 ls.length xs, .row (.slice ra ls.length rc) 47 2 ls.length ys] ∧ RowT I' xs ls ∧ RowT I' ys rs ∧ sizeL ls ≤ t.size ∧ (t = u ↔ ls = rs)) (sizeL [t]) [(5, .slice (some ⟨b11, 0, none⟩) 1 1), (6, .slice (some ⟨b13, 0, none⟩) 1 1)] ⟨[t], [u], _, _, _, _, _, _, rfl, rfl, rfl, Imm.le_refl _, rfl, RowT.one hv, RowT.one hw, by simp [sizeL], by simp⟩ ⟨rfl, rfl, trivial⟩ ?_
    rintro m _ I0 _ ⟨ls, rs, la, ra, lc, rc, xs, ys, rfl, hlr, rfl, hI0, rfl, hrl, hrr, hsz, hiff⟩
    refine code_seq ?_
    refine code_seq ?_
    refine code_region ?_
    refine op_v (v_move rfl) rfl ?_
    refine op_v (v_len Try.underlying45 rfl) rfl ?_
    first | refine op_v (v_cmptA rfl rfl rfl) rfl ?_ | refine op_v (v_cmpfA rfl rfl rfl) rfl ?_ | refine op_v (v_cmp rfl rfl rfl) rfl ?_
    refine ops_nil ?_
    refine post_next ?_
    refine code_cond rfl (fun hc0 => ?_) (fun hc0 => ?_)
    · rcases List.eq_nil_or_concat ls with rfl | ⟨ls', x, rfl⟩
      · simp at hc0
      rcases List.eq_nil_or_concat rs with rfl | ⟨rs', y, rfl⟩
      · simp at hlr
      rw [List.concat_eq_append] at *
      rw [List.concat_eq_append] at *
      have hlen : (ls' ++ [x]).length = ls'.length + 1 := by simp
      have hlr' : ls'.length = rs'.length := by simpa using hlr
      rw [hlen]
      obtain ⟨⟨xa, xc⟩, hldx, hrx⟩ := hrl.last
      obtain ⟨⟨ya, yc⟩, hldy, hry⟩ := hrr.last
      rw [← hlr'] at hldy
      have hrl' := hrl.take
      have hrr' := hrr.take
      rw [← hlr'] at hrr'
      dsimp only at hldx hldy hrx hry
      have hszl := sizeL_len ls'
      have hszx := sizeL_len x.args
      have hsx : x.size = 1 + sizeL x.args := by cases x; simp [T.size, T.args]
      have hap := sizeL_app ls' [x]
      have hap2 := sizeL_app ls' x.args
      simp only [sizeL, Nat.add_zero] at hap
      refine code_skip ?_
      refine post_next ?_
      refine code_block ?_
      refine code_seq ?_
      refine code_region ?_
      refine OpsJ.rowSome Has.here (by omega) (fun hA hcl => ?_)
      refine OpsJ.rowSome (Has.there Has.here) (by omega) (fun hB hcr => ?_)
      refine op_v (v_move rfl) rfl ?_
      refine op_v (v_len Try.underlying45 rfl) rfl ?_
      first | refine op_v (v_subb rfl rfl rfl (by omega)) rfl ?_ | refine op_v (v_sub rfl rfl) rfl ?_
      rw [show ((ls'.length + 1 : Nat) : Int) - 1 = (ls'.length : Nat) by omega]
      refine op_v (v_assign rfl) rfl ?_
      refine ops_nil ?_
      refine post_next ?_
      refine code_seq_meet (fun σ' I' δ' => ∃ b8 b9 : Nat, σ' = [(5, .slice la (ls'.length + 1) lc), (6, .slice ra (ls'.length + 1) rc), (7, .int .i64 (ls'.length : Nat)), (8, .pointer (some ⟨b8, 0, none⟩)), (9, .pointer (some ⟨b9, 0, none⟩))] ∧ I0 = I' ∧ δ' = [.box b8 47 [.int .i64 x.head, .slice xa x.args.length xc], .box b9 47 [.int .i64 y.head, .slice ya y.args.length yc], .row (.slice la (ls'.length + 1) lc) 47 2 (ls'.length + 1) xs, .row (.slice ra (ls'.length + 1) rc) 47 2 (ls'.length + 1) ys]) ?_ ?_
      · refine code_draw (.fl 0 (.fl 1 (.fl 2 (.fl 3 (.fl 4 (.fl 5 (.fl 6 (.fl 7 (.two 8 9 (.ef 9 (.ef 10 (.ef 11 .done))) (.ef 8 (.ef 10 (.ef 11 .done)))))))))))) (fun _ => _) mixed (by kernel_rfl) (by kernel_rfl) (fun _ => (List.Sublist.refl _)) ?_
        refine e_fl rfl rfl (fun hs_ => PF.mk rfl (v_move rfl) hs_) ?_
        refine e_fl rfl rfl (fun hs_ => PF.mk rfl (v_move rfl) hs_) ?_
        first | refine e_fl rfl rfl (fun hs_ => PF.mk rfl (v_indexA Try.underlying45 sz47 rfl rfl) hs_) ?_ | refine e_fl rfl rfl (fun hs_ => PF.mk rfl (v_indexIA Try.underlying45 sz47 rfl rfl) hs_) ?_
        refine e_fl rfl rfl (fun hs_ => PF.mk rfl (v_loadRow ty47 rfl Has.here hA hldx) hs_) ?_
        refine e_fl rfl rfl (fun hs_ => PF.mk rfl (v_move rfl) hs_) ?_
        refine e_fl rfl rfl (fun hs_ => PF.mk rfl (v_move rfl) hs_) ?_
        first | refine e_fl rfl rfl (fun hs_ => PF.mk rfl (v_indexA Try.underlying45 sz47 rfl rfl) hs_) ?_ | refine e_fl rfl rfl (fun hs_ => PF.mk rfl (v_indexIA Try.underlying45 sz47 rfl rfl) hs_) ?_
        refine e_fl rfl rfl (fun hs_ => PF.mk rfl (v_loadRow ty47 rfl (Has.there Has.here) hB hldy) hs_) ?_
        refine e_two rfl (by intro cs b hc; cases hc) (by intro c hc; cases hc) rfl (by intro cs b hc; cases hc) (by intro c hc; cases hc) ?_ ?_
        · refine o_alloc z47 rfl rfl (fun b8 => ?_)
          refine ops_nil ?_
          refine e_next rfl side_allA ?_
          refine e_eff rfl (by intro cs b hc; cases hc) (by intro c hc; cases hc) ?_
          refine o_alloc z47 rfl rfl (fun b9 => ?_)
          refine ops_nil ?_
          refine e_next rfl side_allA ?_
          refine e_eff rfl (by intro cs b hc; cases hc) (by intro c hc; cases hc) ?_
          refine o_store ty47 rfl rfl rfl rfl rfl (by repeat (first | exact Swap.here | apply Swap.there)) rfl ?_
          refine ops_nil ?_
          refine e_next_ side_allA ?_
          refine e_eff rfl (by intro cs b hc; cases hc) (by intro c hc; cases hc) ?_
          refine o_store ty47 rfl rfl rfl rfl rfl (by repeat (first | exact Swap.here | apply Swap.there)) rfl ?_
          refine ops_nil ?_
          refine e_next_ (side_nil (by kernel_rfl)) ?_
          refine e_done ?_
          refine PostJ.view (View.perm (List.Perm.swap _ _ _)) ?_
          exact post_meet _ ⟨b8, b9, rfl, rfl, rfl⟩ ⟨rfl, rfl, rfl, rfl, rfl, trivial⟩
        · refine o_alloc z47 rfl rfl (fun b9 => ?_)
          refine ops_nil ?_
          refine e_next rfl side_allA ?_
          refine e_eff rfl (by intro cs b hc; cases hc) (by intro c hc; cases hc) ?_
          refine o_alloc z47 rfl rfl (fun b8 => ?_)
          refine ops_nil ?_
          refine e_next rfl side_allA ?_
          refine e_eff rfl (by intro cs b hc; cases hc) (by intro c hc; cases hc) ?_
          refine o_store ty47 rfl rfl rfl rfl rfl (by repeat (first | exact Swap.here | apply Swap.there)) rfl ?_
          refine ops_nil ?_
          refine e_next_ side_allA ?_
          refine e_eff rfl (by intro cs b hc; cases hc) (by intro c hc; cases hc) ?_
          refine o_store ty47 rfl rfl rfl rfl rfl (by repeat (first | exact Swap.here | apply Swap.there)) rfl ?_
          refine ops_nil ?_
          refine e_next_ (side_nil (by kernel_rfl)) ?_
          refine e_done ?_
          exact post_meet _ ⟨b8, b9, rfl, rfl, rfl⟩ ⟨rfl, rfl, rfl, rfl, rfl, trivial⟩
      · rintro _ _ _ ⟨b8, b9, rfl, rfl, rfl⟩
        refine code_seq ?_
        refine code_draw (.fl 0 (.fl 1 (.fl 2 (.fl 3 (.fl 4 (.fl 5 (.ef 6 (.ef 7 .done)))))))) (fun _ => _) mixed (by kernel_rfl) (by kernel_rfl) (fun _ => (List.Sublist.refl _)) ?_
        refine e_fl rfl rfl (fun hs_ => PF.mk rfl (v_move rfl) hs_) ?_
        refine e_fl rfl rfl (fun hs_ => PF.mk rfl (v_move rfl) hs_) ?_
        refine e_fl rfl rfl (fun hs_ => PF.mk rfl (v_sliceTo Try.underlying45 sz47 rfl rfl (by omega)) hs_) ?_
        refine e_fl rfl rfl (fun hs_ => PF.mk rfl (v_move rfl) hs_) ?_
        refine e_fl rfl rfl (fun hs_ => PF.mk rfl (v_move rfl) hs_) ?_
        refine e_fl rfl rfl (fun hs_ => PF.mk rfl (v_sliceTo Try.underlying45 sz47 rfl rfl (by omega)) hs_) ?_
        refine e_eff rfl (by intro cs b hc; cases hc) (by intro c hc; cases hc) ?_
        refine op_v (v_assign rfl) rfl ?_
        refine ops_nil ?_
        refine e_next rfl side_allA ?_
        refine e_eff rfl (by intro cs b hc; cases hc) (by intro c hc; cases hc) ?_
        refine op_v (v_assign rfl) rfl ?_
        refine ops_nil ?_
        refine e_next rfl (side_nil (by kernel_rfl)) ?_
        refine e_done ?_
        refine post_next ?_
        refine code_seq ?_
        refine code_seq ?_
        refine code_region ?_
        refine OpsJ.view ((View.short _ (Swap.there (Swap.there Swap.here)) (Nat.le_succ _)).trans (View.short _ (Swap.there (Swap.there (Swap.there Swap.here))) (Nat.le_succ _))) ?_
        first | refine op_v (v_fieldB 0 Try.underlying47 rfl rfl fz3 rfl) rfl ?_ | refine op_v (v_fieldI 0 Try.underlying47 rfl rfl fz3 rfl (by assumption)) rfl ?_ | refine op_v (v_field Try.underlying47 rfl fz3 rfl rfl) rfl ?_
        refine op_v (v_loadA ty3 rfl rfl) rfl ?_
        first | refine op_v (v_fieldB 0 Try.underlying47 rfl rfl fz3 rfl) rfl ?_ | refine op_v (v_fieldI 0 Try.underlying47 rfl rfl fz3 rfl (by assumption)) rfl ?_ | refine op_v (v_field Try.underlying47 rfl fz3 rfl rfl) rfl ?_
        refine op_v (v_loadA ty3 rfl rfl) rfl ?_
        by_cases hh : x.head ≠ y.head
        · first | refine op_v (v_cmptA rfl rfl rfl) rfl ?_ | refine op_v (v_cmpfA rfl rfl rfl) rfl ?_ | refine op_v (v_cmp rfl rfl rfl) rfl ?_
          refine op_v (v_move rfl) rfl ?_
          first
            | (refine op_want rfl rfl ?_
               first | refine op_v (v_fieldB 1 Try.underlying47 rfl rfl fz45 rfl) rfl ?_ | refine op_v (v_fieldI 1 Try.underlying47 rfl rfl fz45 rfl (by assumption)) rfl ?_ | refine op_v (v_field Try.underlying47 rfl fz45 rfl rfl) rfl ?_)
            | (refine op_skip rfl rfl (by simp [undef]) rfl ?_)
          first
            | (refine op_want rfl rfl ?_
               refine op_v (v_loadA ty45 rfl rfl) rfl ?_)
            | (refine op_skip rfl rfl (by simp [undef]) rfl ?_)
          first
            | (refine op_want rfl rfl ?_
               refine op_v (v_len Try.underlying45 rfl) rfl ?_)
            | (refine op_skip rfl rfl (by simp [undef]) rfl ?_)
          first
            | (refine op_want rfl rfl ?_
               first | refine op_v (v_fieldB 1 Try.underlying47 rfl rfl fz45 rfl) rfl ?_ | refine op_v (v_fieldI 1 Try.underlying47 rfl rfl fz45 rfl (by assumption)) rfl ?_ | refine op_v (v_field Try.underlying47 rfl fz45 rfl rfl) rfl ?_)
            | (refine op_skip rfl rfl (by simp [undef]) rfl ?_)
          first
            | (refine op_want rfl rfl ?_
               refine op_v (v_loadA ty45 rfl rfl) rfl ?_)
            | (refine op_skip rfl rfl (by simp [undef]) rfl ?_)
          first
            | (refine op_want rfl rfl ?_
               refine op_v (v_len Try.underlying45 rfl) rfl ?_)
            | (refine op_skip rfl rfl (by simp [undef]) rfl ?_)
          first
            | (refine op_want rfl rfl ?_
               first | refine op_v (v_cmptA rfl rfl rfl) rfl ?_ | refine op_v (v_cmpfA rfl rfl rfl) rfl ?_ | refine op_v (v_cmp rfl rfl rfl) rfl ?_)
            | (refine op_skip rfl rfl (by simp [undef]) rfl ?_)
          first | refine op_v (v_pickt rfl rfl) rfl ?_ | refine op_v (v_pickf rfl rfl) rfl ?_ | refine op_v (v_pickb rfl rfl rfl) rfl ?_
          refine ops_nil ?_
          refine post_next ?_
          refine code_cond_t rfl ?_
          refine code_seq ?_
          refine code_region ?_
          refine op_v (v_assign rfl) rfl ?_
          refine ops_nil ?_
          refine post_next ?_
          refine code_ret ?_
          refine post_ret_then ?_
          refine post_ret_block ?_
          refine post_ret_then ?_
          refine post_ret_block ?_
          refine post_ret_then ?_
          refine post_ret (rs := [.tmp 4]) rfl (List.Perm.refl _) (.cons (.tmp rfl) .nil) (List.nil_sublist _) ?_
          exact ⟨bool_f fun e => hh (by have := hiff.1 e; have := (List.append_inj this hlr').2; simp at this; rw [this]), rfl⟩
        · first | refine op_v (v_cmptA rfl rfl rfl) rfl ?_ | refine op_v (v_cmpfA rfl rfl rfl) rfl ?_ | refine op_v (v_cmp rfl rfl rfl) rfl ?_
          refine op_v (v_move rfl) rfl ?_
          first
            | (refine op_want rfl rfl ?_
               first | refine op_v (v_fieldB 1 Try.underlying47 rfl rfl fz45 rfl) rfl ?_ | refine op_v (v_fieldI 1 Try.underlying47 rfl rfl fz45 rfl (by assumption)) rfl ?_ | refine op_v (v_field Try.underlying47 rfl fz45 rfl rfl) rfl ?_)
            | (refine op_skip rfl rfl (by simp [undef]) rfl ?_)
          first
            | (refine op_want rfl rfl ?_
               refine op_v (v_loadA ty45 rfl rfl) rfl ?_)
            | (refine op_skip rfl rfl (by simp [undef]) rfl ?_)
          first
            | (refine op_want rfl rfl ?_
               refine op_v (v_len Try.underlying45 rfl) rfl ?_)
            | (refine op_skip rfl rfl (by simp [undef]) rfl ?_)
          first
            | (refine op_want rfl rfl ?_
               first | refine op_v (v_fieldB 1 Try.underlying47 rfl rfl fz45 rfl) rfl ?_ | refine op_v (v_fieldI 1 Try.underlying47 rfl rfl fz45 rfl (by assumption)) rfl ?_ | refine op_v (v_field Try.underlying47 rfl fz45 rfl rfl) rfl ?_)
            | (refine op_skip rfl rfl (by simp [undef]) rfl ?_)
          first
            | (refine op_want rfl rfl ?_
               refine op_v (v_loadA ty45 rfl rfl) rfl ?_)
            | (refine op_skip rfl rfl (by simp [undef]) rfl ?_)
          first
            | (refine op_want rfl rfl ?_
               refine op_v (v_len Try.underlying45 rfl) rfl ?_)
            | (refine op_skip rfl rfl (by simp [undef]) rfl ?_)
          by_cases hn : x.args.length ≠ y.args.length
          · first
              | (refine op_want rfl rfl ?_
                 first | refine op_v (v_cmptA rfl rfl rfl) rfl ?_ | refine op_v (v_cmpfA rfl rfl rfl) rfl ?_ | refine op_v (v_cmp rfl rfl rfl) rfl ?_)
              | (refine op_skip rfl rfl (by simp [undef]) rfl ?_)
            first | refine op_v (v_pickt rfl rfl) rfl ?_ | refine op_v (v_pickf rfl rfl) rfl ?_ | refine op_v (v_pickb rfl rfl rfl) rfl ?_
            refine ops_nil ?_
            refine post_next ?_
            refine code_cond_t rfl ?_
            refine code_seq ?_
            refine code_region ?_
            refine op_v (v_assign rfl) rfl ?_
            refine ops_nil ?_
            refine post_next ?_
            refine code_ret ?_
            refine post_ret_then ?_
            refine post_ret_block ?_
            refine post_ret_then ?_
            refine post_ret_block ?_
            refine post_ret_then ?_
            refine post_ret (rs := [.tmp 4]) rfl (List.Perm.refl _) (.cons (.tmp rfl) .nil) (List.nil_sublist _) ?_
            exact ⟨bool_f fun e => hn (by have := hiff.1 e; have := (List.append_inj this hlr').2; simp at this; rw [this]), rfl⟩
          · first
              | (refine op_want rfl rfl ?_
                 first | refine op_v (v_cmptA rfl rfl rfl) rfl ?_ | refine op_v (v_cmpfA rfl rfl rfl) rfl ?_ | refine op_v (v_cmp rfl rfl rfl) rfl ?_)
              | (refine op_skip rfl rfl (by simp [undef]) rfl ?_)
            first | refine op_v (v_pickt rfl rfl) rfl ?_ | refine op_v (v_pickf rfl rfl) rfl ?_ | refine op_v (v_pickb rfl rfl rfl) rfl ?_
            refine ops_nil ?_
            refine post_next ?_
            refine code_cond_f rfl ?_
            refine code_skip ?_
            refine post_next ?_
            refine code_draw (.fl 0 (.fl 1 (.fl 2 (.fl 4 (.fl 5 (.fl 6 (.ef 3 (.ef 7 (.ef 8 (.ef 9 .done)))))))))) (fun _ => [.box b8 47 [.int .i64 x.head, .slice xa x.args.length xc], .box b9 47 [.int .i64 y.head, .slice ya y.args.length yc]]) mixed (by kernel_rfl) (by kernel_rfl) (fun _ => (List.Sublist.cons_cons _ (List.Sublist.cons_cons _ (List.nil_sublist _)))) ?_
            refine e_fl rfl rfl (fun hs_ => PF.mk rfl (v_move rfl) hs_) ?_
            first | refine e_fl rfl rfl (fun hs_ => PF.mk rfl (v_fieldB 1 Try.underlying47 rfl rfl fz45 rfl) hs_) ?_ | refine e_fl rfl rfl (fun hs_ => PF.mk rfl (v_fieldI 1 Try.underlying47 rfl rfl fz45 rfl (by assumption)) hs_) ?_ | refine e_fl rfl rfl (fun hs_ => PF.mk rfl (v_field Try.underlying47 rfl fz45 rfl rfl) hs_) ?_
            refine e_fl rfl rfl (fun hs_ => PF.mk rfl (v_loadA ty45 rfl rfl) hs_) ?_
            refine e_fl rfl rfl (fun hs_ => PF.mk rfl (v_move rfl) hs_) ?_
            first | refine e_fl rfl rfl (fun hs_ => PF.mk rfl (v_fieldB 1 Try.underlying47 rfl rfl fz45 rfl) hs_) ?_ | refine e_fl rfl rfl (fun hs_ => PF.mk rfl (v_fieldI 1 Try.underlying47 rfl rfl fz45 rfl (by assumption)) hs_) ?_ | refine e_fl rfl rfl (fun hs_ => PF.mk rfl (v_field Try.underlying47 rfl fz45 rfl rfl) hs_) ?_
            refine e_fl rfl rfl (fun hs_ => PF.mk rfl (v_loadA ty45 rfl rfl) hs_) ?_
            refine e_eff rfl (by intro cs b hc; cases hc) (by intro c hc; cases hc) ?_
            obtain ⟨_, _, _, _, hubx, ssx, huax, husubx⟩ := hrx.open
            obtain ⟨_, _, _, _, huby, ssy, huay, husuby⟩ := hry.open
            obtain ⟨hcx, hrowx⟩ := RowT.of huax husubx
            obtain ⟨hcy, hrowy⟩ := RowT.of huay husuby
            have hh' : x.head = y.head := by omega
            have hn' : x.args.length = y.args.length := by omega
            refine o_append Try.underlying45 bs47 rfl rfl rfl (fun v' => by repeat (first | exact Swap.here | apply Swap.there)) (Src.ofI hcx) (rowsT_length _ _) (rowsT_one _ _) (by omega) (by omega) (fun a51 c51 => ?_)
            refine ops_nil ?_
            refine e_next rfl side_allA ?_
            refine e_eff rfl (by intro cs b hc; cases hc) (by intro c hc; cases hc) ?_
            refine o_append Try.underlying45 bs47 rfl rfl rfl (fun v' => by repeat (first | exact Swap.here | apply Swap.there)) (Src.ofI hcy) (rowsT_length _ _) (rowsT_one _ _) (by omega) (by omega) (fun a55 c55 => ?_)
            refine ops_nil ?_
            refine e_next rfl side_allA ?_
            refine e_eff rfl (by intro cs b hc; cases hc) (by intro c hc; cases hc) ?_
            refine op_v (v_assign rfl) rfl ?_
            refine ops_nil ?_
            refine e_next rfl side_allA ?_
            refine e_eff rfl (by intro cs b hc; cases hc) (by intro c hc; cases hc) ?_
            refine op_v (v_assign rfl) rfl ?_
            refine ops_nil ?_
            refine e_next rfl (side_nil (by kernel_rfl)) ?_
            refine e_done ?_
            refine post_out ?_
            refine PostJ.view ((View.drop Del.here).trans (View.drop Del.here)) ?_
            rw [← hn']
            have hl1 : ls'.length + x.args.length = (ls' ++ x.args).length := by simp
            rw [hl1]
            refine post_again (sizeL (ls' ++ x.args)) [(5, .slice a51 (ls' ++ x.args).length c51), (6, .slice a55 (ls' ++ x.args).length c55)] (by omega) ⟨ls' ++ x.args, rs' ++ y.args, a51, a55, c51, c55, _, _, rfl, by simp; omega, rfl, hI0, rfl, hrl'.app hrowx, hrr'.app hrowy, by omega, hiff.trans (same_cons hlr' hh' hn')⟩ ⟨rfl, rfl, trivial⟩
    · have hls : ls = [] := by simpa using hc0
      subst hls
      have hrs : rs = [] := List.eq_nil_of_length_eq_zero (by simpa using hlr.symm)
      refine code_exit ?_
      refine post_exit_then ?_
      refine post_exit_then ?_
      refine post_exit ?_
      refine post_next ?_
      refine code_seq ?_
      refine code_region ?_
      refine op_v (v_assign rfl) rfl ?_
      refine ops_nil ?_
      refine post_next ?_
      refine code_ret ?_
      refine post_ret (rs := [.tmp 4]) rfl (List.Perm.refl _) (.cons (.tmp rfl) .nil) (List.nil_sublist _) ?_
      exact ⟨bool_t (hiff.2 hrs.symm), rfl⟩
end Go.Proofs.Ytdbadicpbmndbaa
/- Walk: how two terms stand, by the program. -/
set_option linter.unusedVariables false
set_option linter.unusedSimpArgs false
/- short -/
namespace Go.Proofs.Ytdbadicpbmndbaa
open Go Lg

/-! ### a scope of labels that nothing jumps to -/
def NoGoto (Q : Exit → Act → World → Prop) : Exit → Act → World → Prop
  | .goto _, _, _ => False
  | e, a, w => Q e a w
theorem stepR_scope {P : Program} {b : Frame} {a : Act} {k : List Item} {cs : List Frame} {w : World} {c : Code} : step P (lone (b.atR a (.code (.scope c) :: k)) cs w) = .next (lone (b.atR a (.code c :: .inScope c :: k)) cs w) :=
  step_lone_go (by simp [stepG, stepG.exec, Frame.atR])
theorem stepR_inScope {P : Program} {b : Frame} {a : Act} {k : List Item} {cs : List Frame} {w : World} {c : Code} : step P (lone (b.atR a (.inScope c :: k)) cs w) = .next (lone (b.atR a k) cs w) :=
  step_lone_go (by simp [stepG, stepG.exec, Frame.atR])
theorem wpIn_scope {F : Fence} {n : Nat} {P : Program} {c : Code} {Q : Exit → Act → World → Prop} {a : Act} {w : World} (h : c.wpIn F n P (NoGoto Q) a w) : (Code.scope c).wpIn F n P Q a w := by
  intro b k cs hro hb hr
  have h0 : (lone (b.atR a (.code (.scope c) :: k)) cs w).fenced P F := fenced_calm hb hr rfl
  obtain ⟨e, a₁, w₁, hq, harr⟩ := h b (.inScope c :: k) cs hro hb hr
  cases e with
  | normal => exact ⟨.normal, a₁, w₁, hq, .head h0 stepR_scope (StepsIn.trans harr (.one (fenced_calm hb hr rfl) stepR_inScope))⟩
  | exit id =>
    have hx : exitTo id (.inScope c :: k) = exitTo id k := by simp [exitTo]
    exact ⟨.exit id, a₁, w₁, hq, fun k' hk => .head h0 stepR_scope (harr.1 k' (by rw [hx]; exact hk)),
      fun hr' hk => let ⟨k₁, h1, h2⟩ := harr.2 hr' (by rw [hx]; exact hk); ⟨k₁, h1, .head h0 stepR_scope h2⟩⟩
  | goto l => exact hq.elim
  | ret => exact ⟨_, a₁, w₁, hq, .of_steps (.one h0 stepR_scope) harr⟩
  | panic ch => exact ⟨_, a₁, w₁, hq, .of_steps (.one h0 stepR_scope) harr⟩
  | outgrown => exact ⟨_, a₁, w₁, hq, .of_steps (.one h0 stepR_scope) harr⟩
theorem Lg.code_scope {C : Ctx} {Q : Exit → Act → World → Prop} {σ : Env} {ds : List Nat} {I : Imm} {δ : List Ent} {c : Code} (h : CodeJ C c (NoGoto Q) σ ds I δ) : CodeJ C (.scope c) Q σ ds I δ :=
  fun a w he hs ht => wpIn_scope (h a w he hs ht)
theorem Lg.post_scope {C : Ctx} {Q : Exit → Act → World → Prop} {σ : Env} {ds : List Nat} {I : Imm} {δ : List Ent} {e : Exit} (hne : ∀ l, e ≠ .goto l) (h : PostJ C Q e σ ds I δ) : PostJ C (NoGoto Q) e σ ds I δ := by
  intro a w he hs ht
  cases e with
  | goto l => exact absurd rfl (hne l)
  | normal => exact h a w he hs ht
  | exit id => exact h a w he hs ht
  | ret => exact h a w he hs ht
  | panic ch => exact h a w he hs ht
  | outgrown => exact h a w he hs ht

/-! ### the model -/
theorem ordI_ne {a b : Int} (h : a ≠ b) : ordI a b ≠ 0 := fun e => h (ordI_zero e)
theorem ordI_self (a : Int) : ordI a a = 0 := by simp [ordI]
theorem size_eqT (t : T) : t.size = 1 + sizeL t.args := by cases t; simp [T.size, T.args]
theorem cmp_or (a b : T) : cmpT a b = if orI [ordI a.size b.size, ordI a.head b.head, ordI a.args.length b.args.length] ≠ 0 then orI [ordI a.size b.size, ordI a.head b.head, ordI a.args.length b.args.length] else cmpL a.args b.args := by
  obtain ⟨h, as'⟩ := a
  obtain ⟨g, bs'⟩ := b
  simp only [T.head, T.args, T.size, cmpT, orI]
  by_cases h1 : 1 + sizeL as' = 1 + sizeL bs'
  · by_cases h2 : h = g
    · by_cases h3 : as'.length = bs'.length
      · simp [h1, h2, h3, ordI_self]
      · have := ordI_ne (a := as'.length) (b := bs'.length) (by omega)
        simp [h1, h2, h3, ordI_self, this]
    · have := ordI_ne h2
      simp [h1, h2, ordI_self, this]
  · have := ordI_ne (a := ((1 + sizeL as' : Nat) : Int)) (b := ((1 + sizeL bs' : Nat) : Int)) (by omega)
    simp only [h1, ne_eq, not_false_eq_true, if_true, this]
theorem or_zero {a b : T} (h : orI [ordI a.size b.size, ordI a.head b.head, ordI a.args.length b.args.length] = 0) : a.args.length = b.args.length := by
  simp only [orI] at h
  by_cases h1 : ordI a.size b.size = 0
  · by_cases h2 : ordI a.head b.head = 0
    · by_cases h3 : ordI a.args.length b.args.length = 0
      · have := ordI_zero h3; omega
      · simp [h1, h2, h3] at h
    · simp [h1, h2] at h
  · simp [h1] at h
theorem ordI_in (a b : Int) : InR (ordI a b) := by have := ordI_range a b; unfold InR; omega

end Go.Proofs.Ytdbadicpbmndbaa
/- Walks: a symbol among others, a signature's rightness. -/
set_option linter.unusedVariables false
set_option linter.unusedSimpArgs false
/- short -/
namespace Go.Proofs.Ytdbadicpbmndbaa
open Go Lg

/-- the place of the first one of which something is so -/
def idxP (p : Sy → Bool) : List Sy → Int
  | [] => -1
  | s :: r => if p s then 0 else if idxP p r < 0 then -1 else idxP p r + 1
theorem idxP_range (p : Sy → Bool) : ∀ gs : List Sy, -1 ≤ idxP p gs ∧ idxP p gs < gs.length
  | [] => by simp [idxP]
  | s :: r => by have := idxP_range p r; simp only [idxP, List.length_cons]; split <;> (try split) <;> omega
theorem idxP_none (p : Sy → Bool) : ∀ gs : List Sy, gs.any p = false → idxP p gs = -1
  | [], _ => rfl
  | s :: r, h => by simp only [List.any_cons, Bool.or_eq_false_iff] at h; simp [idxP, h.1, idxP_none p r h.2]
theorem idxP_hit (p : Sy → Bool) : ∀ (gs : List Sy) (k : Nat) (h : k < gs.length), (gs.take k).any p = false → p gs[k] = true → idxP p gs = k
  | s :: r, 0, _, _, hk => by simp at hk; simp [idxP, hk]
  | s :: r, k + 1, h, hp, hk => by
    simp only [List.take_succ_cons, List.any_cons, Bool.or_eq_false_iff] at hp
    have := idxP_hit p r k (by simpa using h) hp.2 (by simpa using hk)
    simp only [idxP, hp.1, Bool.false_eq_true, if_false, this]
    rw [if_neg (by omega)]; omega
theorem idxP_any (p : Sy → Bool) : ∀ gs : List Sy, 0 ≤ idxP p gs ↔ gs.any p = true
  | [] => by simp [idxP]
  | s :: r => by
    have h1 := idxP_any p r
    have h2 := idxP_range p r
    simp only [idxP, List.any_cons, Bool.or_eq_true, ← h1]
    by_cases h : p s = true
    · simp [h]
    · simp only [h, Bool.false_eq_true, if_false, false_or]; split <;> omega
theorem any_take_succ {p : Sy → Bool} {gs : List Sy} {k : Nat} (h : k < gs.length) (hp : (gs.take k).any p = false) (hk : p gs[k] = false) : (gs.take (k + 1)).any p = false := by
  rw [List.take_succ_eq_append_getElem h, List.any_append, hp]; simp [hk]

theorem IndexFunc_does {I : Imm} {v fv : Value} {gs : List Sy} {δf : List Ent} {p : Sy → Bool} (hv : RepG I v gs) (hf : ∀ J s, I.le J → FDoes Try.prog fv [s.v] J δf (fun v _ δ' => v = .bool (p s) ∧ δ' = δf)) :
    Does Try.prog 162 [v, fv] I δf (fun v _ δ' => v = .int .i64 (idxP p gs) ∧ δ' = δf) := by
  obtain ⟨ad, c, rfl⟩ := hv.shape
  obtain ⟨_, hc, hb, hat, hok⟩ := hv.open
  refine Does.intro Try.func162 rfl Try.ntmps162 rfl fun w0 => ?_
  refine code_seq ?_
  refine code_region ?_
  refine op_v (v_assign rfl) rfl ?_
  refine ops_nil ?_
  refine post_next ?_
  refine code_seq ?_
  refine code_seq ?_
  refine code_region ?_
  refine op_v (v_move rfl) rfl ?_
  refine op_v (v_len Try.underlying22 rfl) rfl ?_
  refine op_v (v_move rfl) rfl ?_
  refine ops_nil ?_
  refine post_next ?_
  refine code_block ?_
  refine code_loop (fun m σ' I' δ' => ∃ k : Nat, m = gs.length - k ∧ k ≤ gs.length ∧ σ' = [(0, .slice ad gs.length c), (1, fv), (7, .int .i64 gs.length), (8, .int .i64 k)] ∧ I.le I' ∧ δ' = δf ∧ (gs.take k).any p = false) gs.length [(0, .slice ad gs.length c), (1, fv), (7, .int .i64 gs.length), (8, .int .i64 (0 : Nat))] ⟨0, rfl, Nat.zero_le _, rfl, Imm.le_refl _, rfl, rfl⟩ ⟨rfl, rfl, rfl, rfl, trivial⟩ ?_
  rintro m _ I0 _ ⟨k, rfl, hk, rfl, hI0, rfl, hp⟩
  refine code_seq ?_
  refine code_region ?_
  first | refine op_v (v_cmptA rfl rfl rfl) rfl ?_ | refine op_v (v_cmpfA rfl rfl rfl) rfl ?_ | refine op_v (v_cmp rfl rfl rfl) rfl ?_
  refine ops_nil ?_
  refine post_next ?_
  refine code_seq ?_
  refine code_cond rfl (fun hc0 => ?_) (fun hc0 => ?_)
  · have hlt : k < gs.length := by simpa using hc0
    have hs1 := (hat k hlt).isSome
    refine code_skip ?_
    refine post_next ?_
    refine code_seq ?_
    refine code_block ?_
    refine code_seq ?_
    refine code_region ?_
    refine op_v (v_move rfl) rfl ?_
    refine op_v (v_assign rfl) rfl ?_
    refine ops_nil ?_
    refine post_next ?_
    refine code_seq ?_
    refine code_region ?_
    refine op_v (v_move rfl) rfl ?_
    refine op_v (v_move rfl) rfl ?_
    refine op_v (v_move rfl) rfl ?_
    first | refine op_v (v_indexA Try.underlying22 sz79 rfl rfl) rfl ?_ | refine op_v (v_indexIA Try.underlying22 sz79 rfl rfl) rfl ?_
    first | refine op_v (v_loadI0 ty79 ((hat k hlt).mono hI0) rfl rfl rfl) rfl ?_ | refine op_v (v_loadI ty79 ((hat k hlt).mono hI0) rfl rfl rfl) rfl ?_
    refine op_fcall rfl rfl rfl ((hf _ gs[k] hI0)) Parts.all ?_
    rintro v16 I16 _ hI16 ⟨rfl, rfl⟩
    rw [List.append_nil]
    refine ops_nil ?_
    refine post_next ?_
    refine code_cond rfl (fun hc1 => ?_) (fun hc1 => ?_)
    · refine code_seq ?_
      refine code_region ?_
      refine op_v (v_move rfl) rfl ?_
      refine op_v (v_assign rfl) rfl ?_
      refine ops_nil ?_
      refine post_next ?_
      refine code_ret ?_
      refine post_ret_block ?_
      refine post_ret_then ?_
      refine post_ret_then ?_
      refine post_ret_block ?_
      refine post_ret_then ?_
      refine post_ret (rs := [.tmp 4]) rfl (List.Perm.refl _) (.cons (.tmp rfl) .nil) (List.Sublist.refl _) ?_
      exact ⟨by rw [idxP_hit p gs k hlt hp hc1]; rfl, rfl⟩
    · refine code_skip ?_
      refine post_out ?_
      refine post_next ?_
      refine code_region ?_
      first | refine op_v (v_addb rfl rfl rfl (by omega)) rfl ?_ | refine op_v (v_add rfl rfl) rfl ?_
      refine op_v (v_move rfl) rfl ?_
      refine ops_nil ?_
      refine post_again (gs.length - (k + 1)) [(0, .slice ad gs.length c), (1, fv), (7, .int .i64 gs.length), (8, .int .i64 (k + 1 : Nat))] (by omega) ⟨k + 1, rfl, hlt, rfl, Imm.le_trans hI0 hI16, rfl, any_take_succ hlt hp hc1⟩ ⟨rfl, rfl, rfl, rfl, trivial⟩
  · have hge : k = gs.length := by simp at hc0; omega
    subst hge
    rw [List.take_length] at hp
    refine code_exit ?_
    refine post_exit_then ?_
    refine post_exit_then ?_
    refine post_exit ?_
    refine post_next ?_
    refine code_seq ?_
    refine code_region ?_
    refine op_v (v_assign rfl) rfl ?_
    refine ops_nil ?_
    refine post_next ?_
    refine code_ret ?_
    refine post_ret (rs := [.tmp 4]) rfl (List.Perm.refl _) (.cons (.tmp rfl) .nil) (List.Sublist.refl _) ?_
    exact ⟨by rw [idxP_none p gs hp]; rfl, rfl⟩
theorem ContainsFunc_does {I : Imm} {v fv : Value} {gs : List Sy} {δf : List Ent} {p : Sy → Bool} (hv : RepG I v gs) (hf : ∀ J s, I.le J → FDoes Try.prog fv [s.v] J δf (fun v _ δ' => v = .bool (p s) ∧ δ' = δf)) :
    Does Try.prog 129 [v, fv] I δf (fun v _ δ' => v = .bool (gs.any p) ∧ δ' = δf) := by
  refine Does.intro Try.func129 rfl Try.ntmps129 rfl fun w0 => ?_
  refine code_seq ?_
  refine code_region ?_
  refine op_v (v_assign rfl) rfl ?_
  refine ops_nil ?_
  refine post_next ?_
  refine code_seq ?_
  refine code_region ?_
  refine op_v (v_move rfl) rfl ?_
  refine op_v (v_move rfl) rfl ?_
  refine op_call pl162 rfl rfl ((IndexFunc_does hv hf)) Parts.all ?_
  rintro v7 I7 _ hI7 ⟨rfl, rfl⟩
  rw [List.append_nil]
  first | refine op_v (v_cmptA rfl rfl rfl) rfl ?_ | refine op_v (v_cmpfA rfl rfl rfl) rfl ?_ | refine op_v (v_cmp rfl rfl rfl) rfl ?_
  refine op_v (v_assign rfl) rfl ?_
  refine ops_nil ?_
  refine post_next ?_
  refine code_ret ?_
  refine post_ret (rs := [.tmp 4]) rfl (List.Perm.refl _) (.cons (.tmp rfl) .nil) (List.Sublist.refl _) ?_
  exact ⟨bool_b (by have := idxP_any p gs; cases h : gs.any p <;> simp_all), rfl⟩
theorem Check1_does {I : Imm} {b : Nat} {x s : Sy} :
    Does Try.prog 130 [s.v, .pointer (some ⟨b, 0, none⟩)] I [.box b 79 x.cs] (fun v _ δ' => v = .bool (nmEq s.name x.name) ∧ δ' = [.box b 79 x.cs]) := by
  refine Does.intro Try.func130 rfl Try.ntmps130 rfl fun w0 => ?_
  refine code_seq ?_
  refine code_region ?_
  refine o_box rfl rfl rfl (fun b2 => ?_)
  refine op_v (v_assign rfl) rfl ?_
  refine ops_nil ?_
  refine post_next ?_
  refine code_seq ?_
  refine code_region ?_
  first | refine op_v (v_fieldB 0 Try.underlying79 rfl rfl fz9 rfl) rfl ?_ | refine op_v (v_fieldI 0 Try.underlying79 rfl rfl fz9 rfl (by assumption)) rfl ?_ | refine op_v (v_field Try.underlying79 rfl fz9 rfl rfl) rfl ?_
  refine op_v (v_loadA ty9 rfl rfl) rfl ?_
  first | refine op_v (v_fieldB 0 Try.underlying79 rfl rfl fz9 rfl) rfl ?_ | refine op_v (v_fieldI 0 Try.underlying79 rfl rfl fz9 rfl (by assumption)) rfl ?_ | refine op_v (v_field Try.underlying79 rfl fz9 rfl rfl) rfl ?_
  refine op_v (v_loadA ty9 rfl rfl) rfl ?_
  refine op_v (v_eqs rfl rfl rfl) rfl ?_
  refine op_v (v_assign rfl) rfl ?_
  refine ops_nil ?_
  refine post_next ?_
  refine code_ret ?_
  refine post_ret (rs := [.tmp 3]) rfl (List.Perm.refl _) (.cons (.tmp rfl) .nil) (List.sublist_cons_self _ _) ?_
  exact ⟨rfl, rfl⟩
def findN (gs : List Sy) (nm : ByteArray) : Int := idxP (fun s => nmEq s.name nm) gs
def fewG (gs : List Sy) : Bool := decide (gs.length ≤ 300) && gs.all fun s => decide (s.name.size ≤ 100)
theorem FewG_does {I : Imm} {v : Value} {gs : List Sy} (hv : RepG I v gs) :
    Does Try.prog 14 [v] I [] (fun v _ δ' => v = .bool (fewG gs) ∧ δ' = []) := by
  obtain ⟨ad, c, rfl⟩ := hv.shape
  obtain ⟨_, hc, hb, hat, hok⟩ := hv.open
  refine Does.intro Try.func14 rfl Try.ntmps14 rfl fun w0 => ?_
  refine code_seq ?_
  refine code_region ?_
  refine op_v (v_assign rfl) rfl ?_
  refine ops_nil ?_
  refine post_next ?_
  refine code_seq ?_
  refine code_seq ?_
  refine code_region ?_
  refine op_v (v_assign rfl) rfl ?_
  refine ops_nil ?_
  refine post_next ?_
  refine code_block ?_
  refine code_loop (fun m σ' I' δ' => ∃ k : Nat, m = gs.length - k ∧ k ≤ gs.length ∧ σ' = [(0, .slice ad gs.length c), (3, .int .i64 k)] ∧ I' = I ∧ δ' = [] ∧ (gs.take k).all (fun s => decide (s.name.size ≤ 100)) = true) gs.length [(0, .slice ad gs.length c), (3, .int .i64 (0 : Nat))] ⟨0, rfl, Nat.zero_le _, rfl, rfl, rfl, rfl⟩ ⟨rfl, rfl, trivial⟩ ?_
  rintro m _ _ _ ⟨k, rfl, hk, rfl, rfl, rfl, hp⟩
  refine code_seq ?_
  refine code_seq ?_
  refine code_region ?_
  refine op_v (v_move rfl) rfl ?_
  refine op_v (v_move rfl) rfl ?_
  refine op_v (v_len Try.underlying22 rfl) rfl ?_
  by_cases h7 : k < gs.length
  · have hs1 := (hat k h7).isSome
    first | refine op_v (v_cmptA rfl rfl rfl) rfl ?_ | refine op_v (v_cmpfA rfl rfl rfl) rfl ?_ | refine op_v (v_cmp rfl rfl rfl) rfl ?_
    refine op_v (v_move rfl) rfl ?_
    first
      | (refine op_want rfl rfl ?_
         refine op_v (v_move rfl) rfl ?_)
      | (refine op_skip rfl rfl (by simp [undef]) rfl ?_)
    first
      | (refine op_want rfl rfl ?_
         refine op_v (v_len Try.underlying22 rfl) rfl ?_)
      | (refine op_skip rfl rfl (by simp [undef]) rfl ?_)
    by_cases h11 : gs.length ≤ 300
    · first
        | (refine op_want rfl rfl ?_
           first | refine op_v (v_cmptA rfl rfl rfl) rfl ?_ | refine op_v (v_cmpfA rfl rfl rfl) rfl ?_ | refine op_v (v_cmp rfl rfl rfl) rfl ?_)
        | (refine op_skip rfl rfl (by simp [undef]) rfl ?_)
      first | refine op_v (v_pickt rfl rfl) rfl ?_ | refine op_v (v_pickf rfl rfl) rfl ?_ | refine op_v (v_pickb rfl rfl rfl) rfl ?_
      refine ops_nil ?_
      refine post_next ?_
      refine code_cond_t rfl ?_
      refine code_skip ?_
      refine post_next ?_
      refine code_seq ?_
      refine code_block ?_
      refine code_seq ?_
      refine code_region ?_
      refine op_v (v_move rfl) rfl ?_
      refine op_v (v_move rfl) rfl ?_
      first | refine op_v (v_indexA Try.underlying22 sz79 rfl rfl) rfl ?_ | refine op_v (v_indexIA Try.underlying22 sz79 rfl rfl) rfl ?_
      first | refine op_v (v_fieldB 0 Try.underlying79 rfl rfl fz9 rfl) rfl ?_ | refine op_v (v_fieldI 0 Try.underlying79 rfl rfl fz9 rfl (by assumption)) rfl ?_ | refine op_v (v_field Try.underlying79 rfl fz9 rfl rfl) rfl ?_
      first | refine op_v (v_loadI0 ty9 (hat k h7) rfl rfl rfl) rfl ?_ | refine op_v (v_loadI ty9 (hat k h7) rfl rfl rfl) rfl ?_
      refine op_v (v_lens Try.underlying9 rfl) rfl ?_
      first | refine op_v (v_cmptA rfl rfl rfl) rfl ?_ | refine op_v (v_cmpfA rfl rfl rfl) rfl ?_ | refine op_v (v_cmp rfl rfl rfl) rfl ?_
      refine ops_nil ?_
      refine post_next ?_
      refine code_cond rfl (fun hc1 => ?_) (fun hc1 => ?_)
      · have h21 : 100 < gs[k].name.size := by have h := hc1; simp at h; omega
        refine code_seq ?_
        refine code_region ?_
        refine op_v (v_assign rfl) rfl ?_
        refine ops_nil ?_
        refine post_next ?_
        refine code_ret ?_
        refine post_ret_block ?_
        refine post_ret_then ?_
        refine post_ret_then ?_
        refine post_ret_block ?_
        refine post_ret_then ?_
        refine post_ret (rs := [.tmp 2]) rfl (List.Perm.refl _) (.cons (.tmp rfl) .nil) (List.nil_sublist _) ?_
        exact ⟨bool_b (by symm; rw [fewG, Bool.and_eq_false_iff]; right; rw [List.all_eq_false]; exact ⟨gs[k], List.getElem_mem _, by simp; omega⟩), rfl⟩
      · have h21 : ¬ 100 < gs[k].name.size := by have h := hc1; simp at h; omega
        refine code_skip ?_
        refine post_out ?_
        refine post_next ?_
        refine code_region ?_
        refine op_v (v_move rfl) rfl ?_
        first | refine op_v (v_addb rfl rfl rfl (by omega)) rfl ?_ | refine op_v (v_add rfl rfl) rfl ?_
        refine op_v (v_assign rfl) rfl ?_
        refine ops_nil ?_
        refine post_again (gs.length - (k + 1)) [(0, .slice ad gs.length c), (3, .int .i64 (k + 1 : Nat))] (by omega) ⟨k + 1, rfl, h7, rfl, rfl, rfl, ?_⟩ ⟨rfl, rfl, trivial⟩
        rw [List.take_succ_eq_append_getElem h7, List.all_append, hp]; simp; omega
    · first
        | (refine op_want rfl rfl ?_
           first | refine op_v (v_cmptA rfl rfl rfl) rfl ?_ | refine op_v (v_cmpfA rfl rfl rfl) rfl ?_ | refine op_v (v_cmp rfl rfl rfl) rfl ?_)
        | (refine op_skip rfl rfl (by simp [undef]) rfl ?_)
      first | refine op_v (v_pickt rfl rfl) rfl ?_ | refine op_v (v_pickf rfl rfl) rfl ?_ | refine op_v (v_pickb rfl rfl rfl) rfl ?_
      refine ops_nil ?_
      refine post_next ?_
      refine code_cond_f rfl ?_
      refine code_exit ?_
      refine post_exit_then ?_
      refine post_exit_then ?_
      refine post_exit ?_
      refine post_next ?_
      refine code_seq ?_
      refine code_region ?_
      refine op_v (v_move rfl) rfl ?_
      refine op_v (v_len Try.underlying22 rfl) rfl ?_
      first | refine op_v (v_cmptA rfl rfl rfl) rfl ?_ | refine op_v (v_cmpfA rfl rfl rfl) rfl ?_ | refine op_v (v_cmp rfl rfl rfl) rfl ?_
      refine op_v (v_assign rfl) rfl ?_
      refine ops_nil ?_
      refine post_next ?_
      refine code_ret ?_
      refine post_ret (rs := [.tmp 2]) rfl (List.Perm.refl _) (.cons (.tmp rfl) .nil) (List.nil_sublist _) ?_
      exact ⟨bool_b (by simp [fewG, h11]), rfl⟩
  · first | refine op_v (v_cmptA rfl rfl rfl) rfl ?_ | refine op_v (v_cmpfA rfl rfl rfl) rfl ?_ | refine op_v (v_cmp rfl rfl rfl) rfl ?_
    refine op_v (v_move rfl) rfl ?_
    first
      | (refine op_want rfl rfl ?_
         refine op_v (v_move rfl) rfl ?_)
      | (refine op_skip rfl rfl (by simp [undef]) rfl ?_)
    first
      | (refine op_want rfl rfl ?_
         refine op_v (v_len Try.underlying22 rfl) rfl ?_)
      | (refine op_skip rfl rfl (by simp [undef]) rfl ?_)
    first
      | (refine op_want rfl rfl ?_
         first | refine op_v (v_cmptA rfl rfl rfl) rfl ?_ | refine op_v (v_cmpfA rfl rfl rfl) rfl ?_ | refine op_v (v_cmp rfl rfl rfl) rfl ?_)
      | (refine op_skip rfl rfl (by simp [undef]) rfl ?_)
    first | refine op_v (v_pickt rfl rfl) rfl ?_ | refine op_v (v_pickf rfl rfl) rfl ?_ | refine op_v (v_pickb rfl rfl rfl) rfl ?_
    refine ops_nil ?_
    refine post_next ?_
    refine code_cond_f rfl ?_
    refine code_exit ?_
    refine post_exit_then ?_
    refine post_exit_then ?_
    refine post_exit ?_
    refine post_next ?_
    refine code_seq ?_
    refine code_region ?_
    refine op_v (v_move rfl) rfl ?_
    refine op_v (v_len Try.underlying22 rfl) rfl ?_
    by_cases h24 : gs.length ≤ 300
    · first | refine op_v (v_cmptA rfl rfl rfl) rfl ?_ | refine op_v (v_cmpfA rfl rfl rfl) rfl ?_ | refine op_v (v_cmp rfl rfl rfl) rfl ?_
      refine op_v (v_assign rfl) rfl ?_
      refine ops_nil ?_
      refine post_next ?_
      refine code_ret ?_
      refine post_ret (rs := [.tmp 2]) rfl (List.Perm.refl _) (.cons (.tmp rfl) .nil) (List.nil_sublist _) ?_
      have hge : k = gs.length := by omega
      rw [hge, List.take_length] at hp
      exact ⟨bool_b (by simp only [fewG, hp]; simp [h24]), rfl⟩
    · first | refine op_v (v_cmptA rfl rfl rfl) rfl ?_ | refine op_v (v_cmpfA rfl rfl rfl) rfl ?_ | refine op_v (v_cmp rfl rfl rfl) rfl ?_
      refine op_v (v_assign rfl) rfl ?_
      refine ops_nil ?_
      refine post_next ?_
      refine code_ret ?_
      refine post_ret (rs := [.tmp 2]) rfl (List.Perm.refl _) (.cons (.tmp rfl) .nil) (List.nil_sublist _) ?_
      exact ⟨bool_b (by simp [fewG, h24]), rfl⟩
end Go.Proofs.Ytdbadicpbmndbaa
