/- A part of the proofs of what is known of threads: IF. -/
import Derived.Test.YtbdcblpjemmipaaGreatID
import Derived.Test.YtbdcblpjemmipaaGreatRows
import Derived.Test.YtbdcblpjemmipaaGreatIE
import Derived.Test.YtbdcblpjemmipaaGreatIA
import Derived.Test.YtbdcblpjemmipaaGreatIC
import Derived.Shelf.Sort.Plain
import Derived.Shelf.Slices.CompactI
import Derived.Shelf.Slices.In.SortNone
namespace Go.Proofs.YtbdcblpjemmipaaGreat.Ex
open Go.Proofs
set_option maxRecDepth 100000
set_option maxHeartbeats 4000000
set_option linter.unusedVariables false
set_option linter.unusedSimpArgs false
set_option linter.unusedSectionVars false
noncomputable section
universe u
theorem dT0 {p:Prop} [Decidable p] (h:p):decide p=true:=decide_eq_true h
theorem dF0 {p:Prop} [Decidable p] (h:¬ p):decide p=false:=decide_eq_false h
theorem mG0 {α:Type u} {l:List α} {i:Nat} {a:α} (h:l[i]? = some a):a∈l:=List.mem_of_getElem? h
theorem tN0 (n:Nat):((n:Int)).toNat=n:=Int.toNat_natCast n
instance rt0:RT:={
 C:=fun _=>Bool
 body:=fun _=>.bool
 unf:=fun _ x=>x
 fld:=fun _ x=>x
 uf:=fun _ _=>rfl
 fu:=fun _ _=>rfl }
def tab:List (TypeId×TInfo):=[
 (3,⟨(.int .i64),8,0,[],false⟩),
 (4,⟨.bool,1,0,[],false⟩),
 (5,⟨(.int .u8),1,0,[],false⟩),
 (9,⟨.str,16,0,[],false⟩),
 (12,⟨(.int .u64),8,0,[],false⟩),
 (22,⟨(.sl (.st (.pair (.int .i64) (.pair (.int .i64) (.pair (.int .i64) (.pair (.int .i64) (.pair (.int .i64) (.pair (.int .i64) (.pair (.int .i64) (.pair (.int .i64) (.int .i64))))))))))),24,27,[],false⟩),
 (23,⟨(.st (.pair (.int .i64) (.sl (.st (.pair (.int .i64) (.pair (.int .i64) (.pair (.int .i64) (.pair (.int .i64) (.pair (.int .i64) (.pair (.int .i64) (.pair (.int .i64) (.pair (.int .i64) (.int .i64))))))))))))),32,0,[(0,1),(1,1)],false⟩),
 (24,⟨(.st (.pair (.int .i64) (.sl (.st (.pair (.int .i64) (.pair (.int .i64) (.pair (.int .i64) (.pair (.int .i64) (.pair (.int .i64) (.pair (.int .i64) (.pair (.int .i64) (.pair (.int .i64) (.int .i64))))))))))))),32,0,[(0,1),(1,1)],false⟩),
 (26,⟨(.st (.pair (.int .i64) (.pair (.int .i64) (.pair (.int .i64) (.pair (.int .i64) (.pair (.int .i64) (.pair (.int .i64) (.pair (.int .i64) (.pair (.int .i64) (.int .i64)))))))))),72,0,[(0,1),(1,1),(2,1),(3,1),(4,1),(5,1),(6,1),(7,1),(8,1)],true⟩),
 (27,⟨(.st (.pair (.int .i64) (.pair (.int .i64) (.pair (.int .i64) (.pair (.int .i64) (.pair (.int .i64) (.pair (.int .i64) (.pair (.int .i64) (.pair (.int .i64) (.int .i64)))))))))),72,0,[(0,1),(1,1),(2,1),(3,1),(4,1),(5,1),(6,1),(7,1),(8,1)],true⟩),
 (28,⟨(.sl (.int .i64)),24,3,[],false⟩),
 (29,⟨(.sl (.st (.pair (.int .i64) (.sl (.st (.pair (.int .i64) (.pair (.int .i64) (.pair (.int .i64) (.pair (.int .i64) (.pair (.int .i64) (.pair (.int .i64) (.pair (.int .i64) (.pair (.int .i64) (.int .i64)))))))))))))),24,24,[],false⟩),
 (30,⟨(.st (.pair (.sl (.int .i64)) (.pair (.sl (.int .i64)) (.pair (.int .i64) (.sl (.st (.pair (.int .i64) (.sl (.st (.pair (.int .i64) (.pair (.int .i64) (.pair (.int .i64) (.pair (.int .i64) (.pair (.int .i64) (.pair (.int .i64) (.pair (.int .i64) (.pair (.int .i64) (.int .i64)))))))))))))))))),80,0,[(0,1),(1,1),(2,1),(3,1)],false⟩),
 (31,⟨(.st (.pair (.sl (.int .i64)) (.pair (.sl (.int .i64)) (.pair (.int .i64) (.sl (.st (.pair (.int .i64) (.sl (.st (.pair (.int .i64) (.pair (.int .i64) (.pair (.int .i64) (.pair (.int .i64) (.pair (.int .i64) (.pair (.int .i64) (.pair (.int .i64) (.pair (.int .i64) (.int .i64)))))))))))))))))),80,0,[(0,1),(1,1),(2,1),(3,1)],false⟩),
 (32,⟨(.sl (.st (.pair (.sl (.st (.pair .bool (.pair (.sl (.st (.pair (.int .i64) (.int .i64)))) (.pair (.sl (.st (.pair (.int .i64) (.int .i64)))) (.pair (.sl (.st (.pair (.int .i64) (.int .i64)))) (.pair (.int .i64) (.int .i64)))))))) (.pair (.sl (.st (.pair (.int .i64) (.pair .bool (.pair (.int .i64) (.pair (.int .i64) (.st (.pair (.int .i64) (.int .i64))))))))) (.pair (.sl (.st (.pair (.int .i64) (.pair (.int .i64) (.pair .bool (.pair (.int .i64) (.pair .bool (.int .i64)))))))) (.pair (.sl (.st (.pair (.int .i64) (.pair (.int .i64) (.pair (.int .i64) (.pair (.int .i64) (.pair (.int .i64) (.int .i64)))))))) (.pair (.int .i64) .bool))))))),24,41,[],false⟩),
 (33,⟨(.sl (.st (.pair (.int .i64) (.pair .bool (.pair (.int .i64) (.pair (.int .i64) (.st (.pair (.int .i64) (.int .i64))))))))),24,83,[],false⟩),
 (34,⟨(.st (.pair (.sl (.st (.pair (.sl (.st (.pair .bool (.pair (.sl (.st (.pair (.int .i64) (.int .i64)))) (.pair (.sl (.st (.pair (.int .i64) (.int .i64)))) (.pair (.sl (.st (.pair (.int .i64) (.int .i64)))) (.pair (.int .i64) (.int .i64)))))))) (.pair (.sl (.st (.pair (.int .i64) (.pair .bool (.pair (.int .i64) (.pair (.int .i64) (.st (.pair (.int .i64) (.int .i64))))))))) (.pair (.sl (.st (.pair (.int .i64) (.pair (.int .i64) (.pair .bool (.pair (.int .i64) (.pair .bool (.int .i64)))))))) (.pair (.sl (.st (.pair (.int .i64) (.pair (.int .i64) (.pair (.int .i64) (.pair (.int .i64) (.pair (.int .i64) (.int .i64)))))))) (.pair (.int .i64) .bool))))))) (.pair (.sl (.st (.pair (.int .i64) (.pair .bool (.pair (.int .i64) (.pair (.int .i64) (.st (.pair (.int .i64) (.int .i64))))))))) (.pair (.int .i64) .bool)))),64,0,[(0,1),(1,1),(2,1),(3,1)],false⟩),
 (35,⟨(.st (.pair (.sl (.st (.pair (.sl (.st (.pair .bool (.pair (.sl (.st (.pair (.int .i64) (.int .i64)))) (.pair (.sl (.st (.pair (.int .i64) (.int .i64)))) (.pair (.sl (.st (.pair (.int .i64) (.int .i64)))) (.pair (.int .i64) (.int .i64)))))))) (.pair (.sl (.st (.pair (.int .i64) (.pair .bool (.pair (.int .i64) (.pair (.int .i64) (.st (.pair (.int .i64) (.int .i64))))))))) (.pair (.sl (.st (.pair (.int .i64) (.pair (.int .i64) (.pair .bool (.pair (.int .i64) (.pair .bool (.int .i64)))))))) (.pair (.sl (.st (.pair (.int .i64) (.pair (.int .i64) (.pair (.int .i64) (.pair (.int .i64) (.pair (.int .i64) (.int .i64)))))))) (.pair (.int .i64) .bool))))))) (.pair (.sl (.st (.pair (.int .i64) (.pair .bool (.pair (.int .i64) (.pair (.int .i64) (.st (.pair (.int .i64) (.int .i64))))))))) (.pair (.int .i64) .bool)))),64,0,[(0,1),(1,1),(2,1),(3,1)],false⟩),
 (37,⟨(.sl (.st (.pair .bool (.pair (.sl (.st (.pair (.int .i64) (.int .i64)))) (.pair (.sl (.st (.pair (.int .i64) (.int .i64)))) (.pair (.sl (.st (.pair (.int .i64) (.int .i64)))) (.pair (.int .i64) (.int .i64)))))))),24,44,[],false⟩),
 (38,⟨(.sl (.st (.pair (.int .i64) (.pair (.int .i64) (.pair .bool (.pair (.int .i64) (.pair .bool (.int .i64)))))))),24,66,[],false⟩),
 (39,⟨(.sl (.st (.pair (.int .i64) (.pair (.int .i64) (.pair (.int .i64) (.pair (.int .i64) (.pair (.int .i64) (.int .i64)))))))),24,53,[],false⟩),
 (40,⟨(.st (.pair (.sl (.st (.pair .bool (.pair (.sl (.st (.pair (.int .i64) (.int .i64)))) (.pair (.sl (.st (.pair (.int .i64) (.int .i64)))) (.pair (.sl (.st (.pair (.int .i64) (.int .i64)))) (.pair (.int .i64) (.int .i64)))))))) (.pair (.sl (.st (.pair (.int .i64) (.pair .bool (.pair (.int .i64) (.pair (.int .i64) (.st (.pair (.int .i64) (.int .i64))))))))) (.pair (.sl (.st (.pair (.int .i64) (.pair (.int .i64) (.pair .bool (.pair (.int .i64) (.pair .bool (.int .i64)))))))) (.pair (.sl (.st (.pair (.int .i64) (.pair (.int .i64) (.pair (.int .i64) (.pair (.int .i64) (.pair (.int .i64) (.int .i64)))))))) (.pair (.int .i64) .bool)))))),112,0,[(0,1),(1,1),(2,1),(3,1),(4,1),(5,1)],false⟩),
 (41,⟨(.st (.pair (.sl (.st (.pair .bool (.pair (.sl (.st (.pair (.int .i64) (.int .i64)))) (.pair (.sl (.st (.pair (.int .i64) (.int .i64)))) (.pair (.sl (.st (.pair (.int .i64) (.int .i64)))) (.pair (.int .i64) (.int .i64)))))))) (.pair (.sl (.st (.pair (.int .i64) (.pair .bool (.pair (.int .i64) (.pair (.int .i64) (.st (.pair (.int .i64) (.int .i64))))))))) (.pair (.sl (.st (.pair (.int .i64) (.pair (.int .i64) (.pair .bool (.pair (.int .i64) (.pair .bool (.int .i64)))))))) (.pair (.sl (.st (.pair (.int .i64) (.pair (.int .i64) (.pair (.int .i64) (.pair (.int .i64) (.pair (.int .i64) (.int .i64)))))))) (.pair (.int .i64) .bool)))))),112,0,[(0,1),(1,1),(2,1),(3,1),(4,1),(5,1)],false⟩),
 (42,⟨(.sl (.st (.pair (.int .i64) (.int .i64)))),24,46,[],false⟩),
 (43,⟨(.st (.pair .bool (.pair (.sl (.st (.pair (.int .i64) (.int .i64)))) (.pair (.sl (.st (.pair (.int .i64) (.int .i64)))) (.pair (.sl (.st (.pair (.int .i64) (.int .i64)))) (.pair (.int .i64) (.int .i64))))))),96,0,[(0,1),(1,1),(2,1),(3,1),(4,1),(5,1)],false⟩),
 (44,⟨(.st (.pair .bool (.pair (.sl (.st (.pair (.int .i64) (.int .i64)))) (.pair (.sl (.st (.pair (.int .i64) (.int .i64)))) (.pair (.sl (.st (.pair (.int .i64) (.int .i64)))) (.pair (.int .i64) (.int .i64))))))),96,0,[(0,1),(1,1),(2,1),(3,1),(4,1),(5,1)],false⟩),
 (45,⟨(.st (.pair (.int .i64) (.int .i64))),16,0,[(0,1),(1,1)],true⟩),
 (46,⟨(.st (.pair (.int .i64) (.int .i64))),16,0,[(0,1),(1,1)],true⟩),
 (51,⟨(.int .i64),8,0,[],false⟩),
 (52,⟨(.st (.pair (.int .i64) (.pair (.int .i64) (.pair (.int .i64) (.pair (.int .i64) (.pair (.int .i64) (.int .i64))))))),48,0,[(0,1),(1,1),(2,1),(3,1),(4,1),(5,1)],true⟩),
 (53,⟨(.st (.pair (.int .i64) (.pair (.int .i64) (.pair (.int .i64) (.pair (.int .i64) (.pair (.int .i64) (.int .i64))))))),48,0,[(0,1),(1,1),(2,1),(3,1),(4,1),(5,1)],true⟩),
 (57,⟨(.st (.pair (.sl (.st (.pair .bool (.pair (.sl (.st (.pair (.int .i64) (.int .i64)))) (.pair (.sl (.st (.pair (.int .i64) (.int .i64)))) (.pair (.sl (.st (.pair (.int .i64) (.int .i64)))) (.pair (.int .i64) (.int .i64)))))))) (.pair (.sl (.st (.pair (.int .i64) (.pair .bool (.pair (.int .i64) (.pair (.int .i64) (.st (.pair (.int .i64) (.int .i64))))))))) (.pair (.sl (.st (.pair (.int .i64) (.pair (.int .i64) (.pair .bool (.pair (.int .i64) (.pair .bool (.int .i64)))))))) (.pair (.sl (.st (.pair (.int .i64) (.pair (.int .i64) (.pair (.int .i64) (.pair (.int .i64) (.pair (.int .i64) (.int .i64)))))))) (.pair (.int .i64) .bool)))))),112,0,[(0,1),(1,1),(2,1),(3,1),(4,1),(5,1)],false⟩),
 (65,⟨(.st (.pair (.int .i64) (.pair (.int .i64) (.pair .bool (.pair (.int .i64) (.pair .bool (.int .i64))))))),48,0,[(0,1),(1,1),(2,1),(3,1),(4,1),(5,1)],true⟩),
 (66,⟨(.st (.pair (.int .i64) (.pair (.int .i64) (.pair .bool (.pair (.int .i64) (.pair .bool (.int .i64))))))),48,0,[(0,1),(1,1),(2,1),(3,1),(4,1),(5,1)],true⟩),
 (75,⟨(.sl (.st (.pair (.sl (.st (.pair .bool (.pair (.sl (.st (.pair (.int .i64) (.int .i64)))) (.pair (.sl (.st (.pair (.int .i64) (.int .i64)))) (.pair (.sl (.st (.pair (.int .i64) (.int .i64)))) (.pair (.int .i64) (.int .i64)))))))) (.pair (.sl (.st (.pair (.int .i64) (.pair .bool (.pair (.int .i64) (.pair (.int .i64) (.st (.pair (.int .i64) (.int .i64))))))))) (.pair (.sl (.st (.pair (.int .i64) (.pair (.int .i64) (.pair .bool (.pair (.int .i64) (.pair .bool (.int .i64)))))))) (.pair (.sl (.st (.pair (.int .i64) (.pair (.int .i64) (.pair (.int .i64) (.pair (.int .i64) (.pair (.int .i64) (.int .i64)))))))) (.pair (.int .i64) .bool))))))),24,57,[],false⟩),
 (76,⟨(.st (.pair (.sl (.st (.pair (.sl (.st (.pair .bool (.pair (.sl (.st (.pair (.int .i64) (.int .i64)))) (.pair (.sl (.st (.pair (.int .i64) (.int .i64)))) (.pair (.sl (.st (.pair (.int .i64) (.int .i64)))) (.pair (.int .i64) (.int .i64)))))))) (.pair (.sl (.st (.pair (.int .i64) (.pair .bool (.pair (.int .i64) (.pair (.int .i64) (.st (.pair (.int .i64) (.int .i64))))))))) (.pair (.sl (.st (.pair (.int .i64) (.pair (.int .i64) (.pair .bool (.pair (.int .i64) (.pair .bool (.int .i64)))))))) (.pair (.sl (.st (.pair (.int .i64) (.pair (.int .i64) (.pair (.int .i64) (.pair (.int .i64) (.pair (.int .i64) (.int .i64)))))))) (.pair (.int .i64) .bool))))))) (.pair (.sl (.st (.pair (.int .i64) (.pair .bool (.pair (.int .i64) (.pair (.int .i64) (.st (.pair (.int .i64) (.int .i64))))))))) (.pair (.int .i64) .bool)))),64,0,[(0,1),(1,1),(2,1),(3,1)],false⟩),
 (77,⟨(.st (.pair (.sl (.st (.pair (.sl (.st (.pair .bool (.pair (.sl (.st (.pair (.int .i64) (.int .i64)))) (.pair (.sl (.st (.pair (.int .i64) (.int .i64)))) (.pair (.sl (.st (.pair (.int .i64) (.int .i64)))) (.pair (.int .i64) (.int .i64)))))))) (.pair (.sl (.st (.pair (.int .i64) (.pair .bool (.pair (.int .i64) (.pair (.int .i64) (.st (.pair (.int .i64) (.int .i64))))))))) (.pair (.sl (.st (.pair (.int .i64) (.pair (.int .i64) (.pair .bool (.pair (.int .i64) (.pair .bool (.int .i64)))))))) (.pair (.sl (.st (.pair (.int .i64) (.pair (.int .i64) (.pair (.int .i64) (.pair (.int .i64) (.pair (.int .i64) (.int .i64)))))))) (.pair (.int .i64) .bool))))))) (.pair (.sl (.st (.pair (.int .i64) (.pair .bool (.pair (.int .i64) (.pair (.int .i64) (.st (.pair (.int .i64) (.int .i64))))))))) (.pair (.int .i64) .bool)))),64,0,[(0,1),(1,1),(2,1),(3,1)],false⟩),
 (82,⟨(.st (.pair (.int .i64) (.pair .bool (.pair (.int .i64) (.pair (.int .i64) (.st (.pair (.int .i64) (.int .i64)))))))),48,0,[(0,1),(1,1),(2,1),(3,1),(4,2)],true⟩),
 (83,⟨(.st (.pair (.int .i64) (.pair .bool (.pair (.int .i64) (.pair (.int .i64) (.st (.pair (.int .i64) (.int .i64)))))))),48,0,[(0,1),(1,1),(2,1),(3,1),(4,2)],true⟩),
 (89,⟨(.st (.pair (.st (.pair (.sl (.int .i64)) (.pair (.sl (.int .i64)) (.pair (.int .i64) (.sl (.st (.pair (.int .i64) (.sl (.st (.pair (.int .i64) (.pair (.int .i64) (.pair (.int .i64) (.pair (.int .i64) (.pair (.int .i64) (.pair (.int .i64) (.pair (.int .i64) (.pair (.int .i64) (.int .i64)))))))))))))))))) (.pair (.int .i64) (.pair (.sl (.st (.pair (.int .i64) (.pair .bool (.pair (.int .i64) (.pair (.int .i64) (.st (.pair (.int .i64) (.int .i64))))))))) (.pair (.sl (.st (.pair (.int .i64) (.pair (.int .i64) (.pair (.int .i64) (.pair (.int .i64) (.pair (.int .i64) (.pair (.int .i64) (.pair (.int .i64) (.pair (.int .i64) (.int .i64))))))))))) (.pair (.sl (.st (.pair .bool (.pair (.sl (.st (.pair (.int .i64) (.int .i64)))) (.pair (.sl (.st (.pair (.int .i64) (.int .i64)))) (.pair (.sl (.st (.pair (.int .i64) (.int .i64)))) (.pair (.int .i64) (.int .i64)))))))) (.pair (.sl (.int .i64)) (.sl (.int .i64))))))))),208,0,[(0,4),(4,1),(5,1),(6,1),(7,1),(8,1),(9,1)],false⟩),
 (90,⟨(.st (.pair (.st (.pair (.sl (.int .i64)) (.pair (.sl (.int .i64)) (.pair (.int .i64) (.sl (.st (.pair (.int .i64) (.sl (.st (.pair (.int .i64) (.pair (.int .i64) (.pair (.int .i64) (.pair (.int .i64) (.pair (.int .i64) (.pair (.int .i64) (.pair (.int .i64) (.pair (.int .i64) (.int .i64)))))))))))))))))) (.pair (.int .i64) (.pair (.sl (.st (.pair (.int .i64) (.pair .bool (.pair (.int .i64) (.pair (.int .i64) (.st (.pair (.int .i64) (.int .i64))))))))) (.pair (.sl (.st (.pair (.int .i64) (.pair (.int .i64) (.pair (.int .i64) (.pair (.int .i64) (.pair (.int .i64) (.pair (.int .i64) (.pair (.int .i64) (.pair (.int .i64) (.int .i64))))))))))) (.pair (.sl (.st (.pair .bool (.pair (.sl (.st (.pair (.int .i64) (.int .i64)))) (.pair (.sl (.st (.pair (.int .i64) (.int .i64)))) (.pair (.sl (.st (.pair (.int .i64) (.int .i64)))) (.pair (.int .i64) (.int .i64)))))))) (.pair (.sl (.int .i64)) (.sl (.int .i64))))))))),208,0,[(0,4),(4,1),(5,1),(6,1),(7,1),(8,1),(9,1)],false⟩),
 (93,⟨(.sl (.int .i64)),24,51,[],false⟩),
 (94,⟨(.st (.pair (.st (.pair .bool (.pair (.sl (.st (.pair (.int .i64) (.int .i64)))) (.pair (.sl (.st (.pair (.int .i64) (.int .i64)))) (.pair (.sl (.st (.pair (.int .i64) (.int .i64)))) (.pair (.int .i64) (.int .i64))))))) (.pair (.st (.pair .bool (.pair (.sl (.st (.pair (.int .i64) (.int .i64)))) (.pair (.sl (.st (.pair (.int .i64) (.int .i64)))) (.pair (.sl (.st (.pair (.int .i64) (.int .i64)))) (.pair (.int .i64) (.int .i64))))))) (.pair (.sl (.int .i64)) (.pair (.sl (.st (.pair (.int .i64) (.pair .bool (.pair (.int .i64) (.pair (.int .i64) (.st (.pair (.int .i64) (.int .i64))))))))) (.sl (.st (.pair (.int .i64) (.pair (.int .i64) (.pair .bool (.pair (.int .i64) (.pair .bool (.int .i64))))))))))))),264,0,[(0,6),(6,6),(12,1),(13,1),(14,1)],false⟩),
 (95,⟨(.st (.pair (.st (.pair .bool (.pair (.sl (.st (.pair (.int .i64) (.int .i64)))) (.pair (.sl (.st (.pair (.int .i64) (.int .i64)))) (.pair (.sl (.st (.pair (.int .i64) (.int .i64)))) (.pair (.int .i64) (.int .i64))))))) (.pair (.st (.pair .bool (.pair (.sl (.st (.pair (.int .i64) (.int .i64)))) (.pair (.sl (.st (.pair (.int .i64) (.int .i64)))) (.pair (.sl (.st (.pair (.int .i64) (.int .i64)))) (.pair (.int .i64) (.int .i64))))))) (.pair (.sl (.int .i64)) (.pair (.sl (.st (.pair (.int .i64) (.pair .bool (.pair (.int .i64) (.pair (.int .i64) (.st (.pair (.int .i64) (.int .i64))))))))) (.sl (.st (.pair (.int .i64) (.pair (.int .i64) (.pair .bool (.pair (.int .i64) (.pair .bool (.int .i64))))))))))))),264,0,[(0,6),(6,6),(12,1),(13,1),(14,1)],false⟩),
 (98,⟨(.st (.pair (.sl (.st (.pair .bool (.pair (.sl (.st (.pair (.int .i64) (.int .i64)))) (.pair (.sl (.st (.pair (.int .i64) (.int .i64)))) (.pair (.sl (.st (.pair (.int .i64) (.int .i64)))) (.pair (.int .i64) (.int .i64)))))))) (.pair (.sl (.int .i64)) (.sl (.int .i64))))),72,0,[(0,1),(1,1),(2,1)],false⟩),
 (99,⟨(.st (.pair (.sl (.st (.pair .bool (.pair (.sl (.st (.pair (.int .i64) (.int .i64)))) (.pair (.sl (.st (.pair (.int .i64) (.int .i64)))) (.pair (.sl (.st (.pair (.int .i64) (.int .i64)))) (.pair (.int .i64) (.int .i64)))))))) (.pair (.sl (.int .i64)) (.sl (.int .i64))))),72,0,[(0,1),(1,1),(2,1)],false⟩),
 (100,⟨(.st (.pair (.st (.pair .bool (.pair (.sl (.st (.pair (.int .i64) (.int .i64)))) (.pair (.sl (.st (.pair (.int .i64) (.int .i64)))) (.pair (.sl (.st (.pair (.int .i64) (.int .i64)))) (.pair (.int .i64) (.int .i64))))))) (.pair (.st (.pair .bool (.pair (.sl (.st (.pair (.int .i64) (.int .i64)))) (.pair (.sl (.st (.pair (.int .i64) (.int .i64)))) (.pair (.sl (.st (.pair (.int .i64) (.int .i64)))) (.pair (.int .i64) (.int .i64))))))) (.pair (.sl (.int .i64)) (.pair (.sl (.st (.pair (.int .i64) (.pair .bool (.pair (.int .i64) (.pair (.int .i64) (.st (.pair (.int .i64) (.int .i64))))))))) (.sl (.st (.pair (.int .i64) (.pair (.int .i64) (.pair .bool (.pair (.int .i64) (.pair .bool (.int .i64))))))))))))),264,0,[(0,6),(6,6),(12,1),(13,1),(14,1)],false⟩),
 (119,⟨(.sl (.st (.pair (.st (.pair .bool (.pair (.sl (.st (.pair (.int .i64) (.int .i64)))) (.pair (.sl (.st (.pair (.int .i64) (.int .i64)))) (.pair (.sl (.st (.pair (.int .i64) (.int .i64)))) (.pair (.int .i64) (.int .i64))))))) (.pair (.st (.pair .bool (.pair (.sl (.st (.pair (.int .i64) (.int .i64)))) (.pair (.sl (.st (.pair (.int .i64) (.int .i64)))) (.pair (.sl (.st (.pair (.int .i64) (.int .i64)))) (.pair (.int .i64) (.int .i64))))))) (.pair (.sl (.int .i64)) (.pair (.sl (.st (.pair (.int .i64) (.pair .bool (.pair (.int .i64) (.pair (.int .i64) (.st (.pair (.int .i64) (.int .i64))))))))) (.sl (.st (.pair (.int .i64) (.pair (.int .i64) (.pair .bool (.pair (.int .i64) (.pair .bool (.int .i64)))))))))))))),24,95,[],false⟩),
 (136,⟨(.st (.pair (.st (.pair (.int .i64) (.pair (.int .i64) (.pair (.int .i64) (.pair (.int .i64) (.pair (.int .i64) (.pair (.int .i64) (.pair (.int .i64) (.pair (.int .i64) (.int .i64)))))))))) (.pair (.st (.pair (.sl (.int .i64)) (.pair (.sl (.int .i64)) (.pair (.int .i64) (.sl (.st (.pair (.int .i64) (.sl (.st (.pair (.int .i64) (.pair (.int .i64) (.pair (.int .i64) (.pair (.int .i64) (.pair (.int .i64) (.pair (.int .i64) (.pair (.int .i64) (.pair (.int .i64) (.int .i64)))))))))))))))))) (.pair (.int .i64) (.pair (.int .i64) (.pair (.st (.pair .bool (.pair (.sl (.st (.pair (.int .i64) (.int .i64)))) (.pair (.sl (.st (.pair (.int .i64) (.int .i64)))) (.pair (.sl (.st (.pair (.int .i64) (.int .i64)))) (.pair (.int .i64) (.int .i64))))))) (.pair (.sl (.st (.pair (.int .i64) (.pair .bool (.pair (.int .i64) (.pair (.int .i64) (.st (.pair (.int .i64) (.int .i64))))))))) (.st (.pair (.st (.pair .bool (.pair (.sl (.st (.pair (.int .i64) (.int .i64)))) (.pair (.sl (.st (.pair (.int .i64) (.int .i64)))) (.pair (.sl (.st (.pair (.int .i64) (.int .i64)))) (.pair (.int .i64) (.int .i64))))))) (.pair (.st (.pair .bool (.pair (.sl (.st (.pair (.int .i64) (.int .i64)))) (.pair (.sl (.st (.pair (.int .i64) (.int .i64)))) (.pair (.sl (.st (.pair (.int .i64) (.int .i64)))) (.pair (.int .i64) (.int .i64))))))) (.pair (.sl (.int .i64)) (.pair (.sl (.st (.pair (.int .i64) (.pair .bool (.pair (.int .i64) (.pair (.int .i64) (.st (.pair (.int .i64) (.int .i64))))))))) (.sl (.st (.pair (.int .i64) (.pair (.int .i64) (.pair .bool (.pair (.int .i64) (.pair .bool (.int .i64)))))))))))))))))))),552,0,[(0,9),(9,4),(13,1),(14,1),(15,6),(21,1),(22,15)],false⟩),
 (137,⟨(.st (.pair (.st (.pair (.int .i64) (.pair (.int .i64) (.pair (.int .i64) (.pair (.int .i64) (.pair (.int .i64) (.pair (.int .i64) (.pair (.int .i64) (.pair (.int .i64) (.int .i64)))))))))) (.pair (.st (.pair (.sl (.int .i64)) (.pair (.sl (.int .i64)) (.pair (.int .i64) (.sl (.st (.pair (.int .i64) (.sl (.st (.pair (.int .i64) (.pair (.int .i64) (.pair (.int .i64) (.pair (.int .i64) (.pair (.int .i64) (.pair (.int .i64) (.pair (.int .i64) (.pair (.int .i64) (.int .i64)))))))))))))))))) (.pair (.int .i64) (.pair (.int .i64) (.pair (.st (.pair .bool (.pair (.sl (.st (.pair (.int .i64) (.int .i64)))) (.pair (.sl (.st (.pair (.int .i64) (.int .i64)))) (.pair (.sl (.st (.pair (.int .i64) (.int .i64)))) (.pair (.int .i64) (.int .i64))))))) (.pair (.sl (.st (.pair (.int .i64) (.pair .bool (.pair (.int .i64) (.pair (.int .i64) (.st (.pair (.int .i64) (.int .i64))))))))) (.st (.pair (.st (.pair .bool (.pair (.sl (.st (.pair (.int .i64) (.int .i64)))) (.pair (.sl (.st (.pair (.int .i64) (.int .i64)))) (.pair (.sl (.st (.pair (.int .i64) (.int .i64)))) (.pair (.int .i64) (.int .i64))))))) (.pair (.st (.pair .bool (.pair (.sl (.st (.pair (.int .i64) (.int .i64)))) (.pair (.sl (.st (.pair (.int .i64) (.int .i64)))) (.pair (.sl (.st (.pair (.int .i64) (.int .i64)))) (.pair (.int .i64) (.int .i64))))))) (.pair (.sl (.int .i64)) (.pair (.sl (.st (.pair (.int .i64) (.pair .bool (.pair (.int .i64) (.pair (.int .i64) (.st (.pair (.int .i64) (.int .i64))))))))) (.sl (.st (.pair (.int .i64) (.pair (.int .i64) (.pair .bool (.pair (.int .i64) (.pair .bool (.int .i64)))))))))))))))))))),552,0,[(0,9),(9,4),(13,1),(14,1),(15,6),(21,1),(22,15)],false⟩),
 (143,⟨(.int .u64),8,0,[],false⟩),
 (165,⟨(.int .i64),8,0,[],false⟩),
 (174,⟨(.int .u64),8,0,[],false⟩),
 (189,⟨(.int .u64),8,0,[],false⟩),
 (202,⟨(.sl .str),24,9,[],false⟩)]
def keeps:Nat→List Nat
 | 3=>[0,1,27,2,9,3,10,11,80,12,96,105,13,8]
 | 4=>[0,12,3,4,5,40,6,42,76,2]
 | 5=>[0,3,1,2,11,6]
 | 6=>[0,4,1,2,3,34,9,10,11,68,12,73,87,8]
 | 7=>[0,3,1,2,17,7,38,9,43,10,8,90,11,97,12,142,6]
 | 8=>[0,1,2,26,7,8,52,10,54,9,6]
 | 9=>[0,10,3,4,60,2]
 | 10=>[0,1,2,25,7,8,46,9,6]
 | 11=>[0,4,1,2,3,21,9,36,10,41,60,80,11,84,101,8]
 | 12=>[0,3,1,2,12,7,6]
 | 13=>[0,1,7,3,4,40,5,45,59,2]
 | 14=>[0,1,7,3,32,4,41,5,52,79,112,2]
 | 15=>[0,2,1,19,5,6,4]
 | 16=>[0,1,25,2,3,9,10,60,11,76,8]
 | 17=>[0,1,15,5,4]
 | 18=>[0,1,5,3,16,4,6,2]
 | 19=>[0,1,2,6,3,4,9]
 | 20=>[0,2]
 | 21=>[1,2,0]
 | 22=>[0,3,1,2,6]
 | 23=>[0,1,2,3,54,5,59,73,6,78,91,7,96,109,4]
 | 24=>[0,3,1,2,7,8,9,47,58,57,59,10,6]
 | 25=>[0,3,1,7,8,9,50,11,54,2,12,10,13,14,15,106,16,17,137,6]
 | 26=>[1,2,0]
 | 27=>[0,4,1,12,6,20,7,35,5,54,3,2]
 | 28=>[0,5,1,15,23,7,33,6,8,4]
 | 29=>[0,1,2,7,3,4]
 | 30=>[3,0,7,57,2]
 | 31=>[0,2]
 | 32=>[0,7,1,16,24,6,5,4]
 | 33=>[1,2,0,24,30,31,35,40,45,50,8,57,6,7]
 | 34=>[0,7,8,1,2,13,18,23,28,33,6]
 | 35=>[0,2,5,3,1,56,8,7,70,85,6]
 | 36=>[0,4,1,2,9,32,10,36,3,11,73,8]
 | 37=>[0,4,1,2,9,33,36,35,37,34,10,3,12,11,69,8]
 | 38=>[0,2,22,6,27,5,1,41,4]
 | 39=>[0,1,5,3,20,7,30,8,6,54,9,4,10,72,2]
 | 40=>[0,1,10,5,14,25,4]
 | 41=>[5,0,11,1,7,6,38,4]
 | 42=>[0,3,2]
 | 43=>[0,1,17,16,18,15,3,5,31,30,32,29,7,38,37,39,36,9,44,2]
 | 44=>[1,0,4,15,14,16,7,49,8,2,6]
 | 45=>[0,1,4]
 | 46=>[0,7,6,8,5,4,13,2]
 | 47=>[0,1,2]
 | 48=>[0,2,22,6,27,5,1,41,4]
 | 49=>[0,1,2,3,12,4]
 | 50=>[0,1,2,16,4,35,34,36,33,5,7]
 | 51=>[0,14,13,15,12,4,5,6,3,7,8,2]
 | 52=>[3,14,13,15,12,0,9,41,40,42,39,1,2,11]
 | 53=>[0,1,4]
 | 54=>[0,4,1,14,3,5,28,6,49,7,60,8,74,2]
 | 55=>[0,1,2,17,4,6,27,5,7,40,8,58]
 | 56=>[0,3,8,16,10,5,1,2,11,30,31,12,41,54,62,67,4,88,130,139,146,151,166,170,13,177]
 | 57=>[3,7,12,0,2,1,34,9,56,66,8]
 | 58=>[1,6,0,3,19,4,5]
 | 59=>[5,0,9,1,20,4]
 | 60=>[0,1,2]
 | 61=>[0,1,2,3,7,27,5,6,38,47,4]
 | 62=>[0,1,2,3,4]
 | 63=>[0,3,5,1,2,8,4,29,11,10]
 | 64=>[0,1,36,3,41,50,4,55,71,5,76,6,7,108,8,111,122,2]
 | 65=>[0,1,8,7,19,10,12,43,9,11,2,6]
 | 66=>[0,1,2,3,4]
 | 67=>[0,1,5,12,6,19,7,29,4]
 | 68=>[0,2]
 | 69=>[0,7,6,8,5,4,16,2]
 | 70=>[0,2]
 | 71=>[0,8,3,13,25,5,4,32,44,2]
 | 72=>[0,1,4]
 | 73=>[0,8,7,9,6,3,5,2]
 | 74=>[2,0,1,14,13,15,12,7,9,5,6]
 | 75=>[0,1,10,13,12,14,5,24,4]
 | 76=>[0,1,10,5,14,25,4]
 | 77=>[0,4]
 | 78=>[0,2]
 | 79=>[0,9,8,10,7,5,15,3,2]
 | 80=>[3,7,13,2,1,0,9,37,10,59,67,8]
 | 81=>[0,1,12,11,13,10,5,7,4]
 | 82=>[1,9,0,5,22,36,6,4]
 | 83=>[0,2,3,1,5,6]
 | 84=>[0]
 | 85=>[0,1,2,3,6,29,8,7,35,5,43,4]
 | 86=>[1,2,0,3,4,6,19,11,10]
 | 87=>[0,2,3,1,7,8,5,13,12,42,11,53,69,10,78,4]
 | 88=>[1,2,6,5,18,9,28,8,10,11,45,3,0,12,70]
 | 89=>[0,1,3,2,12,5,23,4]
 | 90=>[0,1,2,4,3,30,7,8,40,6]
 | 91=>[0,3,4,6,8,10,12,14,2]
 | 92=>[0,1,3,7,2,10,4,15]
 | 93=>[0,1,3,4,14,6,2]
 | 94=>[1,0,8,4]
 | 95=>[0]
 | 96=>[0,1,4,2]
 | 97=>[0,9,8,10,7,6,1,5,19,4]
 | 98=>[0,1,4]
 | 99=>[0,6,7,18,34,39,43,71,75,80,84,88,113,123]
 | 100=>[0,1,4]
 | 101=>[0,1,2,4,5,20,21,7,25,29,34,3,40,46,53,60,65,69,8,110,13,132,9,10,11,12,6]
 | 102=>[0,1,4,13,3,6,16,10,2,24,11,7,8,39,9,49,55,62]
 | 103=>[0,8,7,9,1,5,16,4]
 | 104=>[2,1,10,23,0,3,29,8,35,12,50,11,9,68,72,87,13,15,14,16,17,113,18]
 | 105=>[0,2]
 | 106=>[0,4,2]
 | 107=>[1,4,11,0,8,20,7,2,6]
 | 108=>[0,1,3,4,2,5]
 | 109=>[0,1,4,12,3,6,16,2,26,25,27,24,11,33,7,37,8,44,9,53,60]
 | 110=>[0]
 | 111=>[0,9,8,10,7,5,24,3,27,2]
 | 112=>[0,9,8,10,7,5,16,3,20,2]
 | 113=>[0,1,2,3,4,14,6,5]
 | 114=>[0,1,2,3,12,4]
 | 115=>[0,1,2,3,4]
 | 116=>[1,2,4,5,19,6,0,22,23,9,39,55,12,13,69,79,10,11,7,8]
 | 117=>[12,0,18,13,1,2,3,4,46,11,10]
 | 118=>[0,1,2,3,4]
 | 119=>[1,0,4]
 | 120=>[14,0,18,5,27,13,1,2,3,4,12]
 | 121=>[5,1,9,23,0,4]
 | 122=>[5,1,9,23,0,4]
 | 123=>[1,2,4,5,15,6,7,0,20,21,8,9,41,59,79,97,103,116]
 | 124=>[6,0,10,5,1,4]
 | 125=>[8,0,12,7,1,2,6]
 | 126=>[0,1,2,3,4]
 | 127=>[1,0,8,4]
 | 128=>[0,8,15,14,16,13,3,5,2]
 | 129=>[1,0,3]
 | 130=>[0]
 | 131=>[0,3,4,2,49]
 | 132=>[0,1,2]
 | 133=>[0,2,8,4,16,13,5,3,1,12]
 | 134=>[0,2,3]
 | 135=>[0,2,4,3,48,67,83,5]
 | 136=>[0,27,2]
 | 137=>[0,29,2]
 | 138=>[1,0,46,5,6,56,4]
 | 139=>[0,3,4,6,8,10,12,14,2]
 | 140=>[1,6,0,2]
 | 141=>[0,1,11,2,3,8]
 | 142=>[1,6,2,12,7,0,30]
 | 143=>[1,2,8,9,19,0,6,10,30,7]
 | 144=>[2,1,6,15,9,33,7,8,10,43,0]
 | 145=>[2,1,8,32,34,0,10,9,11,12,49,51,54,6,7]
 | 146=>[1,2,6,7,13,0]
 | 147=>[1,8,14,7,2,0,32,37,41,61,9,65,78,98,10,103,116,6]
 | 148=>[0,1,4]
 | 149=>[0,1,3,2,9,10,43,59,64,8]
 | 150=>[0,1,3,2,10,11,43,60,65,112,129,134,8,9]
 | 151=>[0,4,8,2]
 | 152=>[0,4,8,2,14]
 | 153=>[0,1,2]
 | 154=>[1,0,3,4,5]
 | 155=>[0,1,2,7,16,8,22,31,9,68,6]
 | 156=>[0,1,2]
 | 157=>[0,1,3,4,2,6]
 | 158=>[0,1,2,3,4]
 | 159=>[0,1,3,4,2,5]
 | 160=>[0,1,10,13,12,14,5,24,4]
 | 161=>[0,1,4,5]
 | 162=>[0,1,3,4,2,33,8,11,62,9,10,6,7]
 | 163=>[0,1,3,8,22,2,9,10,6,11,40,12,13,14,7,15,4,5]
 | 164=>[0,1,2,4]
 | 165=>[0,1,3,15,4,2,31,5,39,6,7]
 | 166=>[0,1,4]
 | 167=>[0,1,7,4]
 | 168=>[0,1,3,11,2,4,21,5,28,6]
 | 169=>[1,5,2,17,16,18,15,10,3,9,8]
 | 170=>[1,2,4,5,15,6,0,18,19,9,32,45,50,7,62,8]
 | 171=>[0,1,2,3,4,10]
 | 172=>[2,0,1,5]
 | 173=>[0,4,2]
 | 174=>[0,1,2,3,5,26,4]
 | 175=>[0,1,4]
 | 176=>[1,13,12,14,11,7,8,0,2,6]
 | 177=>[0,1,4]
 | 178=>[0,1,4]
 | 179=>[1,2,4,5,0,12,15,8,9,31,45,59,75,81,6,7,102]
 | 180=>[0,1,7,5,17,6,24,4]
 | 181=>[1,8,9,2,16,0,3,36,52]
 | 182=>[0,2]
 | 183=>[0,2]
 | 184=>[0,1,2,6]
 | 185=>[0,1,2,4,3,10]
 | 186=>[0,2]
 | 187=>[1,0,8,9,10,17,2,11,4,31,6,7]
 | 188=>[0,1,2,3,4]
 | 190=>[0,1]
 | 191=>[0,11,10,12,7,2,8,1,6]
 | 192=>[0,8,7,9,6,3,5,2]
 | 193=>[0,1,2,3,4,7,6]
 | 194=>[0,1,4]
 | 195=>[0,1,17,16,18,15,3,9,10,26,2,6,11,7,4,5]
 | 196=>[0,1,2,4]
 | 197=>[0,1,3,9,4,2,26,5,6,35]
 | 198=>[0,19,18,20,17,15,1,2,3,4,5,49,13,12]
 | 199=>[0,2]
 | 200=>[0,8,7,9,6,5,17,3,2]
 | 201=>[5,0,1,2,3,4,11,12]
 | 202=>[0,1,3,5,2,11,21,4]
 | 203=>[0,2,1,18,3,8,9]
 | 204=>[0,8,7,9,6,5,3,14,2]
 | 205=>[0,1,5,11,6,12,13,16,19,4]
 | 206=>[0,3,2]
 | 207=>[0,1]
 | 208=>[0,1,4]
 | 209=>[0,1,4]
 | 210=>[0,2,1,3]
 | 211=>[0,2,3,9]
 | 212=>[5,6,0,4,10,3,2]
 | _=>[]
noncomputable def inl:Nat→Option Func
 | 3=>some Tryz.f3
 | 4=>some Tryz.f4
 | 5=>some Tryz.f5
 | 6=>some Tryz.f6
 | 7=>some Tryz.f7
 | 8=>some Tryz.f8
 | 9=>some Tryz.f9
 | 10=>some Tryz.f10
 | 11=>some Tryz.f11
 | 12=>some Tryz.f12
 | 13=>some Tryz.f13
 | 14=>some Tryz.f14
 | 15=>some Tryz.f15
 | 16=>some Tryz.f16
 | 17=>some Tryz.f17
 | 18=>some Tryz.f18
 | 19=>some Tryz.f19
 | 20=>some Tryz.f20
 | 21=>some Tryz.f21
 | 22=>some Tryz.f22
 | 23=>some Tryz.f23
 | 24=>some Tryz.f24
 | 25=>some Tryz.f25
 | 26=>some Tryz.f26
 | 27=>some Tryz.f27
 | 28=>some Tryz.f28
 | 29=>some Tryz.f29
 | 30=>some Tryz.f30
 | 31=>some Tryz.f31
 | 32=>some Tryz.f32
 | 33=>some Tryz.f33
 | 34=>some Tryz.f34
 | 35=>some Tryz.f35
 | 36=>some Tryz.f36
 | 37=>some Tryz.f37
 | 38=>some Tryz.f38
 | 39=>some Tryz.f39
 | 40=>some Tryz.f40
 | 41=>some Tryz.f41
 | 42=>some Tryz.f42
 | 43=>some Tryz.f43
 | 44=>some Tryz.f44
 | 45=>some Tryz.f45
 | 46=>some Tryz.f46
 | 47=>some Tryz.f47
 | 48=>some Tryz.f48
 | 49=>some Tryz.f49
 | 50=>some Tryz.f50
 | 51=>some Tryz.f51
 | 52=>some Tryz.f52
 | 53=>some Tryz.f53
 | 54=>some Tryz.f54
 | 55=>some Tryz.f55
 | 56=>some Tryz.f56
 | 57=>some Tryz.f57
 | 58=>some Tryz.f58
 | 59=>some Tryz.f59
 | 60=>some Tryz.f60
 | 61=>some Tryz.f61
 | 62=>some Tryz.f62
 | 63=>some Tryz.f63
 | 64=>some Tryz.f64
 | 65=>some Tryz.f65
 | 66=>some Tryz.f66
 | 67=>some Tryz.f67
 | 68=>some Tryz.f68
 | 69=>some Tryz.f69
 | 70=>some Tryz.f70
 | 71=>some Tryz.f71
 | 72=>some Tryz.f72
 | 73=>some Tryz.f73
 | 74=>some Tryz.f74
 | 75=>some Tryz.f75
 | 76=>some Tryz.f76
 | 77=>some Tryz.f77
 | 78=>some Tryz.f78
 | 79=>some Tryz.f79
 | 80=>some Tryz.f80
 | 81=>some Tryz.f81
 | 82=>some Tryz.f82
 | 83=>some Tryz.f83
 | 84=>some Tryz.f84
 | 85=>some Tryz.f85
 | 86=>some Tryz.f86
 | 87=>some Tryz.f87
 | 88=>some Tryz.f88
 | 89=>some Tryz.f89
 | 90=>some Tryz.f90
 | 91=>some Tryz.f91
 | 92=>some Tryz.f92
 | 93=>some Tryz.f93
 | 94=>some Tryz.f94
 | 95=>some Tryz.f95
 | 96=>some Tryz.f96
 | 97=>some Tryz.f97
 | 98=>some Tryz.f98
 | 99=>some Tryz.f99
 | 100=>some Tryz.f100
 | 101=>some Tryz.f101
 | 102=>some Tryz.f102
 | 103=>some Tryz.f103
 | 104=>some Tryz.f104
 | 105=>some Tryz.f105
 | 106=>some Tryz.f106
 | 107=>some Tryz.f107
 | 108=>some Tryz.f108
 | 109=>some Tryz.f109
 | 110=>some Tryz.f110
 | 111=>some Tryz.f111
 | 112=>some Tryz.f112
 | 113=>some Tryz.f113
 | 114=>some Tryz.f114
 | 115=>some Tryz.f115
 | 116=>some Tryz.f116
 | 117=>some Tryz.f117
 | 118=>some Tryz.f118
 | 119=>some Tryz.f119
 | 120=>some Tryz.f120
 | 121=>some Tryz.f121
 | 122=>some Tryz.f122
 | 123=>some Tryz.f123
 | 124=>some Tryz.f124
 | 125=>some Tryz.f125
 | 126=>some Tryz.f126
 | 127=>some Tryz.f127
 | 128=>some Tryz.f128
 | 129=>some Tryz.f129
 | 130=>some Tryz.f130
 | 131=>some Tryz.f131
 | 132=>some Tryz.f132
 | 133=>some Tryz.f133
 | 134=>some Tryz.f134
 | 135=>some Tryz.f135
 | 136=>some Tryz.f136
 | 137=>some Tryz.f137
 | 138=>some Tryz.f138
 | 139=>some Tryz.f139
 | 140=>some Tryz.f140
 | 141=>some Tryz.f141
 | 142=>some Tryz.f142
 | 143=>some Tryz.f143
 | 144=>some Tryz.f144
 | 145=>some Tryz.f145
 | 146=>some Tryz.f146
 | 147=>some Tryz.f147
 | 148=>some Tryz.f148
 | 149=>some Tryz.f149
 | 150=>some Tryz.f150
 | 151=>some Tryz.f151
 | 152=>some Tryz.f152
 | 153=>some Tryz.f153
 | 154=>some Tryz.f154
 | 155=>some Tryz.f155
 | 156=>some Tryz.f156
 | 157=>some Tryz.f157
 | 158=>some Tryz.f158
 | 159=>some Tryz.f159
 | 160=>some Tryz.f160
 | 161=>some Tryz.f161
 | 162=>some Tryz.f162
 | 163=>some Tryz.f163
 | 164=>some Tryz.f164
 | 165=>some Tryz.f165
 | 166=>some Tryz.f166
 | 167=>some Tryz.f167
 | 168=>some Tryz.f168
 | 169=>some Tryz.f169
 | 170=>some Tryz.f170
 | 171=>some Tryz.f171
 | 172=>some Tryz.f172
 | 173=>some Tryz.f173
 | 174=>some Tryz.f174
 | 175=>some Tryz.f175
 | 176=>some Tryz.f176
 | 177=>some Tryz.f177
 | 178=>some Tryz.f178
 | 179=>some Tryz.f179
 | 180=>some Tryz.f180
 | 181=>some Tryz.f181
 | 182=>some Tryz.f182
 | 183=>some Tryz.f183
 | 184=>some Tryz.f184
 | 185=>some Tryz.f185
 | 186=>some Tryz.f186
 | 187=>some Tryz.f187
 | 188=>some Tryz.f188
 | 190=>some Tryz.f190
 | 191=>some Tryz.f191
 | 192=>some Tryz.f192
 | 193=>some Tryz.f193
 | 194=>some Tryz.f194
 | 195=>some Tryz.f195
 | 196=>some Tryz.f196
 | 197=>some Tryz.f197
 | 198=>some Tryz.f198
 | 199=>some Tryz.f199
 | 200=>some Tryz.f200
 | 201=>some Tryz.f201
 | 202=>some Tryz.f202
 | 203=>some Tryz.f203
 | 204=>some Tryz.f204
 | 205=>some Tryz.f205
 | 206=>some Tryz.f206
 | 207=>some Tryz.f207
 | 208=>some Tryz.f208
 | 209=>some Tryz.f209
 | 210=>some Tryz.f210
 | 211=>some Tryz.f211
 | 212=>some Tryz.f212
 | _=>none
theorem ZsZ:tabB Tryz.prog tab=true:=by kernel_rfl
theorem ZQb:cmpsB Tryz.prog tab=true:=by kernel_rfl
theorem mixed:Tryz.prog.follows .mixedOrders=true:=by kernel_rfl
theorem ZNw:∀ g fn,inl g=some fn→Tryz.prog.funcs[g]? = some fn∧(fn.name == "runtime.NumGoroutine")=false:=by
 intro g fn h
 unfold inl at h
 split at h
 ·cases h;exact ⟨Tryz.func3,by kernel_rfl⟩
 ·cases h;exact ⟨Tryz.func4,by kernel_rfl⟩
 ·cases h;exact ⟨Tryz.func5,by kernel_rfl⟩
 ·cases h;exact ⟨Tryz.func6,by kernel_rfl⟩
 ·cases h;exact ⟨Tryz.func7,by kernel_rfl⟩
 ·cases h;exact ⟨Tryz.func8,by kernel_rfl⟩
 ·cases h;exact ⟨Tryz.func9,by kernel_rfl⟩
 ·cases h;exact ⟨Tryz.func10,by kernel_rfl⟩
 ·cases h;exact ⟨Tryz.func11,by kernel_rfl⟩
 ·cases h;exact ⟨Tryz.func12,by kernel_rfl⟩
 ·cases h;exact ⟨Tryz.func13,by kernel_rfl⟩
 ·cases h;exact ⟨Tryz.func14,by kernel_rfl⟩
 ·cases h;exact ⟨Tryz.func15,by kernel_rfl⟩
 ·cases h;exact ⟨Tryz.func16,by kernel_rfl⟩
 ·cases h;exact ⟨Tryz.func17,by kernel_rfl⟩
 ·cases h;exact ⟨Tryz.func18,by kernel_rfl⟩
 ·cases h;exact ⟨Tryz.func19,by kernel_rfl⟩
 ·cases h;exact ⟨Tryz.func20,by kernel_rfl⟩
 ·cases h;exact ⟨Tryz.func21,by kernel_rfl⟩
 ·cases h;exact ⟨Tryz.func22,by kernel_rfl⟩
 ·cases h;exact ⟨Tryz.func23,by kernel_rfl⟩
 ·cases h;exact ⟨Tryz.func24,by kernel_rfl⟩
 ·cases h;exact ⟨Tryz.func25,by kernel_rfl⟩
 ·cases h;exact ⟨Tryz.func26,by kernel_rfl⟩
 ·cases h;exact ⟨Tryz.func27,by kernel_rfl⟩
 ·cases h;exact ⟨Tryz.func28,by kernel_rfl⟩
 ·cases h;exact ⟨Tryz.func29,by kernel_rfl⟩
 ·cases h;exact ⟨Tryz.func30,by kernel_rfl⟩
 ·cases h;exact ⟨Tryz.func31,by kernel_rfl⟩
 ·cases h;exact ⟨Tryz.func32,by kernel_rfl⟩
 ·cases h;exact ⟨Tryz.func33,by kernel_rfl⟩
 ·cases h;exact ⟨Tryz.func34,by kernel_rfl⟩
 ·cases h;exact ⟨Tryz.func35,by kernel_rfl⟩
 ·cases h;exact ⟨Tryz.func36,by kernel_rfl⟩
 ·cases h;exact ⟨Tryz.func37,by kernel_rfl⟩
 ·cases h;exact ⟨Tryz.func38,by kernel_rfl⟩
 ·cases h;exact ⟨Tryz.func39,by kernel_rfl⟩
 ·cases h;exact ⟨Tryz.func40,by kernel_rfl⟩
 ·cases h;exact ⟨Tryz.func41,by kernel_rfl⟩
 ·cases h;exact ⟨Tryz.func42,by kernel_rfl⟩
 ·cases h;exact ⟨Tryz.func43,by kernel_rfl⟩
 ·cases h;exact ⟨Tryz.func44,by kernel_rfl⟩
 ·cases h;exact ⟨Tryz.func45,by kernel_rfl⟩
 ·cases h;exact ⟨Tryz.func46,by kernel_rfl⟩
 ·cases h;exact ⟨Tryz.func47,by kernel_rfl⟩
 ·cases h;exact ⟨Tryz.func48,by kernel_rfl⟩
 ·cases h;exact ⟨Tryz.func49,by kernel_rfl⟩
 ·cases h;exact ⟨Tryz.func50,by kernel_rfl⟩
 ·cases h;exact ⟨Tryz.func51,by kernel_rfl⟩
 ·cases h;exact ⟨Tryz.func52,by kernel_rfl⟩
 ·cases h;exact ⟨Tryz.func53,by kernel_rfl⟩
 ·cases h;exact ⟨Tryz.func54,by kernel_rfl⟩
 ·cases h;exact ⟨Tryz.func55,by kernel_rfl⟩
 ·cases h;exact ⟨Tryz.func56,by kernel_rfl⟩
 ·cases h;exact ⟨Tryz.func57,by kernel_rfl⟩
 ·cases h;exact ⟨Tryz.func58,by kernel_rfl⟩
 ·cases h;exact ⟨Tryz.func59,by kernel_rfl⟩
 ·cases h;exact ⟨Tryz.func60,by kernel_rfl⟩
 ·cases h;exact ⟨Tryz.func61,by kernel_rfl⟩
 ·cases h;exact ⟨Tryz.func62,by kernel_rfl⟩
 ·cases h;exact ⟨Tryz.func63,by kernel_rfl⟩
 ·cases h;exact ⟨Tryz.func64,by kernel_rfl⟩
 ·cases h;exact ⟨Tryz.func65,by kernel_rfl⟩
 ·cases h;exact ⟨Tryz.func66,by kernel_rfl⟩
 ·cases h;exact ⟨Tryz.func67,by kernel_rfl⟩
 ·cases h;exact ⟨Tryz.func68,by kernel_rfl⟩
 ·cases h;exact ⟨Tryz.func69,by kernel_rfl⟩
 ·cases h;exact ⟨Tryz.func70,by kernel_rfl⟩
 ·cases h;exact ⟨Tryz.func71,by kernel_rfl⟩
 ·cases h;exact ⟨Tryz.func72,by kernel_rfl⟩
 ·cases h;exact ⟨Tryz.func73,by kernel_rfl⟩
 ·cases h;exact ⟨Tryz.func74,by kernel_rfl⟩
 ·cases h;exact ⟨Tryz.func75,by kernel_rfl⟩
 ·cases h;exact ⟨Tryz.func76,by kernel_rfl⟩
 ·cases h;exact ⟨Tryz.func77,by kernel_rfl⟩
 ·cases h;exact ⟨Tryz.func78,by kernel_rfl⟩
 ·cases h;exact ⟨Tryz.func79,by kernel_rfl⟩
 ·cases h;exact ⟨Tryz.func80,by kernel_rfl⟩
 ·cases h;exact ⟨Tryz.func81,by kernel_rfl⟩
 ·cases h;exact ⟨Tryz.func82,by kernel_rfl⟩
 ·cases h;exact ⟨Tryz.func83,by kernel_rfl⟩
 ·cases h;exact ⟨Tryz.func84,by kernel_rfl⟩
 ·cases h;exact ⟨Tryz.func85,by kernel_rfl⟩
 ·cases h;exact ⟨Tryz.func86,by kernel_rfl⟩
 ·cases h;exact ⟨Tryz.func87,by kernel_rfl⟩
 ·cases h;exact ⟨Tryz.func88,by kernel_rfl⟩
 ·cases h;exact ⟨Tryz.func89,by kernel_rfl⟩
 ·cases h;exact ⟨Tryz.func90,by kernel_rfl⟩
 ·cases h;exact ⟨Tryz.func91,by kernel_rfl⟩
 ·cases h;exact ⟨Tryz.func92,by kernel_rfl⟩
 ·cases h;exact ⟨Tryz.func93,by kernel_rfl⟩
 ·cases h;exact ⟨Tryz.func94,by kernel_rfl⟩
 ·cases h;exact ⟨Tryz.func95,by kernel_rfl⟩
 ·cases h;exact ⟨Tryz.func96,by kernel_rfl⟩
 ·cases h;exact ⟨Tryz.func97,by kernel_rfl⟩
 ·cases h;exact ⟨Tryz.func98,by kernel_rfl⟩
 ·cases h;exact ⟨Tryz.func99,by kernel_rfl⟩
 ·cases h;exact ⟨Tryz.func100,by kernel_rfl⟩
 ·cases h;exact ⟨Tryz.func101,by kernel_rfl⟩
 ·cases h;exact ⟨Tryz.func102,by kernel_rfl⟩
 ·cases h;exact ⟨Tryz.func103,by kernel_rfl⟩
 ·cases h;exact ⟨Tryz.func104,by kernel_rfl⟩
 ·cases h;exact ⟨Tryz.func105,by kernel_rfl⟩
 ·cases h;exact ⟨Tryz.func106,by kernel_rfl⟩
 ·cases h;exact ⟨Tryz.func107,by kernel_rfl⟩
 ·cases h;exact ⟨Tryz.func108,by kernel_rfl⟩
 ·cases h;exact ⟨Tryz.func109,by kernel_rfl⟩
 ·cases h;exact ⟨Tryz.func110,by kernel_rfl⟩
 ·cases h;exact ⟨Tryz.func111,by kernel_rfl⟩
 ·cases h;exact ⟨Tryz.func112,by kernel_rfl⟩
 ·cases h;exact ⟨Tryz.func113,by kernel_rfl⟩
 ·cases h;exact ⟨Tryz.func114,by kernel_rfl⟩
 ·cases h;exact ⟨Tryz.func115,by kernel_rfl⟩
 ·cases h;exact ⟨Tryz.func116,by kernel_rfl⟩
 ·cases h;exact ⟨Tryz.func117,by kernel_rfl⟩
 ·cases h;exact ⟨Tryz.func118,by kernel_rfl⟩
 ·cases h;exact ⟨Tryz.func119,by kernel_rfl⟩
 ·cases h;exact ⟨Tryz.func120,by kernel_rfl⟩
 ·cases h;exact ⟨Tryz.func121,by kernel_rfl⟩
 ·cases h;exact ⟨Tryz.func122,by kernel_rfl⟩
 ·cases h;exact ⟨Tryz.func123,by kernel_rfl⟩
 ·cases h;exact ⟨Tryz.func124,by kernel_rfl⟩
 ·cases h;exact ⟨Tryz.func125,by kernel_rfl⟩
 ·cases h;exact ⟨Tryz.func126,by kernel_rfl⟩
 ·cases h;exact ⟨Tryz.func127,by kernel_rfl⟩
 ·cases h;exact ⟨Tryz.func128,by kernel_rfl⟩
 ·cases h;exact ⟨Tryz.func129,by kernel_rfl⟩
 ·cases h;exact ⟨Tryz.func130,by kernel_rfl⟩
 ·cases h;exact ⟨Tryz.func131,by kernel_rfl⟩
 ·cases h;exact ⟨Tryz.func132,by kernel_rfl⟩
 ·cases h;exact ⟨Tryz.func133,by kernel_rfl⟩
 ·cases h;exact ⟨Tryz.func134,by kernel_rfl⟩
 ·cases h;exact ⟨Tryz.func135,by kernel_rfl⟩
 ·cases h;exact ⟨Tryz.func136,by kernel_rfl⟩
 ·cases h;exact ⟨Tryz.func137,by kernel_rfl⟩
 ·cases h;exact ⟨Tryz.func138,by kernel_rfl⟩
 ·cases h;exact ⟨Tryz.func139,by kernel_rfl⟩
 ·cases h;exact ⟨Tryz.func140,by kernel_rfl⟩
 ·cases h;exact ⟨Tryz.func141,by kernel_rfl⟩
 ·cases h;exact ⟨Tryz.func142,by kernel_rfl⟩
 ·cases h;exact ⟨Tryz.func143,by kernel_rfl⟩
 ·cases h;exact ⟨Tryz.func144,by kernel_rfl⟩
 ·cases h;exact ⟨Tryz.func145,by kernel_rfl⟩
 ·cases h;exact ⟨Tryz.func146,by kernel_rfl⟩
 ·cases h;exact ⟨Tryz.func147,by kernel_rfl⟩
 ·cases h;exact ⟨Tryz.func148,by kernel_rfl⟩
 ·cases h;exact ⟨Tryz.func149,by kernel_rfl⟩
 ·cases h;exact ⟨Tryz.func150,by kernel_rfl⟩
 ·cases h;exact ⟨Tryz.func151,by kernel_rfl⟩
 ·cases h;exact ⟨Tryz.func152,by kernel_rfl⟩
 ·cases h;exact ⟨Tryz.func153,by kernel_rfl⟩
 ·cases h;exact ⟨Tryz.func154,by kernel_rfl⟩
 ·cases h;exact ⟨Tryz.func155,by kernel_rfl⟩
 ·cases h;exact ⟨Tryz.func156,by kernel_rfl⟩
 ·cases h;exact ⟨Tryz.func157,by kernel_rfl⟩
 ·cases h;exact ⟨Tryz.func158,by kernel_rfl⟩
 ·cases h;exact ⟨Tryz.func159,by kernel_rfl⟩
 ·cases h;exact ⟨Tryz.func160,by kernel_rfl⟩
 ·cases h;exact ⟨Tryz.func161,by kernel_rfl⟩
 ·cases h;exact ⟨Tryz.func162,by kernel_rfl⟩
 ·cases h;exact ⟨Tryz.func163,by kernel_rfl⟩
 ·cases h;exact ⟨Tryz.func164,by kernel_rfl⟩
 ·cases h;exact ⟨Tryz.func165,by kernel_rfl⟩
 ·cases h;exact ⟨Tryz.func166,by kernel_rfl⟩
 ·cases h;exact ⟨Tryz.func167,by kernel_rfl⟩
 ·cases h;exact ⟨Tryz.func168,by kernel_rfl⟩
 ·cases h;exact ⟨Tryz.func169,by kernel_rfl⟩
 ·cases h;exact ⟨Tryz.func170,by kernel_rfl⟩
 ·cases h;exact ⟨Tryz.func171,by kernel_rfl⟩
 ·cases h;exact ⟨Tryz.func172,by kernel_rfl⟩
 ·cases h;exact ⟨Tryz.func173,by kernel_rfl⟩
 ·cases h;exact ⟨Tryz.func174,by kernel_rfl⟩
 ·cases h;exact ⟨Tryz.func175,by kernel_rfl⟩
 ·cases h;exact ⟨Tryz.func176,by kernel_rfl⟩
 ·cases h;exact ⟨Tryz.func177,by kernel_rfl⟩
 ·cases h;exact ⟨Tryz.func178,by kernel_rfl⟩
 ·cases h;exact ⟨Tryz.func179,by kernel_rfl⟩
 ·cases h;exact ⟨Tryz.func180,by kernel_rfl⟩
 ·cases h;exact ⟨Tryz.func181,by kernel_rfl⟩
 ·cases h;exact ⟨Tryz.func182,by kernel_rfl⟩
 ·cases h;exact ⟨Tryz.func183,by kernel_rfl⟩
 ·cases h;exact ⟨Tryz.func184,by kernel_rfl⟩
 ·cases h;exact ⟨Tryz.func185,by kernel_rfl⟩
 ·cases h;exact ⟨Tryz.func186,by kernel_rfl⟩
 ·cases h;exact ⟨Tryz.func187,by kernel_rfl⟩
 ·cases h;exact ⟨Tryz.func188,by kernel_rfl⟩
 ·cases h;exact ⟨Tryz.func190,by kernel_rfl⟩
 ·cases h;exact ⟨Tryz.func191,by kernel_rfl⟩
 ·cases h;exact ⟨Tryz.func192,by kernel_rfl⟩
 ·cases h;exact ⟨Tryz.func193,by kernel_rfl⟩
 ·cases h;exact ⟨Tryz.func194,by kernel_rfl⟩
 ·cases h;exact ⟨Tryz.func195,by kernel_rfl⟩
 ·cases h;exact ⟨Tryz.func196,by kernel_rfl⟩
 ·cases h;exact ⟨Tryz.func197,by kernel_rfl⟩
 ·cases h;exact ⟨Tryz.func198,by kernel_rfl⟩
 ·cases h;exact ⟨Tryz.func199,by kernel_rfl⟩
 ·cases h;exact ⟨Tryz.func200,by kernel_rfl⟩
 ·cases h;exact ⟨Tryz.func201,by kernel_rfl⟩
 ·cases h;exact ⟨Tryz.func202,by kernel_rfl⟩
 ·cases h;exact ⟨Tryz.func203,by kernel_rfl⟩
 ·cases h;exact ⟨Tryz.func204,by kernel_rfl⟩
 ·cases h;exact ⟨Tryz.func205,by kernel_rfl⟩
 ·cases h;exact ⟨Tryz.func206,by kernel_rfl⟩
 ·cases h;exact ⟨Tryz.func207,by kernel_rfl⟩
 ·cases h;exact ⟨Tryz.func208,by kernel_rfl⟩
 ·cases h;exact ⟨Tryz.func209,by kernel_rfl⟩
 ·cases h;exact ⟨Tryz.func210,by kernel_rfl⟩
 ·cases h;exact ⟨Tryz.func211,by kernel_rfl⟩
 ·cases h;exact ⟨Tryz.func212,by kernel_rfl⟩
 ·cases h
section
inductive Sh where
 | undef | nil | int (k:IntKind) | bool | str | sl (e:Ty) | sln (e:Ty) | dat (t:Ty)
 | ptr (id off:Nat) | row (id:Nat) | eptr (id sz i off:Nat)
 | view (cs:List Sh) (off:Nat) | clo (f:Nat) (first caps:List Sh) | agg (cs:List Sh) | tup (vs:List Sh)
inductive BSh where
 | box (cs:List Sh)
 | row (e:Ty)
section
variable [RT]
mutual
def ShD:Sh→Type
 | .undef=>Unit
 | .nil=>Unit
 | .int _=>Int
 | .bool=>Bool
 | .str=>ByteArray
 | .sl e=>List (D e)
 | .sln e=>List (D e)
 | .dat t=>D t
 | .ptr _ _=>Unit
 | .row _=>Unit
 | .eptr _ _ _ _=>Unit
 | .view cs _=>Ke cs
 | .clo _ a b=>Ke a×Ke b
 | .agg cs=>Ke cs
 | .tup cs=>Ke cs
def Ke:List Sh→Type
 | []=>Unit
 | s::r=>ShD s×Ke r
end
mutual
def mk:(s:Sh)→ShD s→AV
 | .undef,_=>.undef
 | .nil,_=>.nil
 | .int k,n=>.int k n
 | .bool,b=>.bool b
 | .str,s=>.str s
 | .sl e,l=>.sl e l
 | .sln e,l=>.sl e l
 | .dat t,d=>pack t (expand t d)
 | .ptr id off,_=>.ptr id off
 | .row id,_=>.row id
 | .eptr id sz i off,_=>.eptr id sz i off
 | .view cs off,d=>.view (mks cs d) off
 | .clo f a b,d=>.clo f (mks a d.1) (mks b d.2)
 | .agg cs,d=>.agg (mks cs d)
 | .tup cs,d=>.tup (mks cs d)
def mks:(s:List Sh)→Ke s→List AV
 | [],_=>[]
 | s::r,d=>mk s d.1::mks r d.2
end
def rdInt (k:IntKind):AV→Option Int
 | .int k' n=>if k=k' then some n else none
 | _=>none
def ZTd:AV→Option Bool
 | .bool b=>some b
 | _=>none
def Zhl (t:Ty):AV→Option (List AV)
 | .agg cs=>bif isSt t then some cs else none
 | .undef=>none
 | .tup _=>none
 | v=>bif isSt t then none else some [v]
def rdStr:AV→Option ByteArray
 | .str b=>some b
 | _=>none
def rdSl (e:Ty):AV→Option (List (D e))
 | .sl e' l=>castL e' e l
 | _=>none
def rdSln (e:Ty):AV→Option (List (D e))
 | .sl e' l=>castL e' e l
 | .nil=>some []
 | _=>none
def ZVH:AV→Bool
 | .undef=>true
 | _=>false
def isNil:AV→Bool
 | .nil=>true
 | _=>false
def isPtr (id off:Nat):AV→Bool
 | .ptr i o=>i.beq id&&o.beq off
 | _=>false
def isRow (id:Nat):AV→Bool
 | .row i=>i.beq id
 | _=>false
def ZSL (id sz j off:Nat):AV→Bool
 | .eptr i s k o=>i.beq id&&s.beq sz&&k.beq j&&o.beq off
 | _=>false
def fit (b:Bool):Option Unit:=bif b then some () else none
def ZIC (off:Nat):AV→Option (List AV)
 | .view cs o=>bif o.beq off then some cs else none
 | _=>none
def cloOf (f:Nat):AV→Option (List AV×List AV)
 | .clo g a b=>bif Nat.beq g f then some (a,b) else none
 | _=>none
def aggOf:AV→Option (List AV)
 | .agg cs=>some cs
 | _=>none
def tupOf:AV→Option (List AV)
 | .tup cs=>some cs
 | _=>none
mutual
def rd:(s:Sh)→AV→Option (ShD s)
 | .undef,v=>fit (ZVH v)
 | .nil,v=>fit (isNil v)
 | .int k,v=>rdInt k v
 | .bool,v=>ZTd v
 | .str,v=>rdStr v
 | .sl e,v=>rdSl e v
 | .sln e,v=>rdSln e v
 | .dat t,v=>(Zhl t v).bind fun cs=>Zau t cs
 | .ptr id off,v=>fit (isPtr id off v)
 | .row id,v=>fit (isRow id v)
 | .eptr id sz i off,v=>fit (ZSL id sz i off v)
 | .view cs off,v=>(ZIC off v).bind fun vs=>rds cs vs
 | .clo f a b,v=>(cloOf f v).bind fun p=>(rds a p.1).bind fun x=>(rds b p.2).map fun y=>(x,y)
 | .agg cs,v=>(aggOf v).bind fun vs=>rds cs vs
 | .tup cs,v=>(tupOf v).bind fun vs=>rds cs vs
def rds:(s:List Sh)→List AV→Option (Ke s)
 | [],vs=>match vs with
  | []=>some ()
  | _::_=>none
 | s::r,vs=>match vs with
  | []=>none
  | v::w=>(rd s v).bind fun x=>(rds r w).map fun y=>(x,y)
end
mutual
def ZIu:Sh→Bool
 | .undef=>true
 | .nil=>true
 | .int _=>true
 | .bool=>true
 | .str=>true
 | .sl _=>true
 | .sln _=>false
 | .dat _=>false
 | .ptr _ _=>true
 | .row _=>true
 | .eptr _ _ _ _=>true
 | .view cs _=>Zj4 cs
 | .clo _ a b=>Zj4 a&&Zj4 b
 | .agg cs=>Zj4 cs
 | .tup cs=>Zj4 cs
def Zj4:List Sh→Bool
 | []=>true
 | s::r=>ZIu s&&Zj4 r
end
mutual
def free:Sh→Bool
 | .undef=>true
 | .nil=>true
 | .int _=>true
 | .bool=>true
 | .str=>true
 | .sl _=>true
 | .sln _=>true
 | .dat _=>true
 | .ptr _ _=>false
 | .row _=>false
 | .eptr _ _ _ _=>false
 | .view cs _=>frees cs
 | .clo _ a b=>frees a&&frees b
 | .agg cs=>frees cs
 | .tup cs=>frees cs
def frees:List Sh→Bool
 | []=>true
 | s::r=>free s&&frees r
end
theorem ZrY {b:Bool} {u:Unit} (e:fit b=some u):b=true:=by
 cases b
 ·cases e
 ·rfl
mutual
theorem K5:∀ (s:Sh) (v:AV) (d:ShD s),ZIu s=true→rd s v=some d→v=mk s d
 | .undef,v,d,_,e=>by
  have:=ZrY e
  cases v<;>first | rfl | cases this
 | .nil,v,d,_,e=>by
  have:=ZrY e
  cases v<;>first | rfl | cases this
 | .int k,v,d,_,e=>by
  simp only [rd] at e
  cases v<;>simp only [rdInt] at e<;>first | cases e | skip
  split at e
  ·rename_i h;subst h;cases e;rfl
  ·cases e
 | .bool,v,d,_,e=>by
  simp only [rd] at e
  cases v<;>simp only [ZTd] at e<;>first | (cases e;rfl) | cases e
 | .str,v,d,_,e=>by
  simp only [rd] at e
  cases v<;>simp only [rdStr] at e<;>first | (cases e;rfl) | cases e
 | .sl t,v,d,_,e=>by
  simp only [rd] at e
  cases v<;>simp only [rdSl] at e<;>first | cases e | skip
  obtain ⟨rfl,h⟩:=JN e
  simp only at h
  subst h
  rfl
 | .dat t,v,d,h,e=>nomatch h
 | .sln t,v,d,h,e=>nomatch h
 | .ptr id off,v,d,_,e=>by
  have:=ZrY e
  cases v<;>simp only [isPtr] at this<;>first | cases this | skip
  simp only [Bool.and_eq_true] at this
  rw [ZS.1 this.1,ZS.1 this.2];rfl
 | .row id,v,d,_,e=>by
  have:=ZrY e
  cases v<;>simp only [isRow] at this<;>first | cases this | skip
  rw [ZS.1 this];rfl
 | .eptr id sz i off,v,d,_,e=>by
  have:=ZrY e
  cases v<;>simp only [ZSL] at this<;>first | cases this | skip
  simp only [Bool.and_eq_true] at this
  rw [ZS.1 this.1.1.1,ZS.1 this.1.1.2,ZS.1 this.1.2,ZS.1 this.2];rfl
 | .view cs off,v,d,h,e=>by
  simp only [rd] at e
  obtain ⟨vs,e1,e2⟩:=Option.bind_eq_some_iff.1 e
  cases v<;>simp only [ZIC] at e1<;>first | cases e1 | skip
  rename_i c o
  cases ho:Nat.beq o off<;>rw [ho] at e1
  ·cases e1
  ·cases e1
   rw [ZS.1 ho,Zk8 cs _ d h e2];rfl
 | .clo f a b,v,d,h,e=>by
  simp only [rd] at e
  obtain ⟨p,e1,e2⟩:=Option.bind_eq_some_iff.1 e
  obtain ⟨x,e3,e4⟩:=Option.bind_eq_some_iff.1 e2
  obtain ⟨y,e5,e6⟩:=Option.map_eq_some_iff.1 e4
  simp only [ZIu,Bool.and_eq_true] at h
  cases v<;>simp only [cloOf] at e1<;>first | cases e1 | skip
  rename_i g c1 c2
  cases ho:Nat.beq g f<;>rw [ho] at e1
  ·cases e1
  ·cases e1
   subst e6
   simp only at e3 e5
   rw [ZS.1 ho,Zk8 a _ x h.1 e3,Zk8 b _ y h.2 e5];rfl
 | .agg cs,v,d,h,e=>by
  simp only [rd] at e
  obtain ⟨vs,e1,e2⟩:=Option.bind_eq_some_iff.1 e
  cases v<;>simp only [aggOf] at e1<;>first | cases e1 | skip
  rw [Zk8 cs _ d h e2];rfl
 | .tup cs,v,d,h,e=>by
  simp only [rd] at e
  obtain ⟨vs,e1,e2⟩:=Option.bind_eq_some_iff.1 e
  cases v<;>simp only [tupOf] at e1<;>first | cases e1 | skip
  rw [Zk8 cs _ d h e2];rfl
theorem Zk8:∀ (s:List Sh) (vs:List AV) (d:Ke s),Zj4 s=true→rds s vs=some d→vs=mks s d
 | [],vs,d,_,e=>by
  cases vs
  ·rfl
  ·cases e
 | s::r,vs,d,h,e=>by
  simp only [Zj4,Bool.and_eq_true] at h
  cases vs with
  | nil=>cases e
  | cons v w=>
   simp only [rds] at e
   obtain ⟨x,e1,e2⟩:=Option.bind_eq_some_iff.1 e
   obtain ⟨y,e3,e4⟩:=Option.map_eq_some_iff.1 e2
   subst e4
   rw [K5 s v x h.1 e1,Zk8 r w y h.2 e3];rfl
end
theorem ZJc {t:Ty} {v:AV} {cs:List AV} (e:Zhl t v=some cs):cellsOf v=some cs:=by
 unfold Zhl at e
 split at e
 ·cases h:isSt t<;>rw [h] at e<;>cases e;rfl
 ·cases e
 ·cases e
 ·rename_i v h1 h2 h3
  cases h:isSt t<;>rw [h] at e<;>cases e
  unfold cellsOf
  split<;>simp_all
theorem ZVx {hdr:Nat→Value} {S:Stb} {t:Ty} {v:AV} {u:Value} {d:D t} (h:VRep hdr S v u) (e:(Zhl t v).bind (fun cs=>Zau t cs)=some d):VRep hdr S (pack t (expand t d)) u:=by
 obtain ⟨cs,e1,e2⟩:=Option.bind_eq_some_iff.1 e
 have hc:=Zij h (ZJc e1)
 have hd:=Zjg hc e2
 have hx:=Zol t (hd.expand (hdr:=hdr))
 suffices packV t u.cells.toList=u by rwa [this] at hx
 cases h with
 | agg cs vs hr=>
  cases q:isSt t<;>simp only [Zhl,q] at e1
  ·cases e1
  ·simp [packV,q,Value.cells]
 | undef=>cases e1
 | tup=>cases e1
 | sl e l v h=>
  cases q:isSt t<;>simp only [Zhl,q] at e1
  ·cases h<;>simp [packV,q,Value.cells]
  ·cases e1
 | _=>
  cases q:isSt t<;>simp only [Zhl,q] at e1
  ·simp [packV,q,Value.cells]
  ·cases e1
mutual
theorem ZOb {hdr:Nat→Value} {S:Stb}:∀ (s:Sh) (v:AV) (d:ShD s) (u:Value),rd s v=some d→VRep hdr S v u→VRep hdr S (mk s d) u
 | .dat t,v,d,u,e,h=>ZVx h e
 | .sln t,v,d,u,e,h=>by
  simp only [rd] at e
  cases v<;>simp only [rdSln] at e<;>first | cases e | skip
  ·cases h with | nil ao=>exact .sl _ _ _ (.slNil _ ao 0)
  ·obtain ⟨rfl,hh⟩:=JN e
   simp only at hh
   subst hh
   exact h
 | .undef,v,d,u,e,h=>by have:=K5 .undef v d rfl e;rwa [← this]
 | .nil,v,d,u,e,h=>by have:=K5 .nil v d rfl e;rwa [← this]
 | .int k,v,d,u,e,h=>by have:=K5 (.int k) v d rfl e;rwa [← this]
 | .bool,v,d,u,e,h=>by have:=K5 .bool v d rfl e;rwa [← this]
 | .str,v,d,u,e,h=>by have:=K5 .str v d rfl e;rwa [← this]
 | .sl t,v,d,u,e,h=>by have:=K5 (.sl t) v d rfl e;rwa [← this]
 | .ptr a b,v,d,u,e,h=>by have:=K5 (.ptr a b) v d rfl e;rwa [← this]
 | .row a,v,d,u,e,h=>by have:=K5 (.row a) v d rfl e;rwa [← this]
 | .eptr a b c g,v,d,u,e,h=>by have:=K5 (.eptr a b c g) v d rfl e;rwa [← this]
 | .view cs off,v,d,u,e,h=>by
  simp only [rd] at e
  obtain ⟨vs,e1,e2⟩:=Option.bind_eq_some_iff.1 e
  cases v<;>simp only [ZIC] at e1<;>first | cases e1 | skip
  rename_i c o
  cases ho:Nat.beq o off<;>rw [ho] at e1
  ·cases e1
  ·cases e1
   obtain rfl:=ZS.1 ho
   cases h with | view _ us _ b o2 cells hS hc hr=>exact .view _ us _ b o2 cells hS hc (Zlo cs _ d us e2 hr)
 | .clo f a b,v,d,u,e,h=>by
  simp only [rd] at e
  obtain ⟨p,e1,e2⟩:=Option.bind_eq_some_iff.1 e
  obtain ⟨x,e3,e4⟩:=Option.bind_eq_some_iff.1 e2
  obtain ⟨y,e5,e6⟩:=Option.map_eq_some_iff.1 e4
  cases v<;>simp only [cloOf] at e1<;>first | cases e1 | skip
  rename_i g c1 c2
  cases ho:Nat.beq g f<;>rw [ho] at e1
  ·cases e1
  ·cases e1
   subst e6
   obtain rfl:=ZS.1 ho
   cases h with | clo _ _ _ fs cs h1 h2=>exact .clo _ _ _ fs cs (Zlo a _ x fs e3 h1) (Zlo b _ y cs e5 h2)
 | .agg cs,v,d,u,e,h=>by
  simp only [rd] at e
  obtain ⟨vs,e1,e2⟩:=Option.bind_eq_some_iff.1 e
  cases v<;>simp only [aggOf] at e1<;>first | cases e1 | skip
  cases h with | agg _ us hr=>exact .agg _ us (Zlo cs _ d us e2 hr)
 | .tup cs,v,d,u,e,h=>by
  simp only [rd] at e
  obtain ⟨vs,e1,e2⟩:=Option.bind_eq_some_iff.1 e
  cases v<;>simp only [tupOf] at e1<;>first | cases e1 | skip
  cases h with | tup _ us hr=>exact .tup _ us (Zlo cs _ d us e2 hr)
theorem Zlo {hdr:Nat→Value} {S:Stb}:∀ (s:List Sh) (vs:List AV) (d:Ke s) (us:List Value),rds s vs=some d→VReps hdr S vs us→VReps hdr S (mks s d) us
 | [],vs,d,us,e,h=>by
  cases vs
  ·exact h
  ·cases e
 | s::r,vs,d,us,e,h=>by
  cases h with
  | nil=>cases e
  | cons v u w us h1 h2=>
   simp only [rds] at e
   obtain ⟨x,e1,e2⟩:=Option.bind_eq_some_iff.1 e
   obtain ⟨y,e3,e4⟩:=Option.map_eq_some_iff.1 e2
   subst e4
   exact .cons _ _ _ _ (ZOb s v x u e1 h1) (Zlo r w y us e3 h2)
end
mutual
theorem Zsn:∀ (s:Sh) (d:ShD s),free s=true→(mk s d).ids=[]
 | .dat t,d,_=>ZKN t d
 | .sln t,d,_=>rfl
 | .undef,d,_=>rfl
 | .nil,d,_=>rfl
 | .int k,d,_=>rfl
 | .bool,d,_=>rfl
 | .str,d,_=>rfl
 | .sl t,d,_=>rfl
 | .ptr a b,d,h=>nomatch h
 | .row a,d,h=>nomatch h
 | .eptr a b c g,d,h=>nomatch h
 | .view cs off,d,h=>by simp only [mk,AV.ids];exact Zlm cs d h
 | .clo f a b,d,h=>by
  simp only [free,Bool.and_eq_true] at h
  simp only [mk,AV.ids,Zlm a d.1 h.1,Zlm b d.2 h.2];rfl
 | .agg cs,d,h=>by simp only [mk,AV.ids];exact Zlm cs d h
 | .tup cs,d,h=>by simp only [mk,AV.ids];exact Zlm cs d h
theorem Zlm:∀ (s:List Sh) (d:Ke s),frees s=true→AV.idsL (mks s d)=[]
 | [],d,_=>rfl
 | s::r,d,h=>by
  simp only [frees,Bool.and_eq_true] at h
  simp only [mks,AV.idsL,Zsn s d.1 h.1,Zlm r d.2 h.2];rfl
end
theorem Zuk:∀ (t:Ty) (cs:List AV) (x:D t×List AV),Zi9 t cs=some x→AV.idsL cs=AV.idsL x.2
 | .int k,cs,x,e=>by
  simp only [Zi9,tInt] at e
  split at e
  ·split at e
   ·cases e;rfl
   ·cases e
  ·cases e
 | .bool,cs,x,e=>by
  simp only [Zi9,tBool] at e
  split at e
  ·cases e;rfl
  ·cases e
 | .str,cs,x,e=>by
  simp only [Zi9,tStr] at e
  split at e
  ·cases e;rfl
  ·cases e
 | .sl t,cs,x,e=>by
  simp only [Zi9,tSl] at e
  split at e
  ·obtain ⟨y,_,e2⟩:=Option.bind_eq_some_iff.1 e
   cases e2;rfl
  ·cases e;rfl
  ·cases e
 | .mu n,cs,x,e=>nomatch e
 | .st f,cs,x,e=>Zuk f cs x e
 | .pair a b,cs,x,e=>by
  simp only [Zi9] at e
  obtain ⟨y,e1,e2⟩:=Option.bind_eq_some_iff.1 e
  obtain ⟨z,e3,e4⟩:=Option.bind_eq_some_iff.1 e2
  cases e4
  exact (Zuk a cs y e1).trans (Zuk b y.2 z e3)
theorem ZM3 {t:Ty} {cs:List AV} {d:D t} (e:Zau t cs=some d):AV.idsL cs=[]:=by
 unfold Zau at e
 split at e
 ·rename_i d' h
  exact Zuk t cs _ h
 ·cases e
theorem ZVw {t:Ty} {v:AV} {d:D t} (e:(Zhl t v).bind (fun cs=>Zau t cs)=some d):v.ids=[]:=by
 obtain ⟨cs,e1,e2⟩:=Option.bind_eq_some_iff.1 e
 have hc:AV.idsL cs=[]:=ZM3 e2
 unfold Zhl at e1
 split at e1
 ·cases h:isSt t<;>rw [h] at e1<;>cases e1;simpa [AV.ids] using hc
 ·cases e1
 ·cases e1
 ·cases h:isSt t<;>rw [h] at e1<;>cases e1
  simpa [AV.idsL] using hc
mutual
theorem ZYz:∀ (s:Sh) (v:AV) (d:ShD s),free s=true→rd s v=some d→v.ids=[]
 | .dat t,v,d,_,e=>ZVw e
 | .sln t,v,d,_,e=>by
  simp only [rd] at e
  cases v<;>simp only [rdSln] at e<;>first | rfl | (cases e;rfl) | cases e
 | .undef,v,d,_,e=>by have:=K5 .undef v d rfl e;rw [this];rfl
 | .nil,v,d,_,e=>by have:=K5 .nil v d rfl e;rw [this];rfl
 | .int k,v,d,_,e=>by have:=K5 (.int k) v d rfl e;rw [this];rfl
 | .bool,v,d,_,e=>by have:=K5 .bool v d rfl e;rw [this];rfl
 | .str,v,d,_,e=>by have:=K5 .str v d rfl e;rw [this];rfl
 | .sl t,v,d,_,e=>by have:=K5 (.sl t) v d rfl e;rw [this];rfl
 | .ptr a b,v,d,h,e=>nomatch h
 | .row a,v,d,h,e=>nomatch h
 | .eptr a b c g,v,d,h,e=>nomatch h
 | .view cs off,v,d,h,e=>by
  simp only [rd] at e
  obtain ⟨vs,e1,e2⟩:=Option.bind_eq_some_iff.1 e
  cases v<;>simp only [ZIC] at e1<;>first | cases e1 | skip
  rename_i c o
  cases ho:Nat.beq o off<;>rw [ho] at e1
  ·cases e1
  ·cases e1
   simpa [AV.ids] using Zj3 cs _ d h e2
 | .clo f a b,v,d,h,e=>by
  simp only [rd] at e
  obtain ⟨p,e1,e2⟩:=Option.bind_eq_some_iff.1 e
  obtain ⟨x,e3,e4⟩:=Option.bind_eq_some_iff.1 e2
  obtain ⟨y,e5,e6⟩:=Option.map_eq_some_iff.1 e4
  simp only [free,Bool.and_eq_true] at h
  cases v<;>simp only [cloOf] at e1<;>first | cases e1 | skip
  rename_i g c1 c2
  cases ho:Nat.beq g f<;>rw [ho] at e1
  ·cases e1
  ·cases e1
   simp only at e3 e5
   simp only [AV.ids,Zj3 a _ x h.1 e3,Zj3 b _ y h.2 e5];rfl
 | .agg cs,v,d,h,e=>by
  simp only [rd] at e
  obtain ⟨vs,e1,e2⟩:=Option.bind_eq_some_iff.1 e
  cases v<;>simp only [aggOf] at e1<;>first | cases e1 | skip
  simpa [AV.ids] using Zj3 cs _ d h e2
 | .tup cs,v,d,h,e=>by
  simp only [rd] at e
  obtain ⟨vs,e1,e2⟩:=Option.bind_eq_some_iff.1 e
  cases v<;>simp only [tupOf] at e1<;>first | cases e1 | skip
  simpa [AV.ids] using Zj3 cs _ d h e2
theorem Zj3:∀ (s:List Sh) (vs:List AV) (d:Ke s),frees s=true→rds s vs=some d→AV.idsL vs=[]
 | [],vs,d,_,e=>by
  cases vs
  ·rfl
  ·cases e
 | s::r,vs,d,h,e=>by
  simp only [frees,Bool.and_eq_true] at h
  cases vs with
  | nil=>cases e
  | cons v w=>
   simp only [rds] at e
   obtain ⟨x,e1,e2⟩:=Option.bind_eq_some_iff.1 e
   obtain ⟨y,e3,e4⟩:=Option.map_eq_some_iff.1 e2
   simp only [AV.idsL,ZYz s v x h.1 e1,Zj3 r w y h.2 e3];rfl
end
end
end
section
section
variable [RT] {P:Program} {cx:Ctx} {cal:FuncId→List AV→Prog AV}
def ZMs:BSh→Type
 | .box cs=>Ke cs
 | .row e=>List (D e)
def mkB:(s:BSh)→ZMs s→Blk
 | .box cs,d=>.box (mks cs d)
 | .row e,d=>.row e d
def rdRow (e:Ty):Blk→Option (List (D e))
 | .row e' l=>castL e' e l
 | _=>none
def rdBox:Blk→Option (List AV)
 | .box cs=>some cs
 | _=>none
def rdB:(s:BSh)→Blk→Option (ZMs s)
 | .box cs,b=>(rdBox b).bind fun vs=>rds cs vs
 | .row e,b=>rdRow e b
def ZMv:List (Nat×Sh)→Type
 | []=>Unit
 | s::r=>ShD s.2×ZMv r
def mkT:(s:List (Nat×Sh))→ZMv s→Tm
 | [],_=>[]
 | s::r,d=>(s.1,mk s.2 d.1)::mkT r d.2
def rdT:(s:List (Nat×Sh))→Tm→Option (ZMv s)
 | [],T=>match T with
  | []=>some ()
  | _::_=>none
 | s::r,T=>match T with
  | []=>none
  | x::T=>bif x.1.beq s.1 then (rd s.2 x.2).bind fun a=>(rdT r T).map fun b=>(a,b) else none
def Zfi:List (Nat×BSh)→Type
 | []=>Unit
 | s::r=>ZMs s.2×Zfi r
def mkH:(s:List (Nat×BSh))→Zfi s→List (Nat×Blk)
 | [],_=>[]
 | s::r,d=>(s.1,mkB s.2 d.1)::mkH r d.2
def rdH:(s:List (Nat×BSh))→List (Nat×Blk)→Option (Zfi s)
 | [],T=>match T with
  | []=>some ()
  | _::_=>none
 | s::r,T=>match T with
  | []=>none
  | x::T=>bif x.1.beq s.1 then (rdB s.2 x.2).bind fun a=>(rdH r T).map fun b=>(a,b) else none
structure StS where
 T:List (Nat×Sh)
 H:List (Nat×BSh)
 c:Nat
noncomputable def StD (s:StS):Type:=ZMv s.T×Zfi s.H
noncomputable def rdS (s:StS) (T:Tm) (h:Hp):Option (StD s):=(rdT s.T T).bind fun a=>(rdH s.H h.blks).bind fun b=>bif h.c.beq s.c then some (a,b) else none
noncomputable def sT (s:StS) (d:StD s):Tm:=mkT s.T d.1
noncomputable def sH (s:StS) (d:StD s):Hp:=⟨mkH s.H d.2,s.c⟩
def ZEv:List (Nat×Sh)→Bool
 | []=>true
 | s::r=>ZIu s.2&&ZEv r
def ZQ6:BSh→Bool
 | .box cs=>Zj4 cs
 | .row _=>true
def Zlv:List (Nat×BSh)→Bool
 | []=>true
 | s::r=>ZQ6 s.2&&Zlv r
def Zxv (s:StS):Bool:=ZEv s.T&&Zlv s.H
theorem ZUE {s:BSh} {b:Blk} {d:ZMs s} (hs:ZQ6 s=true) (e:rdB s b=some d):b=mkB s d:=by
 cases s with
 | box cs=>
  simp only [rdB] at e
  obtain ⟨vs,e1,e2⟩:=Option.bind_eq_some_iff.1 e
  cases b<;>simp only [rdBox] at e1<;>cases e1
  rw [Zk8 cs _ d hs e2];rfl
 | row t=>
  simp only [rdB] at e
  cases b<;>simp only [rdRow] at e<;>first | cases e | skip
  obtain ⟨rfl,h⟩:=JN e
  simp only at h
  subst h
  rfl
theorem ZOa:∀ {s:List (Nat×Sh)} {T:Tm} {d:ZMv s},ZEv s=true→rdT s T=some d→T=mkT s d
 | [],T,d,_,e=>by
  cases T
  ·rfl
  ·cases e
 | s::r,T,d,h,e=>by
  simp only [ZEv,Bool.and_eq_true] at h
  cases T with
  | nil=>cases e
  | cons x T=>
   simp only [rdT] at e
   cases hb:Nat.beq x.1 s.1<;>rw [hb] at e
   ·cases e
   ·obtain ⟨a,e1,e2⟩:=Option.bind_eq_some_iff.1 e
    obtain ⟨b,e3,e4⟩:=Option.map_eq_some_iff.1 e2
    subst e4
    obtain ⟨n,v⟩:=x
    simp only at hb e1
    rw [ZS.1 hb,K5 _ _ a h.1 e1,ZOa h.2 e3];rfl
theorem Zy5:∀ {s:List (Nat×BSh)} {T:List (Nat×Blk)} {d:Zfi s},Zlv s=true→rdH s T=some d→T=mkH s d
 | [],T,d,_,e=>by
  cases T
  ·rfl
  ·cases e
 | s::r,T,d,h,e=>by
  simp only [Zlv,Bool.and_eq_true] at h
  cases T with
  | nil=>cases e
  | cons x T=>
   simp only [rdH] at e
   cases hb:Nat.beq x.1 s.1<;>rw [hb] at e
   ·cases e
   ·obtain ⟨a,e1,e2⟩:=Option.bind_eq_some_iff.1 e
    obtain ⟨b,e3,e4⟩:=Option.map_eq_some_iff.1 e2
    subst e4
    obtain ⟨n,v⟩:=x
    simp only at hb e1
    rw [ZS.1 hb,ZUE h.1 e1,Zy5 h.2 e3];rfl
theorem ZGU {s:StS} {T:Tm} {h:Hp} {d:StD s} (hs:Zxv s=true) (e:rdS s T h=some d):T=sT s d∧h=sH s d:=by
 unfold rdS at e
 simp only [Zxv,Bool.and_eq_true] at hs
 obtain ⟨a,e1,e2⟩:=Option.bind_eq_some_iff.1 e
 obtain ⟨b,e3,e4⟩:=Option.bind_eq_some_iff.1 e2
 cases hb:Nat.beq h.c s.c<;>rw [hb] at e4
 ·cases e4
 ·cases e4
  refine ⟨ZOa hs.1 e1,?_⟩
  obtain ⟨bs,c⟩:=h
  simp only at e3 hb
  rw [Zy5 hs.2 e3,ZS.1 hb];rfl
def iterK (base:Nat) (keep:Nat→List Nat) (f:Tm→Prog (Nat×Tm)):Nat→Tm→Prog (Nat×Tm)
 | 0,_=>.fail
 | n+1,T=>(f T).bind fun e=>.norm base (keep e.1) e.2 fun T'=>match e.1 with
  | 0=>iterK base keep f n T'
  | _=>.ret (e.1,T')
theorem ZPl (hcx:QA P cx.tab) (hcmp:ZaP P cx.tab) (hcal:Zg9 P cal) (hmd:P.follows .mixedOrders=true) {id n:Nat} {kp:List Nat} {keep:Nat→List Nat} {x:Code} {b:Nat}
  (hl:∀ q∈ZT b x,∀ p,cx.lps id q.1=some p→Z8 P n (.loop q.2) p) (m:Nat) :
  Z8 P n (.loop x) fun base T=>.norm base (keep 0) T fun T1=>iterK base keep (evC cx cal ⟨id,n,kp,base⟩ b x) m T1:=by
 intro tr ok hdr0 S0 h0 w0 a0 h T hdr S a w f e T' h' f' Q l hn ev hO hK
 obtain ⟨T1,h1,hdr1,rfl,l1,ev0⟩:=l.normed ev
 refine wp_loop_rounds m ?_
 clear l ev
 have ev:=ev0
 clear ev0
 induction m generalizing h1 T1 hdr1 S a w f with
 | zero=>exact (Zh ev).elim
 | succ m ih=>
  simp only [iterK] at ev
  obtain ⟨⟨e2,T2⟩,h2,f2,ev1,ev2⟩:=Qe ev
  rw [rounds_succ]
  refine ZtN (h0:=h0) (a0:=a0) hcx hcmp hcal hmd (fx:=⟨id,n,kp,h0.c⟩) x b hl h1 T1 hdr1 S a w f e2 T2 h2 f2 _ rfl hn l1 ev1 (fun id k=>(hO id k).less fun ht=>by cases ht) fun hdr3 S3 a3 w3 l3=>?_
  obtain ⟨T4,h4,hdr4,_,l4,e4⟩:=l3.normed ev2
  match e2,e4 with
  | 0,e4=>exact ih S3 a3 w3 f2 T4 h4 hdr4 l4 e4
  | 1,e4=>cases Zz e4;exact hK _ _ _ _ l4
  | k+2,e4=>cases Zz e4;exact hK _ _ _ _ l4
def ZkH {R:Type} (base:Nat) (keep:Nat→List Nat) (f:Tm→Prog (Nat×Tm)) (T:Tm) (h:Hp) (K:Nat→Tm→Hp→Option R):Option R:=
 run ((f T).bind fun e=>.norm base (keep e.1) e.2 fun T'=>.ret (e.1,T')) false h ⟨[],[]⟩ fun r h _=>K r.1 r.2 h
theorem ZKY {R:Type} (base:Nat) (keep:Nat→List Nat) (f:Tm→Prog (Nat×Tm)) (T:Tm) (h:Hp) (K:Nat→Tm→Hp→Option R) :
  ZkH base keep f T h K=(ZkH base keep f T h fun c T h=>some (c,T,h)).bind fun r=>K r.1 r.2.1 r.2.2:=by
 unfold ZkH
 rw [JT]
 conv=>rhs;rw [JT]
 rw [Option.bind_assoc]
 rfl
theorem ZUk (base:Nat) (keep:Nat→List Nat) (f:Tm→Prog (Nat×Tm)) (n:Nat) (T:Tm) (h:Hp) :
  go (iterK base keep f (n+1) T) h=ZkH base keep f T h fun e T' h'=>match e with
   | 0=>go (iterK base keep f n T') h'
   | _=>some ((e,T'),h'):=by
 unfold go ZkH
 rw [iterK,run_bind,run_bind]
 congr 1
 funext e h1 f1
 simp only [run]
 cases (Qn (ZP base (keep e.1) e.2 h1.blks)&&leB base h1.c)
 ·rfl
 ·simp only [cond_false,cond_true]
  obtain ⟨e1,T1⟩:=e
  cases e1 with
  | zero=>exact ZsO _ _ _ _ (fun a h=>some (a,h))
  | succ n=>rfl
theorem ZPn (hcx:QA P cx.tab) (hcmp:ZaP P cx.tab) (hcal:Zg9 P cal) (hmd:P.follows .mixedOrders=true) {id n:Nat} {kp:List Nat} {keep:Nat→List Nat} {x:Code} {b:Nat}
  (hl:∀ q∈ZT b x,∀ p,cx.lps id q.1=some p→Z8 P n (.loop q.2) p) {q:Nat→Tm→Prog (Nat×Tm)}
  (hG:∀ base T h r h',go (q base T) h=some (r,h')→∃ m,go (iterK base keep (evC cx cal ⟨id,n,kp,base⟩ b x) m T) h=some (r,h')) :
  Z8 P n (.loop x) fun base T=>.norm base (keep 0) T (q base):=by
 refine Z8.weaken fun base T tr h f r h' f' e=>?_
 obtain ⟨rfl,hn,e1⟩:=ZJe e
 have e2:=e1
 unfold ex at e2
 rw [JT] at e2
 have e3:go (q base (keepT (renOf base (ZP base (keep 0) T h.blks)) T (keep 0))) ⟨extB base (renOf base (ZP base (keep 0) T h.blks)) h.blks++newB (renOf base (ZP base (keep 0) T h.blks)) h.blks base (ZP base (keep 0) T h.blks),base+(ZP base (keep 0) T h.blks).length⟩=some (r,h'):=by
  unfold go
  rw [ZsO _ _ ⟨[],[]⟩ f (fun a h=>some (a,h)),JT,e1];rfl
 obtain ⟨m,e4⟩:=hG _ _ _ _ _ e3
 obtain ⟨f2,e5⟩:=ZVk e4 f
 refine ⟨_,f2,ZPl (keep:=keep) (kp:=kp) hcx hcmp hcal hmd hl m,?_⟩
 unfold ex at e ⊢
 simp only [run,cond_false] at e ⊢
 cases q:(Qn (ZP base (keep 0) T h.blks)&&leB base h.c)<;>rw [q] at e
 ·cases e
 ·simp only [cond_true]
  exact e5
noncomputable def Zn {X Y:Type} (step:X→Option (X⊕Y)):Nat→X→Option Y
 | 0,_=>none
 | n+1,x=>match step x with
  | some (.inl x')=>Zn step n x'
  | some (.inr y)=>some y
  | none=>none
def rdO {X Y:Type} (get:Tm→Hp→Option X) (getY:Nat→Tm→Hp→Option Y) (c:Nat) (T:Tm) (h:Hp):Option (X⊕Y):=
 bif c.beq 0 then (get T h).map .inl else (getY c T h).map .inr
theorem ZNC {X Y:Type} {base:Nat} {keep:Nat→List Nat} {F:Tm→Prog (Nat×Tm)} {putT:X→Tm} {putH:X→Hp} {get:Tm→Hp→Option X} {getY:Nat→Tm→Hp→Option Y} {outY:Y→(Nat×Tm)×Hp}
  (hget:∀ T h x,get T h=some x→T=putT x∧h=putH x) (hY:∀ c T h y,getY c T h=some y→((c,T),h)=outY y) {step:X→Option (X⊕Y)}
  (hs:∀ x,ZkH base keep F (putT x) (putH x) (rdO get getY)=step x):∀ (n:Nat) (x:X) (y:Y),Zn step n x=some y→go (iterK base keep F n (putT x)) (putH x)=some (outY y)
 | 0,x,y,e=>nomatch e
 | n+1,x,y,e=>by
  rw [ZUk,ZKY]
  have h1:=hs x
  rw [ZKY] at h1
  rw [Zn] at e
  cases hr:ZkH base keep F (putT x) (putH x) fun c T h=>some (c,T,h) with
  | none=>rw [hr] at h1;rw [← h1] at e;cases e
  | some r=>
   obtain ⟨c,T,h⟩:=r
   rw [hr] at h1
   simp only [Option.bind_some] at h1 ⊢
   cases c with
   | zero=>
    simp only [rdO,show Nat.beq 0 0=true from rfl,cond_true] at h1
    cases hg:get T h with
    | none=>rw [hg] at h1;rw [← h1] at e;cases e
    | some x'=>
     rw [hg] at h1
     rw [← h1] at e
     obtain ⟨rfl,rfl⟩:=hget T h x' hg
     exact ZNC hget hY hs n x' y e
   | succ c=>
    simp only [rdO,show Nat.beq (c+1) 0=false from rfl,cond_false] at h1
    cases hg:getY (c+1) T h with
    | none=>rw [hg] at h1;rw [← h1] at e;cases e
    | some y'=>
     rw [hg] at h1
     rw [← h1] at e
     cases e
     rw [← hY _ _ _ _ hg];rfl
noncomputable def getE {Y:Type} (code:Nat) (s:StS) (flat:StD s→Y) (c:Nat) (T:Tm) (h:Hp):Option Y:=bif c.beq code then (rdS s T h).map flat else none
def getOr {A B:Type} (g1:Nat→Tm→Hp→Option A) (g2:Nat→Tm→Hp→Option B) (c:Nat) (T:Tm) (h:Hp):Option (A⊕B):=match g1 c T h with
 | some a=>some (.inl a)
 | none=>(g2 c T h).map .inr
def outE {Y:Type} (code:Nat) (s:StS) (un:Y→StD s) (y:Y):(Nat×Tm)×Hp:=((code,sT s (un y)),sH s (un y))
noncomputable def altE {Y:Type} (code:Nat) (s:StS) (un:Y→StD s) (y:Y):Prog (Nat×Tm):=.glob (fun _=>some (outE code s un y)) .ret
theorem Zp {Y:Type} {code:Nat} {s:StS} {flat:StD s→Y} {un:Y→StD s} (hs:Zxv s=true) (hu:∀ d,un (flat d)=d) (c:Nat) (T:Tm) (h:Hp) (y:Y) (e:getE code s flat c T h=some y):((c,T),h)=outE code s un y:=by
 unfold getE at e
 cases hb:Nat.beq c code<;>rw [hb] at e
 ·cases e
 ·obtain ⟨d,e1,rfl⟩:=Option.map_eq_some_iff.1 e
  obtain ⟨rfl,rfl⟩:=ZGU hs e1
  unfold outE
  rw [hu,ZS.1 hb]
theorem Qh {A B:Type} {g1:Nat→Tm→Hp→Option A} {g2:Nat→Tm→Hp→Option B} {o1:A→(Nat×Tm)×Hp} {o2:B→(Nat×Tm)×Hp} (h1:∀ c T h y,g1 c T h=some y→((c,T),h)=o1 y) (h2:∀ c T h y,g2 c T h=some y→((c,T),h)=o2 y)
  (c:Nat) (T:Tm) (h:Hp) (y:A⊕B) (e:getOr g1 g2 c T h=some y):((c,T),h)=Sum.elim o1 o2 y:=by
 unfold getOr at e
 split at e
 ·rename_i a ha;cases e;exact h1 _ _ _ _ ha
 ·obtain ⟨b,e1,rfl⟩:=Option.map_eq_some_iff.1 e
  exact h2 _ _ _ _ e1
def ZEa {Y:Type} (alt:Y→Prog (Nat×Tm)) (out:Y→(Nat×Tm)×Hp):Prop:=∀ y h r,go (alt y) h=some r→r=out y
theorem Zo {Y:Type} (code:Nat) (s:StS) (un:Y→StD s):ZEa (altE code s un) (outE code s un):=by
 intro y h r e
 unfold go altE at e
 simp only [run,cond_false,Option.bind_some] at e
 exact (Option.some.inj e).symm
theorem Qg {A B:Type} {a1:A→Prog (Nat×Tm)} {a2:B→Prog (Nat×Tm)} {o1:A→(Nat×Tm)×Hp} {o2:B→(Nat×Tm)×Hp} (h1:ZEa a1 o1) (h2:ZEa a2 o2):ZEa (fun y=>.alt y a1 a2) (Sum.elim o1 o2):=by
 intro y h r e
 unfold go at e
 simp only [run] at e
 cases y with
 | inl a=>exact h1 a h r e
 | inr a=>exact h2 a h r e
noncomputable def varP {X Y:Type} (base0:Nat) (get:Tm→Hp→Option X) (L:X→Option Y) (alt:Y→Prog (Nat×Tm)) (next:Nat→Tm→Prog (Nat×Tm)) (base:Nat) (T:Tm):Prog (Nat×Tm):=
 bif base.beq base0 then .glob (fun h=>some (get T h,h)) fun o=>match o with
  | some x=>.opt (L x) alt
  | none=>next base T
 else next base T
def ZI (keep:Nat→List Nat) (F:Nat→Tm→Prog (Nat×Tm)) (q:Nat→Tm→Prog (Nat×Tm)):Prop:=
 ∀ base T h r h',go (q base T) h=some (r,h')→∃ m,go (iterK base keep (F base) m T) h=some (r,h')
theorem ZI.fail (keep:Nat→List Nat) (F:Nat→Tm→Prog (Nat×Tm)):ZI keep F fun _ _=>.fail:=fun _ _ _ _ _ e=>nomatch e
theorem ZWG {X Y:Type} {base0:Nat} {keep:Nat→List Nat} {F:Nat→Tm→Prog (Nat×Tm)} {s:StS} {flat:StD s→X} {un:X→StD s} (hss:Zxv s=true) (hu:∀ d,un (flat d)=d)
  {getY:Nat→Tm→Hp→Option Y} {outY:Y→(Nat×Tm)×Hp} (hY:∀ c T h y,getY c T h=some y→((c,T),h)=outY y) {step:X→Option (X⊕Y)}
  (hs:∀ x,ZkH base0 keep (F base0) (sT s (un x)) (sH s (un x)) (rdO (fun T h=>(rdS s T h).map flat) getY)=step x) {L:X→Option Y} (hL:∀ x y,L x=some y→∃ n,Zn step n x=some y)
  {alt:Y→Prog (Nat×Tm)} (ha:ZEa alt outY) {next:Nat→Tm→Prog (Nat×Tm)} (hn:ZI keep F next):ZI keep F (varP base0 (fun T h=>(rdS s T h).map flat) L alt next):=by
 have hget:∀ T h x,(rdS s T h).map flat=some x→T=sT s (un x)∧h=sH s (un x):=fun T h x e=>by
  obtain ⟨d,e1,rfl⟩:=Option.map_eq_some_iff.1 e
  rw [hu];exact ZGU hss e1
 intro base T h r h' e
 unfold varP at e
 cases hb:Nat.beq base base0<;>rw [hb] at e
 ·exact hn base T h r h' e
 ·obtain rfl:=ZS.1 hb
  unfold go at e
  simp only [cond_true,run,cond_false,Option.bind_some] at e
  cases hg:(rdS s T h).map flat with
  | none=>rw [hg] at e;exact hn base T h r h' e
  | some x=>
   rw [hg] at e
   simp only [run] at e
   obtain ⟨y,e1,e2⟩:=Option.bind_eq_some_iff.1 e
   obtain ⟨rfl,rfl⟩:=hget T h x hg
   obtain ⟨n,e3⟩:=hL x y e1
   refine ⟨n,?_⟩
   rw [ZNC hget hY hs n x y e3]
   congr 1
   exact (ha y _ _ e2).symm
end
end
section
section
variable [RT]
theorem ZtH {α β:Type}:∀ (vs:List AV) (k:List AV→Prog α) (f:α→Prog β),(capL vs k).bind f=capL vs fun r=>(k r).bind f
 | [],_,_=>rfl
 | v::r,k,f=>by
  cases v with
  | ptr id off=>
   simp only [capL,Prog.bind]
   congr 1
   funext b
   cases b with
   | box cs=>
    simp only
    cases dataL cs
    ·exact ZtH r _ f
    ·simp only [cond_true,Prog.bind];congr 1;exact ZtH r _ f
   | row e l=>rfl
  | _=>simp only [capL];exact ZtH r _ f
theorem ZyO {α β:Type}:∀ (vs:List AV) (k:List AV→Prog α) (f:α→Prog β),(lookL vs k).bind f=lookL vs fun r=>(k r).bind f
 | [],_,_=>rfl
 | v::r,k,f=>by
  cases v with
  | row id=>
   simp only [lookL,Prog.bind]
   congr 1
   funext b
   cases b with
   | box cs=>rfl
   | row e l=>exact ZyO r _ f
  | _=>simp only [lookL];exact ZyO r _ f
theorem Zzj {α β:Type}:∀ (vs:List AV) (k:List AV→Prog α) (f:α→Prog β),(rowsL vs k).bind f=rowsL vs fun r=>(k r).bind f
 | [],_,_=>rfl
 | v::r,k,f=>by
  cases v with
  | row id=>
   simp only [rowsL,Prog.bind]
   congr 1
   funext b
   cases b with
   | box cs=>rfl
   | row e l=>simp only [Prog.bind];congr 1;exact Zzj r _ f
  | _=>simp only [rowsL];exact Zzj r _ f
mutual
theorem ZGx {α β:Type} (dl:Bool):∀ (v:AV) (k:AV→Prog α) (f:α→Prog β),(frz dl v k).bind f=frz dl v fun r=>(k r).bind f
 | .row id,k,f=>by
  simp only [frz,Prog.bind]
  congr 1
  funext b
  cases b with
  | box cs=>rfl
  | row e l=>cases dl<;>simp only [cond_true,cond_false,Prog.bind]
 | .agg cs,k,f=>by simp only [frz];exact Zg3 dl cs _ f
 | .tup cs,k,f=>by simp only [frz];exact Zg3 dl cs _ f
 | .clo g a b,k,f=>by
  simp only [frz]
  cases dl
  ·simp only [cond_false];exact Zg3 false b _ f
  ·simp only [cond_true];exact ZtH b _ f
 | .undef,k,f=>rfl
 | .int _ _,k,f=>rfl
 | .bool _,k,f=>rfl
 | .str _,k,f=>rfl
 | .nil,k,f=>rfl
 | .sl _ _,k,f=>rfl
 | .ptr id off,k,f=>by
  simp only [frz]
  cases dl
  ·simp only [cond_false,Prog.bind]
   congr 1
   funext b
   cases b with
   | box cs=>
    simp only
    rw [ZyO]
    congr 1
    funext c
    cases dataL c<;>rfl
   | row e l=>rfl
  ·rfl
 | .eptr _ _ _ _,k,f=>rfl
 | .sub id sz lo hi,k,f=>by
  simp only [frz,Prog.bind]
  congr 1
  funext b
  cases b with
  | box cs=>rfl
  | row e l=>
   dsimp only
   generalize Nat.beq sz (eTy e).size=q
   cases q<;>cases dl<;>simp only [cond_true,cond_false,Prog.bind]
 | .vsl e id sz n,k,f=>by
  cases dl
  ·rfl
  simp only [frz,Prog.bind,cond_true]
  congr 1
  funext b
  cases b with
  | box cs=>
   dsimp only
   generalize Nat.beq sz (eTy e).size=q
   cases q
   ·rfl
   ·simp only [cond_true,Prog.bind]
    congr 1
    rw [Zzj]
    rfl
  | row e l=>rfl
 | .view _ _,k,f=>rfl
theorem Zg3 {α β:Type} (dl:Bool):∀ (vs:List AV) (k:List AV→Prog α) (f:α→Prog β),(frzL dl vs k).bind f=frzL dl vs fun r=>(k r).bind f
 | [],_,_=>rfl
 | v::r,k,f=>by
  simp only [frzL]
  rw [ZGx dl v]
  congr 1
  funext x
  exact Zg3 dl r _ f
end
theorem ZKh {α:Type}:∀ (vs:List AV) (k:List AV→Prog α),AV.idsL vs=[]→capL vs k=k vs
 | [],_,_=>rfl
 | v::r,k,h=>by
  simp only [AV.idsL,List.append_eq_nil_iff] at h
  cases v with
  | ptr id off=>simp [AV.ids] at h
  | _=>simp only [capL];exact ZKh r _ h.2
mutual
theorem ZNq {α:Type} (dl:Bool):∀ (v:AV) (k:AV→Prog α),v.ids=[]→frz dl v k=k v
 | .row id,k,h=>by simp [AV.ids] at h
 | .agg cs,k,h=>by simp only [frz];exact Zo2 dl cs _ (by simpa [AV.ids] using h)
 | .tup cs,k,h=>by simp only [frz];exact Zo2 dl cs _ (by simpa [AV.ids] using h)
 | .clo g a b,k,h=>by
  simp only [AV.ids,List.append_eq_nil_iff] at h
  simp only [frz]
  cases dl
  ·simp only [cond_false];exact Zo2 false b _ h.2
  ·simp only [cond_true];exact ZKh b _ h.2
 | .undef,k,_=>rfl
 | .int _ _,k,_=>rfl
 | .bool _,k,_=>rfl
 | .str _,k,_=>rfl
 | .nil,k,_=>rfl
 | .sl _ _,k,_=>rfl
 | .ptr _ _,k,h=>by simp [AV.ids] at h
 | .eptr _ _ _ _,k,_=>rfl
 | .sub _ _ _ _,k,h=>by simp [AV.ids] at h
 | .vsl _ _ _ _,k,h=>by simp [AV.ids] at h
 | .view _ _,k,_=>rfl
theorem Zo2 {α:Type} (dl:Bool):∀ (vs:List AV) (k:List AV→Prog α),AV.idsL vs=[]→frzL dl vs k=k vs
 | [],_,_=>rfl
 | v::r,k,h=>by
  simp only [AV.idsL,List.append_eq_nil_iff] at h
  simp only [frzL]
  rw [ZNq dl v _ h.1,Zo2 dl r _ h.2]
end
mutual
theorem ZGV (ρ:Nat→Option Nat):∀ v:AV,v.ids=[]→v.ren ρ=v
 | .ptr id off,h=>by simp [AV.ids] at h
 | .row id,h=>by simp [AV.ids] at h
 | .eptr _ _ _ _,h=>by simp [AV.ids] at h
 | .sub _ _ _ _,h=>by simp [AV.ids] at h
 | .vsl _ _ _ _,h=>by simp [AV.ids] at h
 | .view cs off,h=>by simp only [AV.ren];rw [Zlp ρ cs (by simpa [AV.ids] using h)]
 | .clo f a b,h=>by
  simp only [AV.ids,List.append_eq_nil_iff] at h
  simp only [AV.ren];rw [Zlp ρ a h.1,Zlp ρ b h.2]
 | .agg cs,h=>by simp only [AV.ren];rw [Zlp ρ cs (by simpa [AV.ids] using h)]
 | .tup cs,h=>by simp only [AV.ren];rw [Zlp ρ cs (by simpa [AV.ids] using h)]
 | .undef,_=>rfl
 | .int _ _,_=>rfl
 | .bool _,_=>rfl
 | .str _,_=>rfl
 | .nil,_=>rfl
 | .sl _ _,_=>rfl
theorem Zlp (ρ:Nat→Option Nat):∀ vs:List AV,AV.idsL vs=[]→AV.renL ρ vs=vs
 | [],_=>rfl
 | v::r,h=>by
  simp only [AV.idsL,List.append_eq_nil_iff] at h
  simp only [AV.renL];rw [ZGV ρ v h.1,Zlp ρ r h.2]
end
theorem ZNh:∀ bs:List (Nat×Blk),ZCI 0 bs=[]
 | []=>rfl
 | (k,b)::r=>by simp only [ZCI];rw [show leB 0 k=true from Z5.2 (Nat.zero_le _),cond_true];exact ZNh r
theorem ZKo (ρ:Nat→Option Nat):∀ bs:List (Nat×Blk),extB 0 ρ bs=[]
 | []=>rfl
 | (k,b)::r=>by simp only [extB];rw [show leB 0 k=true from Z5.2 (Nat.zero_le _),cond_true];exact ZKo ρ r
theorem ZKK {α R:Type} (T:Tm) (keep:List Nat) (hT:idsT T keep=[]) (k:Tm→Prog α) (h:Hp) (f:Foot) (K:α→Hp→Foot→Option R) :
  run (.norm 0 keep T k) false h f K=run (k (keepT (renOf 0 []) T keep)) false ⟨[],0⟩ f K:=by
 simp only [run,cond_false]
 have e:ZP 0 keep T h.blks=[]:=by
  unfold ZP
  rw [hT,ZNh]
  rfl
 rw [e,show leB 0 h.c=true from Z5.2 (Nat.zero_le _)]
 simp only [Qn,Bool.and_self,cond_true,ZKo]
 rfl
theorem ZKs {R:Type} (v:AV) (hv:v.ids=[]) (h:Hp) (f:Foot) (K:AV→Hp→Foot→Option R):run (finP true v) false h f K=K v ⟨[],0⟩ f:=by
 unfold finP
 rw [cond_true,ZNq true v _ hv,ZKK _ _ (by simp [idsT,getT,hv])]
 have:getT (keepT (renOf 0 []) [(0,v)] [0]) 0=v:=by
  show AV.ren _ v=v
  exact ZGV _ v hv
 rw [this];rfl
def outP (rs:Sh) (v:AV):Prog (ShD rs):=frz true v fun v'=>.opt (rd rs v') fun d=>.norm 0 [] [] fun _=>.ret d
def evG (q:List AV→Prog AV) (sh:List Sh) (rs:Sh) (x:Ke sh):Option (ShD rs):=run ((q (mks sh x)).bind (outP rs)) false ⟨[],0⟩ ⟨[],[]⟩ fun d _ _=>some d
def qIn (sh:List Sh) (q:List AV→Prog AV) (args:List AV):Prog AV:=.opt (rds sh args) fun x=>q (mks sh x)
def qOut (rs:Sh) (q:List AV→Prog AV) (args:List AV):Prog AV:=(q args).bind fun v=>frz true v fun v'=>.opt (rd rs v') fun d=>.ret (mk rs d)
def conN (sh:List Sh) (rs:Sh) (G:Ke sh→Option (ShD rs)) (args:List AV):Option (Bool×AV×List Blk):=(rds sh args).bind fun x=>(G x).map fun r=>(true,mk rs r,[])
noncomputable def conP (dl:Bool) (sh:List Sh) (rs:Sh) (G:Ke sh→Option (ShD rs)) (args:List AV):Prog AV:=
 frzL dl args fun args'=>.opt (rds sh args') fun x=>.opt (G x) fun r=>.ret (mk rs r)
section
variable {P:Program}
theorem Zg.qIn {g:FuncId} {q:List AV→Prog AV} (hq:Zg P g q) {sh:List Sh} (hf:frees sh=true):Zg P g (Go.Proofs.YtbdcblpjemmipaaGreat.Ex.qIn sh q):=by
 intro tr args h ft v h' ft' vals hdr S w ok e hr hm hv hi hO
 obtain ⟨x,e1,e2⟩:=ZB e
 exact hq tr _ h ft v h' ft' vals hdr S w ok e2 hr hm (Zlo sh args x vals e1 hv) (fun n hn=>by rw [Zlm sh x hf] at hn;cases hn) hO
theorem Zg.qOut {g:FuncId} {q:List AV→Prog AV} (hq:Zg P g q) {rs:Sh} (hf:free rs=true):Zg P g (Go.Proofs.YtbdcblpjemmipaaGreat.Ex.qOut rs q):=by
 intro tr args h ft v h' ft' vals hdr S w ok e hr hm hv hi hO
 obtain ⟨v0,h1,f1,e1,e2⟩:=Qe e
 have hO1:∀ id,ok id→Out tr h.c h1.c id:=fun id k=>(hO id k).less fun ht=>by subst ht;exact ZEg _ _ _ _ e2
 obtain ⟨c1,c2⟩:=hq tr args h ft v0 _ _ vals hdr S w ok e1 hr hm hv hi hO1
 refine ⟨c1,c2.mono ?_⟩
 rintro en w' ⟨u,hdr',S',rfl,p1,k3,k4⟩
 obtain ⟨v',h2,f2,S2,e3,p2,q2,i2,cc⟩:=ZJh v0 _ h1 f1 S' u (okn ok h.c h1.c) p1.real p1.ment k3 _ e2
 obtain ⟨d,e4,e5⟩:=ZB e3
 cases Zz e5
 exact ⟨u,hdr',S2,rfl,p1.trans p2,ZOb rs v' d u e4 q2,fun n hn=>by rw [Zsn rs d hf] at hn;cases hn⟩
theorem conA {g:FuncId} {q:List AV→Prog AV} (hq:Zg P g q) (dl:Bool) {sh:List Sh} {rs:Sh} (hsh:frees sh=true) (hrs:free rs=true) {G:Ke sh→Option (ShD rs)} (hG:∀ x r,G x=some r→evG q sh rs x=some r)
  (hpl:dl=true∨∀ r,ZeX (mk rs r)=true):Zg P g (specP dl (conN sh rs G)):=by
 refine ZFX (fz:=true) ((hq.qIn hsh).qOut hrs) fun args v bs h=>?_
 obtain ⟨x,e1,e2⟩:=Option.bind_eq_some_iff.1 h
 obtain ⟨r,e3,e4⟩:=Option.map_eq_some_iff.1 e2
 cases e4
 refine ⟨Zj3 sh args x hsh e1,hpl.imp id fun k=>⟨k r,rfl⟩,?_⟩
 have hx:=hG x r e3
 unfold evG at hx
 rw [run_bind,JT] at hx
 obtain ⟨⟨v1,h1,f1⟩,e5,e6⟩:=Option.bind_eq_some_iff.1 hx
 have hb:outP rs v1=(frz true v1 .ret).bind fun v'=>.opt (rd rs v') fun d=>.norm 0 [] [] fun _=>.ret d:=by
  rw [ZGx];rfl
 simp only at e6
 rw [hb,run_bind,JT] at e6
 obtain ⟨⟨v2,h2,f2⟩,e7,e8⟩:=Option.bind_eq_some_iff.1 e6
 simp only [run] at e8
 obtain ⟨d,e9,e10⟩:=Option.bind_eq_some_iff.1 e8
 have e11:run (.norm 0 [] [] fun _=>.ret d) false h2 f2 (fun d _ _=>some d)=some r:=e10
 rw [ZKK _ _ rfl] at e11
 obtain rfl:d=r:=Option.some.inj e11
 refine ⟨f2,?_⟩
 unfold ex Go.Proofs.YtbdcblpjemmipaaGreat.Ex.qOut Go.Proofs.YtbdcblpjemmipaaGreat.Ex.qIn
 rw [e1]
 simp only [Prog.bind,run,Option.bind_some]
 rw [run_bind,run_bind,JT,e5]
 simp only [Option.bind_some]
 have hb2:(frz true v1 fun v'=>Prog.opt (rd rs v') fun d=>.ret (mk rs d))=(frz true v1 .ret).bind fun v'=>.opt (rd rs v') fun d=>.ret (mk rs d):=by
  rw [ZGx];rfl
 rw [hb2,run_bind,JT,e7]
 simp only [Option.bind_some,run,e9]
 exact ZKs _ (Zsn rs d hrs) h2 f2 _
theorem Ze {g:FuncId} {q:List AV→Prog AV} (hq:Zg P g q) (dl:Bool) {sh:List Sh} {rs:Sh} (hsh:frees sh=true) (hrs:free rs=true) {G:Ke sh→Option (ShD rs)} (hG:∀ x r,G x=some r→evG q sh rs x=some r)
  (hpl:dl=true∨∀ r,ZeX (mk rs r)=true):Zg P g (conP dl sh rs G):=by
 refine Zg.weaken fun args tr h f r h' f' e=>⟨specP dl (conN sh rs G),f',conA hq dl hsh hrs hG hpl,?_⟩
 have e1:conP dl sh rs G args=(frzL dl args .ret).bind fun args'=>.opt (rds sh args') fun x=>.opt (G x) fun r=>.ret (mk rs r):=by
  rw [Zg3];rfl
 have e2:specP dl (conN sh rs G) args=(frzL dl args .ret).bind fun args'=>.opt (conN sh rs G args') fun r=>.ite r.1 (.ctr fun base=>newsP (W2 base r.2.2.length) r.2.2 (.ret (r.2.1.ren (W2 base r.2.2.length)))) .fail:=by
  rw [Zg3];rfl
 unfold ex at e ⊢
 rw [e1,run_bind,JT] at e
 rw [e2,run_bind,JT]
 obtain ⟨⟨a1,h1,f1⟩,e3,e4⟩:=Option.bind_eq_some_iff.1 e
 rw [e3]
 simp only [Option.bind_some,run] at e4 ⊢
 obtain ⟨x,e5,e6⟩:=Option.bind_eq_some_iff.1 e4
 obtain ⟨y,e7,e8⟩:=Option.bind_eq_some_iff.1 e6
 cases e8
 unfold conN
 rw [e5]
 simp only [Option.bind_some,e7,Option.map_some,cond_true,newsP,run]
 rw [ZGV _ _ (Zsn rs y hrs)]
def rowS (e:Ty):StS:=⟨[(0,.row 0)],[(0,.row e)],1⟩
def evR (q:List AV→Prog AV) (sh:List Sh) (e:Ty) (x:Ke sh):Option (List (D e)):=run ((q (mks sh x)).bind (finP false)) false ⟨[],0⟩ ⟨[],[]⟩ fun v h _=>(rdS (rowS e) [(0,v)] h).map fun d=>d.2.1
def conNR (sh:List Sh) (e:Ty) (G:Ke sh→Option (List (D e))) (args:List AV):Option (Bool×AV×List Blk):=(rds sh args).bind fun x=>(G x).map fun l=>(true,.row 0,[.row e l])
noncomputable def conR (dl:Bool) (sh:List Sh) (e:Ty) (G:Ke sh→Option (List (D e))) (args:List AV):Prog AV:=
 frzL dl args fun args'=>.opt (rds sh args') fun x=>.opt (G x) fun l=>.new (.row e l) fun id=>.ret (.row id)
theorem Zhk {g:FuncId} {q:List AV→Prog AV} (hq:Zg P g q) (dl:Bool) {sh:List Sh} {e:Ty} (hsh:frees sh=true) {G:Ke sh→Option (List (D e))} (hG:∀ x r,G x=some r→evR q sh e x=some r)
  (hpl:dl=true∨Zsu (eTy e)=true):Zg P g (conR dl sh e G):=by
 refine Zg.weaken fun args tr h f r h' f' e1=>⟨specP dl (conNR sh e G),f',?_,?_⟩
 ·refine ZFX (fz:=false) (hq.qIn hsh) fun args v bs h=>?_
  obtain ⟨x,e1,e2⟩:=Option.bind_eq_some_iff.1 h
  obtain ⟨r,e3,e4⟩:=Option.map_eq_some_iff.1 e2
  cases e4
  refine ⟨Zj3 sh args x hsh e1,hpl.imp id fun k=>⟨rfl,by simp only [List.all_cons,List.all_nil,ZwK,Bool.and_true];exact k⟩,?_⟩
  have hx:=hG x r e3
  unfold evR at hx
  rw [JT] at hx
  obtain ⟨⟨v1,h1,f1⟩,e5,e6⟩:=Option.bind_eq_some_iff.1 hx
  obtain ⟨d,e7,e8⟩:=Option.map_eq_some_iff.1 e6
  obtain ⟨hT,hH⟩:=ZGU (s:=rowS e) rfl e7
  obtain rfl:v1=.row 0:=by
   have:[(0,v1)]=[(0,AV.row 0)]:=hT
   simpa using this
  refine ⟨f1,?_⟩
  unfold Go.Proofs.YtbdcblpjemmipaaGreat.Ex.qIn
  rw [e1]
  show ex ((q (mks sh x)).bind (finP false)) false ⟨[],0⟩ ⟨[],[]⟩=_
  rw [e5]
  simp only at hH
  rw [hH,← e8]
  rfl
 ·have e2:conR dl sh e G args=(frzL dl args .ret).bind fun args'=>.opt (rds sh args') fun x=>.opt (G x) fun l=>.new (.row e l) fun id=>.ret (.row id):=by
   rw [Zg3];rfl
  have e3:specP dl (conNR sh e G) args=(frzL dl args .ret).bind fun args'=>.opt (conNR sh e G args') fun r=>.ite r.1 (.ctr fun base=>newsP (W2 base r.2.2.length) r.2.2 (.ret (r.2.1.ren (W2 base r.2.2.length)))) .fail:=by
   rw [Zg3];rfl
  unfold ex at e1 ⊢
  rw [e2,run_bind,JT] at e1
  rw [e3,run_bind,JT]
  obtain ⟨⟨a1,h1,f1⟩,e4,e5⟩:=Option.bind_eq_some_iff.1 e1
  rw [e4]
  simp only [Option.bind_some,run] at e5 ⊢
  obtain ⟨x,e6,e7⟩:=Option.bind_eq_some_iff.1 e5
  obtain ⟨y,e8,e9⟩:=Option.bind_eq_some_iff.1 e7
  cases e9
  unfold conNR
  rw [e6]
  simp only [Option.bind_some,e8,Option.map_some,cond_true]
  rfl
end
end
end
section
section
variable [RT]
def frcV {β:Type} (v:AV) (k:AV→β):β:=match v with
 | .undef=>k .undef
 | .int c n=>k (.int c n)
 | .bool b=>k (.bool b)
 | .str s=>k (.str s)
 | .nil=>k .nil
 | .sl e l=>k (.sl e l)
 | .ptr id off=>k (.ptr id off)
 | .row id=>k (.row id)
 | .eptr id sz i off=>k (.eptr id sz i off)
 | .sub id sz lo hi=>k (.sub id sz lo hi)
 | .vsl e id sz n=>k (.vsl e id sz n)
 | .view cs off=>k (.view cs off)
 | .clo f a b=>k (.clo f a b)
 | .agg cs=>k (.agg cs)
 | .tup vs=>k (.tup vs)
theorem ZVF {β:Type} (v:AV) (k:AV→β):frcV v k=k v:=by cases v<;>rfl
noncomputable def lookX {β:Type} (T:Tm) (l:List Nat):(Tm→β)→β:=@List.rec Nat (fun _=>(Tm→β)→β) (fun k=>k []) (fun t _ ih k=>frcV (getR T t) fun v=>ih fun R=>k ((t,v)::R)) l
theorem ZUr {β:Type} (T:Tm) (l:List Nat) (k:Tm→β):lookX T l k=k (lookT T l):=by
 induction l generalizing k with
 | nil=>rfl
 | cons t l ih=>
  show frcV (getR T t) (fun v=>lookX T l fun R=>k ((t,v)::R))=_
  rw [ZVF,ih,Zod];rfl
noncomputable def ZS8 (ti:TypeId→Option TInfo) (T:Tm) (t:TypeId) (x ix:Operand):Prog AV:=.opt (ti t) fun i=>bif isStr i.ty then
  match evOR T x,evOR T ix with
  | .str s,.int _ n=>.ite (decide (0≤n)) (.opt s[n.toNat]? fun b=>.ret (.int .u8 (b.toNat:Nat))) .fail
  | _,_=>.fail
  else .fail
noncomputable def ZS9 (ti:TypeId→Option TInfo) (T:Tm) (t:TypeId) (p:Operand):Prog AV:=.opt (ti t) fun i=>match evOR T p with
  | .ptr id off=>.get id fun
   | .box cs=>.opt (subR cs off i.ty.size) fun ds=>.ret (pack i.ty ds)
   | .row _ _=>.fail
  | .view cs off=>.opt (subR cs off i.ty.size) fun ds=>.ret (pack i.ty ds)
  | .eptr id sz j off=>.get id fun
   | .row e l=>bif Nat.beq sz (eTy e).size then .opt l[j]? fun d=>.opt (subL (expand (eTy e) (eVal e d)) off i.ty.size) fun ds=>.ret (pack i.ty ds) else .fail
   | .box _=>.fail
  | _=>.fail
noncomputable def ZQR (ti:TypeId→Option TInfo) (T:Tm) (t:TypeId) (p x:Operand):Prog AV:=.opt (ti t) fun i=>.opt (cellsOf (evOR T x)) fun vs=>bif Nat.beq (lenR vs) i.ty.size&&flatR vs then
   match evOR T p with
   | .ptr id off=>.get id fun
    | .box cs=>bif leB (off+lenR vs) (lenR cs) then .put id (.box (splR cs off vs)) (.ret .undef) else .fail
    | .row _ _=>.fail
   | .eptr id sz j off=>Zo1 vs fun vs'=>.get id fun
    | .row e l=>bif Nat.beq sz (eTy e).size then .opt l[j]? fun d=>
     bif leB (off+vs'.length) (eTy e).size then .opt (Zau (eTy e) (Zid (expand (eTy e) (eVal e d)) off vs')) fun d'=>.put id (.row e (l.set j (eMk e d'))) (.ret .undef) else .fail
     else .fail
    | .box _=>.fail
   | _=>.fail
  else .fail
noncomputable def ZFQ (ti:TypeId→Option TInfo) (T:Tm) (t:TypeId) (x ix:Operand):Prog AV:=.opt (ti t) fun i=>.opt (ti i.elem) fun ie=>bif isSl i.ty then
  match evOR T x,evOR T ix with
  | .sl e l,.int _ n=>bif Nat.beq ie.ty.size (eTy e).size then .ite (decide (0≤n)) (.opt l[n.toNat]? fun d=>.ret (.view (expand (eTy e) (eVal e d)) 0)) .fail else .fail
  | .row id,.int _ n=>.get id fun
   | .row e l=>bif Nat.beq ie.ty.size (eTy e).size then .ite (decide (0≤n)) (.opt l[n.toNat]? fun _=>.ret (.eptr id (eTy e).size n.toNat 0)) .fail else .fail
   | .box _=>.fail
  | .vsl _ id sz m,.int _ n=>bif Nat.beq ie.ty.size sz then .ite (decide (0≤n∧n.toNat<m)) (.ret (.ptr id (n.toNat*sz))) .fail else .fail
  | _,_=>.fail
  else .fail
abbrev KX (R α:Type):=α→Hp→Foot→Option R
abbrev Kn (R α:Type):=Bool→Hp→Foot→KX R α→Option R
section
variable {R:Type}
noncomputable def yIte (b:Bool) (p q:Option R):Option R:=@Bool.rec (fun _=>Option R) q p b
noncomputable def xOpt {α β:Type} (x:Option β) (k:β→Kn R α):Kn R α:=fun tr h f K=>@Option.rec β (fun _=>Option R) none (fun b=>k b tr h f K) x
noncomputable def xAlt {α β γ:Type} (x:β⊕γ) (k:β→Kn R α) (l:γ→Kn R α):Kn R α:=fun tr h f K=>@Sum.rec β γ (fun _=>Option R) (fun b=>k b tr h f K) (fun c=>l c tr h f K) x
noncomputable def xGet {α:Type} (id:Nat) (k:Blk→Kn R α):Kn R α:=fun tr h f K=>@Option.rec Blk (fun _=>Option R) none (fun b=>k b tr h (addR tr f id) K) (findR h.blks id)
noncomputable def xPut {α:Type} (id:Nat) (b:Blk) (k:Kn R α):Kn R α:=fun tr h f K=>@Option.rec Blk (fun _=>Option R) none (fun _=>k tr { h with blks:=setR h.blks id b } (addW tr f id) K) (findR h.blks id)
noncomputable def xNew {α:Type} (b:Blk) (k:Nat→Kn R α):Kn R α:=fun tr h f K=>k h.c tr { blks:=(h.c,b)::h.blks,c:=h.c+1 } (addW tr f h.c) K
noncomputable def xDel {α:Type} (id:Nat) (k:Kn R α):Kn R α:=fun tr h f K=>@Option.rec Blk (fun _=>Option R) none (fun _=>k tr { h with blks:=delR h.blks id } (addW tr f id) K) (findR h.blks id)
noncomputable def xSeek {α:Type} (n:Nat) (k:Kn R α):Kn R α:=fun tr h f K=>@Bool.rec (fun _=>Option R) none (k tr { h with c:=n } f K) (leB h.c n)
noncomputable def ZZn {α β:Type} (p:Kn R β) (k:β→Foot→Kn R α):Kn R α:=fun tr h f K=>p true h { rd:=[],wr:=[] } fun b h' f'=>k b f' tr h' { rd:=f'.rd++f.rd,wr:=f'.wr++f.wr } K
noncomputable def xNorm {α:Type} (base:Nat) (keep:List Nat) (T:Tm) (k:Tm→Kn R α):Kn R α:=fun tr h f K=>
  bif tr then none else
  let order:=ZP base keep T h.blks
  bif Qn order&&leB base h.c then k (keepT (renOf base order) T keep) tr { blks:=extB base (renOf base order) h.blks++newB (renOf base order) h.blks base order,c:=base+order.length } f K
  else none
noncomputable def xGlob {α β:Type} (g:Hp→Option (β×Hp)) (k:β→Kn R α):Kn R α:=fun tr h f K=>bif tr then none else @Option.rec (β×Hp) (fun _=>Option R) none (fun r=>k r.1 tr r.2 f K) (g h)
noncomputable def runX {α:Type} (p:Prog α):Kn R α:=
 @Prog.rec _ (fun {α} _=>Kn R α)
  (fun a _ h f K=>K a h f)
  (fun _ _ _ _=>none)
  (fun b _ _ ihp ihq tr h f K=>yIte b (ihp tr h f K) (ihq tr h f K))
  (fun x _ ih=>xOpt x ih)
  (fun x _ _ ihk ihl=>xAlt x ihk ihl)
  (fun id _ ih=>xGet id ih)
  (fun id b _ ih=>xPut id b ih)
  (fun b _ ih=>xNew b ih)
  (fun id _ ih=>xDel id ih)
  (fun _ ih tr h f K=>ih h.c tr h f K)
  (fun n _ ih=>xSeek n ih)
  (fun _ _ ihp ihk=>ZZn ihp ihk)
  (fun base keep T _ ih=>xNorm base keep T ih)
  (fun g _ ih=>xGlob g ih) _ p
end
theorem Zoo {α:Type} (p:Prog α):∀ {R:Type} (tr:Bool) (h:Hp) (f:Foot) (K:KX R α),runX p tr h f K=run p tr h f K:=by
 induction p with
 | ret a=>intros;rfl
 | fail=>intros;rfl
 | ite b p q ihp ihq=>intro R tr h f K;cases b<;>first | exact ihp .. | exact ihq ..
 | opt x k ih=>intro R tr h f K;cases x<;>first | rfl | exact ih ..
 | alt x k l ihk ihl=>intro R tr h f K;cases x<;>first | exact ihk .. | exact ihl ..
 | get id k ih=>
  intro R tr h f K
  change @Option.rec Blk (fun _=>Option R) none (fun b=>runX (k b) tr h (addR tr f id) K) (findR h.blks id)=_
  rw [Zn3]
  simp only [run]
  cases Zm h.blks id<;>first | rfl | exact ih ..
 | put id b k ih=>
  intro R tr h f K
  change @Option.rec Blk (fun _=>Option R) none (fun _=>runX k tr { h with blks:=setR h.blks id b } (addW tr f id) K) (findR h.blks id)=_
  rw [Zn3,ZQ2]
  simp only [run]
  cases Zm h.blks id<;>first | rfl | exact ih ..
 | new b k ih=>intro R tr h f K;exact ih ..
 | del id k ih=>
  intro R tr h f K
  change @Option.rec Blk (fun _=>Option R) none (fun _=>runX k tr { h with blks:=delR h.blks id } (addW tr f id) K) (findR h.blks id)=_
  rw [Zn3,ZQf]
  simp only [run]
  cases Zm h.blks id<;>first | rfl | exact ih ..
 | ctr k ih=>intro R tr h f K;exact ih ..
 | seek n k ih=>
  intro R tr h f K
  change @Bool.rec (fun _=>Option R) none (runX k tr { h with c:=n } f K) (leB h.c n)=_
  simp only [run]
  cases leB h.c n<;>first | rfl | exact ih ..
 | trace p k ihp ihk=>
  intro R tr h f K
  change runX p true h { rd:=[],wr:=[] } (fun b h' f'=>runX (k b f') tr h' { rd:=f'.rd++f.rd,wr:=f'.wr++f.wr } K)=_
  rw [ihp]
  simp only [run,ihk]
 | norm base keep T k ih=>
  intro R tr h f K
  simp only [run]
  cases tr
  ·change (bif Qn (ZP base keep T h.blks)&&leB base h.c then runX (k (keepT (renOf base (ZP base keep T h.blks)) T keep)) false _ f K else none)=_
   simp only [cond_false]
   cases (Qn (ZP base keep T h.blks)&&leB base h.c)<;>first | rfl | exact ih ..
  ·rfl
 | glob g k ih=>
  intro R tr h f K
  simp only [run]
  cases tr
  ·change @Option.rec _ (fun _=>Option R) none (fun r=>runX (k r.1) false r.2 f K) (g h)=_
   simp only [cond_false]
   cases g h<;>first | rfl | exact ih ..
  ·rfl
abbrev ZkY (R:Type):=FuncId→List AV→Kn R AV
def Vv {R α:Type} (t:Kn R α) (p:Prog α):Prop:=∀ (tr:Bool) (h:Hp) (f:Foot) (K:KX R α),t tr h f K=run p tr h f K
theorem Vv.run {R α:Type} (p:Prog α):Vv (R:=R) (runX p) p:=fun tr h f K=>Zoo p tr h f K
theorem Vv.no {R α:Type}:Vv (R:=R) (fun _ _ _ _=>none) (.fail:Prog α):=fun _ _ _ _=>rfl
theorem Vv.bind {R α β:Type} {t:Kn R α} {p:Prog α} {u:α→Kn R β} {q:α→Prog β} (hp:Vv t p) (hq:∀ a,Vv (u a) (q a)):Vv (fun tr h f K=>t tr h f fun a h f=>u a tr h f K) (p.bind q):=by
 intro tr h f K
 rw [run_bind,← hp]
 show t tr h f (fun a h f=>u a tr h f K)=_
 congr 1
 funext a h f
 exact hq a tr h f K
section
variable {R:Type}
noncomputable def xCall (ti:TypeId→Option TInfo) (cal:ZkY R) (T:Tm) (c:Call):Kn R AV:=match c.callee with
  | .builtin b=>runX (ZrM ti b c.argTypes.toList (evLR T c.args.toList))
  | .value x=>match evOR T x with
   | .clo g first caps=>cal g (appR first (appR (evLR T c.args.toList) caps))
   | _=>fun _ _ _ _=>none
  | .invoke _ _=>fun _ _ _ _=>none
noncomputable def opX (cx:Ctx) (cal:ZkY R) (T:Tm) (o:Oper):Kn R AV:=
 match o.op with
 | .move x=>fun _ h f K=>K (evOR T x) h f
 | .assign x=>fun _ h f K=>K (evOR T x) h f
 | .call c=>xCall (tiL cx.tab) cal T c
 | .pick c a b=>runX (qPick T c a b)
 | .alloc t=>runX (ZH4 (tiL cx.tab) t)
 | .box _ x=>runX (qBox T x)
 | .load t p=>runX (ZS9 (tiL cx.tab) T t p)
 | .store t p x=>runX (ZQR (tiL cx.tab) T t p x)
 | .fieldAddr s x g=>runX (Zro (tiL cx.tab) T s x g)
 | .field t x g=>runX (ZH6 (tiL cx.tab) T t x g)
 | .indexAddr t x ix=>runX (ZFQ (tiL cx.tab) T t x ix)
 | .binOp op xT x y _=>runX (binP (tiL cx.tab) op xT (evOR T x) (evOR T y))
 | .unOp op _ x=>runX (qUn T op x)
 | .convert src dst x=>runX (Zy2 (tiL cx.tab) T src dst x)
 | .build t ps=>runX (ZH5 (tiL cx.tab) T t ps)
 | .buildSlice t n ps=>runX (ZoO cx.vr (tiL cx.tab) T t n ps)
 | .makeSlice t n c=>runX (Zrp (tiL cx.tab) T t n c)
 | .slice t x lo hi mx=>runX (ZH8 (tiL cx.tab) T t x lo hi mx)
 | .extract t i=>runX (Zy3 T t i)
 | .makeFunc fn first caps=>runX (Zt2 T fn first caps)
 | .nilCheck x=>runX (Zt3 T x)
 | .index t x ix=>runX (ZS8 (tiL cx.tab) T t x ix)
 | _=>fun _ _ _ _=>none
theorem ZUA (cx:Ctx) {cal:ZkY R} {calP:FuncId→List AV→Prog AV} (hc:∀ g a,Vv (cal g a) (calP g a)) (T:Tm) (o:Oper):Vv (opX cx cal T o) (opP cx calP T o):=by
 unfold opX opP xCall qPick qBox ZS9 ZQR Zro ZH6 ZFQ qUn Zy2 ZH5 ZoO Zrp ZH8 Zy3 Zt2 Zt3 ZH4 ZS8
 simp only [ZEf,ZQk,ZQ7,ZNi,ZjY,ZNk,ZJ7,ZJy,ZFP,Zrt]
 cases o.op with
 | call c=>
  simp only
  cases c.callee with
  | value x=>
   simp only
   cases evO T x with
   | clo g first caps=>simp only;rw [← List.append_assoc];exact hc _ _
   | _=>exact Vv.no
  | builtin b=>exact Vv.run _
  | invoke x m=>exact Vv.no
 | move x=>exact fun tr h f K=>rfl
 | assign x=>exact fun tr h f K=>rfl
 | _=>first | exact Vv.run _ | exact Vv.no
noncomputable def stepX (cx:Ctx) (cal:ZkY R) (n:Nat) (ops:List Oper) (T:Tm) (o:Oper):Kn R Tm:=fun tr h f K=>
 bif inN n o.dst then match o.guard with
 | none=>opX cx cal T o tr h f fun v h f=>K (putT T o.dst v) h f
 | some (j,want)=>match dstOf ops j with
  | none=>none
  | some g=>match getR T g with
   | .bool b=>yIte b
    (bif want then opX cx cal ((g,.bool true)::T) o tr h f (fun v h f=>K (putT ((g,.bool true)::T) o.dst v) h f) else K (putT ((g,.bool true)::T) o.dst (.tup [])) h f)
    (bif want then K (putT ((g,.bool false)::T) o.dst (.tup [])) h f else opX cx cal ((g,.bool false)::T) o tr h f (fun v h f=>K (putT ((g,.bool false)::T) o.dst v) h f))
   | .tup []=>K (putT T o.dst (.tup [])) h f
   | _=>none
 else none
theorem ZIt (cx:Ctx) {cal:ZkY R} {calP:FuncId→List AV→Prog AV} (hc:∀ g a,Vv (cal g a) (calP g a)) (n:Nat) (ops:List Oper) (T:Tm) (o:Oper):Vv (stepX cx cal n ops T o) (stepP cx calP n ops T o):=by
 intro tr h f K
 have one:∀ (T:Tm) (g:AV→Tm),(opX cx cal T o tr h f fun v h f=>K (g v) h f)=run ((opP cx calP T o).bind fun v=>.ret (g v)) tr h f K:=fun T g=>by
  rw [run_bind,ZUA cx hc];rfl
 unfold stepX stepP
 simp only [Zod]
 cases hin:inN n o.dst
 ·rfl
 simp only [cond_true]
 cases hg:o.guard with
 | none=>exact one T _
 | some g=>
  obtain ⟨j,want⟩:=g
  simp only
  cases hd:dstOf ops j with
  | none=>rfl
  | some g=>
   simp only
   generalize getT T g=v
   cases v with
   | bool b=>
    simp only [Go.Proofs.YtbdcblpjemmipaaGreat.Ex.run]
    cases b<;>cases want<;>first | rfl | exact one _ _
   | tup vs=>cases vs<;>rfl
   | _=>rfl
noncomputable def seqX (cx:Ctx) (cal:ZkY R) (n:Nat) (ops:List Oper) (tr:Bool) (K:KX R Tm) (l:List Oper):KX R Tm:=
 @List.rec Oper (fun _=>KX R Tm) K (fun o _ ih T h f=>stepX cx cal n ops T o tr h f ih) l
theorem ZK1 (cx:Ctx) {cal:ZkY R} {calP:FuncId→List AV→Prog AV} (hc:∀ g a,Vv (cal g a) (calP g a)) (n:Nat) (ops:List Oper):∀ (l:List Oper) (T:Tm),Vv (fun tr h f K=>seqX cx cal n ops tr K l T h f) (seqP cx calP n ops l T)
 | [],T=>fun tr h f K=>rfl
 | o::l,T=>(ZIt cx hc n ops T o).bind (u:=fun T' tr h f K=>seqX cx cal n ops tr K l T' h f) fun T'=>ZK1 cx hc n ops l T'
noncomputable def drawX (cx:Ctx) (cal:ZkY R) (n:Nat) (ops:List Oper) (c0:Nat) (tr:Bool) (K:KX R Tm) (l:List Oper):Nat→List Foot→KX R Tm:=
 @List.rec Oper (fun _=>Nat→List Foot→KX R Tm)
  (fun j _ T h f=>@Bool.rec (fun _=>Option R) none (K T ⟨h.blks,c0+j*cx.spn⟩ f) (leB h.c (c0+j*cx.spn)))
  (fun o _ ih j fs T h f=>@Bool.rec (fun _=>Option R) none
   (stepX cx cal n ops T o true ⟨h.blks,c0+j*cx.spn⟩ ⟨[],[]⟩ fun T' h' f'=>
    @Bool.rec (fun _=>Option R) none (ih (j+1) (appR fs [f']) T' h' ⟨f'.rd++f.rd,f'.wr++f.wr⟩) (ZrK ops j f' fs 0)) (leB h.c (c0+j*cx.spn))) l
theorem ZHz (cx:Ctx) {cal:ZkY R} {calP:FuncId→List AV→Prog AV} (hc:∀ g a,Vv (cal g a) (calP g a)) (n:Nat) (ops:List Oper) (c0:Nat):∀ (l:List Oper) (j:Nat) (fs:List Foot) (T:Tm),
  Vv (fun tr h f K=>drawX cx cal n ops c0 tr K l j fs T h f) (drawP cx calP n ops c0 l j fs T)
 | [],j,fs,T=>fun tr h f K=>by
  change @Bool.rec (fun _=>Option R) none (K T ⟨h.blks,c0+j*cx.spn⟩ f) (leB h.c (c0+j*cx.spn))=_
  simp only [drawP,Go.Proofs.YtbdcblpjemmipaaGreat.Ex.run]
  cases leB h.c (c0+j*cx.spn)<;>rfl
 | o::l,j,fs,T=>fun tr h f K=>by
  change @Bool.rec (fun _=>Option R) none (stepX cx cal n ops T o true ⟨h.blks,c0+j*cx.spn⟩ ⟨[],[]⟩ fun T' h' f'=>
    @Bool.rec (fun _=>Option R) none (drawX cx cal n ops c0 tr K l (j+1) (appR fs [f']) T' h' ⟨f'.rd++f.rd,f'.wr++f.wr⟩) (ZrK ops j f' fs 0)) (leB h.c (c0+j*cx.spn))=_
  simp only [drawP,Go.Proofs.YtbdcblpjemmipaaGreat.Ex.run]
  cases leB h.c (c0+j*cx.spn)
  ·rfl
  simp only [cond_true]
  rw [ZIt cx hc]
  congr 1
  funext T' h' f'
  rw [ZKf,Zrt]
  cases ZoU ops j f' 0 fs
  ·rfl
  ·exact ZHz cx hc n ops c0 l (j+1) (fs++[f']) T' tr h' _ K
abbrev EX (R:Type):=Nat→Tm→Hp→Foot→Option R
noncomputable def iterX (F:Tm→Hp→Foot→EX R→Option R) (K:EX R) (n:Nat):Tm→Hp→Foot→Option R:=
 @Nat.rec (fun _=>Tm→Hp→Foot→Option R) (fun _ _ _=>none) (fun _ ih T h f=>F T h f fun e T h f=>@Nat.rec (fun _=>Option R) (ih T h f) (fun k _=>K (k+1) T h f) e) n
noncomputable def ZRc (cx:Ctx) (cal:ZkY R) (fx:Fx) (tr:Bool) (ops:List Oper) (d:Bool) (T:Tm) (h:Hp) (f:Foot) (K:EX R):Option R:=
 bif d then bif Zif ops 0 ops then drawX cx cal fx.n ops h.c tr (fun T' h f=>lookX T' fx.keep fun R=>K 0 R h f) ops 0 [] T h f else none
  else seqX cx cal fx.n ops tr (fun T' h f=>lookX T' fx.keep fun R=>K 0 R h f) ops T h f
noncomputable def xCond (c:Operand) (T:Tm) (x y:Tm→Option R):Option R:=match c with
  | .tmp t=>match getR T t with
   | .bool v=>yIte v (x ((t,.bool true)::T)) (y ((t,.bool false)::T))
   | _=>none
  | .const (.bool v)=>bif v then x T else y T
  | _=>none
noncomputable def evCX (cx:Ctx) (cal:ZkY R) (fx:Fx) (tr:Bool):Code→Nat→Tm→Hp→Foot→EX R→Option R
 | .skip,_,T,h,f,K=>K 0 T h f
 | .region _ ops d,_,T,h,f,K=>ZRc cx cal fx tr ops.toList d T h f K
 | .seq x y,b,T,h,f,K=>evCX cx cal fx tr x b T h f fun e T h f=>@Nat.rec (fun _=>Option R) (evCX cx cal fx tr y b T h f K) (fun k _=>K (k+1) T h f) e
 | .cond c x y,b,T,h,f,K=>xCond c T (fun T=>evCX cx cal fx tr x b T h f K) (fun T=>evCX cx cal fx tr y b T h f K)
 | .block id x,_,T,h,f,K=>evCX cx cal fx tr x id T h f fun e T h f=>K (bif Nat.beq e (2+id) then 0 else e) T h f
 | .loop x,b,T,h,f,K=>@Option.rec (Nat→Tm→Prog (Nat×Tm)) (fun _=>Option R) (iterX (fun T h f K=>evCX cx cal fx tr x b T h f K) K cx.fuel T h f) (fun p=>runX (p fx.base T) tr h f fun e h f=>K e.1 e.2 h f) (cx.lps fx.id b)
 | .exit id,_,T,h,f,K=>K (2+id) T h f
 | .ret,_,T,h,f,K=>K 1 T h f
 | _,_,_,_,_,_=>none
def ZRi (t:Tm→Hp→Foot→EX R→Option R) (tr:Bool) (p:Tm→Prog (Nat×Tm)):Prop:=∀ (T:Tm) (h:Hp) (f:Foot) (K:EX R),t T h f K=run (p T) tr h f fun e h f=>K e.1 e.2 h f
theorem ZHO {F:Tm→Hp→Foot→EX R→Option R} {tr:Bool} {p:Tm→Prog (Nat×Tm)} (hF:ZRi F tr p):∀ n,ZRi (fun T h f K=>iterX F K n T h f) tr (iterP p n)
 | 0=>fun T h f K=>rfl
 | n+1=>fun T h f K=>by
  rw [iterP,run_bind]
  change F T h f _=_
  rw [hF]
  congr 1
  funext e h1 f1
  obtain ⟨e1,T1⟩:=e
  cases e1 with
  | zero=>exact ZHO hF n T1 h1 f1 K
  | succ m=>rfl
theorem ZKl (cx:Ctx) {cal:ZkY R} {calP:FuncId→List AV→Prog AV} (hc:∀ g a,Vv (cal g a) (calP g a)) (fx:Fx) (tr:Bool):∀ (c:Code) (b:Nat),ZRi (evCX cx cal fx tr c b) tr (evC cx calP fx b c):=by
 intro c
 induction c with
 | skip=>intro b T h f K;rfl
 | region id ops d=>
  intro b T h f K
  simp only [evCX,ZRc,ZUr,evC]
  rw [run_bind]
  cases d
  ·simp only [cond_false]
   exact ZK1 cx hc fx.n ops.toList ops.toList T tr h f _
  ·simp only [cond_true]
   cases Zif ops.toList 0 ops.toList
   ·rfl
   ·simp only [cond_true,run]
    exact ZHz cx hc fx.n ops.toList h.c ops.toList 0 [] T tr h f _
 | seq x y ihx ihy=>
  intro b T h f K
  simp only [evCX,evC]
  rw [run_bind,ihx b]
  congr 1
  funext e h1 f1
  obtain ⟨e1,T1⟩:=e
  cases e1 with
  | zero=>exact ihy b T1 h1 f1 K
  | succ m=>rfl
 | cond c x y ihx ihy=>
  intro b T h f K
  simp only [evCX,xCond,Zod,evC]
  cases c with
  | tmp t=>
   simp only
   generalize getT T t=v
   cases v with
   | bool v=>
    simp only [run]
    cases v
    ·exact ihy b _ h f K
    ·exact ihx b _ h f K
   | _=>rfl
  | const u=>
   cases u with
   | bool v=>cases v with
    | true=>exact ihx b T h f K
    | false=>exact ihy b T h f K
   | _=>rfl
  | _=>rfl
 | block id x ih=>
  intro b T h f K
  simp only [evCX,evC]
  rw [run_bind,ih id]
  rfl
 | loop x ih=>
  intro b T h f K
  simp only [evCX,evC]
  cases hl:cx.lps fx.id b with
  | some p=>exact Zoo _ _ _ _ _
  | none=>exact ZHO (ih b) cx.fuel T h f K
 | exit id=>intro b T h f K;rfl
 | ret=>intro b T h f K;rfl
 | _=>intro b T h f K;rfl
noncomputable def evBX (cx:Ctx) (cal:ZkY R) (keep:List Nat) (g:FuncId) (fn:Func) (args:List AV):Kn R AV:=fun tr h f K=>
 match fn.body with
 | none=>none
 | some c=>bif leB (lenR args) fn.ntmps then evCX cx cal ⟨g,fn.ntmps,keep,h.c⟩ tr c 0 (argsT 0 args) h f fun e T h f=>match e with
  | 0 | 1=>runX (resP (tiL cx.tab) T fn.results.toList fun
   | [v]=>.ret v
   | vs=>.ret (.tup vs)) tr h f K
  | _=>none
  else none
theorem ZSy (cx:Ctx) {cal:ZkY R} {calP:FuncId→List AV→Prog AV} (hc:∀ g a,Vv (cal g a) (calP g a)) (keep:List Nat) (g:FuncId) (fn:Func) (args:List AV):Vv (evBX cx cal keep g fn args) (evB cx calP keep g fn args):=by
 intro tr h f K
 unfold evBX evB
 rw [ZjY]
 cases fn.body with
 | none=>rfl
 | some c=>
  simp only
  cases leB args.length fn.ntmps
  ·rfl
  ·simp only [cond_true,run]
   rw [run_bind,ZKl cx hc]
   congr 1
   funext e h1 f1
   obtain ⟨e1,T1⟩:=e
   match e1 with
   | 0=>exact Zoo _ _ _ _ _
   | 1=>exact Zoo _ _ _ _ _
   | n+2=>rfl
noncomputable def evFX (cx:Ctx) (keeps:FuncId→List Nat):Nat→ZkY R
 | 0,g,args=>@Option.rec (List AV→Prog AV) (fun _=>Kn R AV) (fun _ _ _ _=>none) (fun p=>runX (p args)) (cx.spec g)
 | n+1,g,args=>@Option.rec (List AV→Prog AV) (fun _=>Kn R AV) (@Option.rec Func (fun _=>Kn R AV) (fun _ _ _ _=>none) (fun fn=>evBX (cx.at n) (evFX cx keeps n) (keeps g) g fn args) (cx.inl g)) (fun p=>runX (p args)) (cx.spec g)
theorem ZoX (cx:Ctx) (keeps:FuncId→List Nat):∀ (n:Nat) (g:FuncId) (a:List AV),Vv (R:=R) (evFX cx keeps n g a) (evF cx keeps n g a)
 | 0,g,a=>by
  simp only [evFX,evF]
  cases cx.spec g with
  | none=>exact Vv.no
  | some p=>exact Vv.run _
 | n+1,g,a=>by
  simp only [evFX,evF]
  cases cx.spec g with
  | some p=>exact Vv.run _
  | none=>
   cases cx.inl g with
   | none=>exact Vv.no
   | some fn=>exact ZSy (cx.at n) (ZoX cx keeps n) (keeps g) g fn a
end
noncomputable def evGX (cx:Ctx) (keeps:FuncId→List Nat) (n:Nat) (g:FuncId) (sh:List Sh) (rs:Sh) (x:Ke sh):Option (ShD rs):=
 evFX cx keeps n g (mks sh x) false ⟨[],0⟩ ⟨[],[]⟩ fun v h f=>runX (outP rs v) false h f fun d _ _=>some d
theorem Zk (cx:Ctx) (keeps:FuncId→List Nat) (n:Nat) (g:FuncId) (sh:List Sh) (rs:Sh) (x:Ke sh):evG (evF cx keeps n g) sh rs x=evGX cx keeps n g sh rs x:=by
 unfold evG evGX
 rw [run_bind,ZoX]
 simp only [Zoo]
noncomputable def evRX (cx:Ctx) (keeps:FuncId→List Nat) (n:Nat) (g:FuncId) (sh:List Sh) (e:Ty) (x:Ke sh):Option (List (D e)):=
 evFX cx keeps n g (mks sh x) false ⟨[],0⟩ ⟨[],[]⟩ fun v h f=>runX (finP false v) false h f fun v h _=>(rdS (rowS e) [(0,v)] h).map fun d=>d.2.1
theorem Zn2 (cx:Ctx) (keeps:FuncId→List Nat) (n:Nat) (g:FuncId) (sh:List Sh) (e:Ty) (x:Ke sh):evR (evF cx keeps n g) sh e x=evRX cx keeps n g sh e x:=by
 unfold evR evRX
 rw [run_bind,ZoX]
 simp only [Zoo]
noncomputable def rdX {R:Type} (cx:Ctx) (keeps:FuncId→List Nat) (n:Nat) (fx:Fx) (b:Nat) (x:Code) (base:Nat) (keep:Nat→List Nat) (T:Tm) (h:Hp) (K:Nat→Tm→Hp→Option R):Option R:=
 evCX cx (evFX cx keeps n) fx false x b T h ⟨[],[]⟩ fun e T h f=>runX (.norm base (keep e) T fun T'=>.ret (e,T')) false h f fun r h _=>K r.1 r.2 h
theorem ZYy {R:Type} (cx:Ctx) (keeps:FuncId→List Nat) (n:Nat) (fx:Fx) (b:Nat) (x:Code) (base:Nat) (keep:Nat→List Nat) (T:Tm) (h:Hp) (K:Nat→Tm→Hp→Option R) :
  ZkH base keep (evC cx (evF cx keeps n) fx b x) T h K=rdX cx keeps n fx b x base keep T h K:=by
 unfold ZkH rdX
 rw [run_bind,ZKl cx (ZoX cx keeps n)]
 simp only [Zoo]
theorem ZA {X Y:Type} {base0:Nat} {keep:Nat→List Nat} {cx:Ctx} {keeps:FuncId→List Nat} {n id nt:Nat} {kp:List Nat} {b:Nat} {c:Code} {s:StS} {flat:StD s→X} {un:X→StD s} (hss:Zxv s=true) (hu:∀ d,un (flat d)=d)
  {getY:Nat→Tm→Hp→Option Y} {outY:Y→(Nat×Tm)×Hp} (hY:∀ c T h y,getY c T h=some y→((c,T),h)=outY y) {step:X→Option (X⊕Y)}
  (hs:∀ x,rdX cx keeps n ⟨id,nt,kp,base0⟩ b c base0 keep (sT s (un x)) (sH s (un x)) (rdO (fun T h=>(rdS s T h).map flat) getY)=step x) {L:X→Option Y} (hL:∀ x y,L x=some y→∃ n,Zn step n x=some y)
  {alt:Y→Prog (Nat×Tm)} (ha:ZEa alt outY) {next:Nat→Tm→Prog (Nat×Tm)} (hn:ZI keep (fun base=>evC cx (evF cx keeps n) ⟨id,nt,kp,base⟩ b c) next) :
  ZI keep (fun base=>evC cx (evF cx keeps n) ⟨id,nt,kp,base⟩ b c) (varP base0 (fun T h=>(rdS s T h).map flat) L alt next):=
 ZWG hss hu hY (fun x=>(ZYy _ _ _ _ _ _ _ _ _ _ _).trans (hs x)) hL ha hn
end
end
section
abbrev I:=Int×Int
def nn:I:=(1,0)
def aa:I:=(-2147483648,2147483647)
def Zd (x:I):Bool:=decide (x.1>x.2)
def fitB (n:Int):Bool:=decide (n≥-2147483648)&&decide (n≤2147483647)
def isB (x:I):Bool:=(x.1==1&&x.2==0)||(decide (x.1≤x.2)&&(fitB x.1&&fitB x.2))
def leqB (x y:I):Bool:=Zd x||(decide (x.1≥y.1)&&decide (x.2≤y.2))
def hasB (x:I) (n:Int):Bool:=decide (n≥x.1)&&decide (n≤x.2)
def mn (a b:Int):Int:=if b<a then b else a
def mx (a b:Int):Int:=if b>a then b else a
def iMeet (x y:I):I:=if Zd x then nn else if Zd y then nn else if Zd (mx x.1 y.1,mn x.2 y.2) then nn else (mx x.1 y.1,mn x.2 y.2)
def Zl (x y:I):I:=if Zd x then (if Zd y then nn else y) else if Zd y then x else (mn x.1 y.1,mx x.2 y.2)
def rJoin (x y:I):I:=if Zd x then y else if Zd y then x else (mn x.1 y.1,mx x.2 y.2)
def iSpan (a b:Int):I:=if a>b then nn else (a,b)
theorem Zev {n:Int} (h : -9223372036854775808≤n) (h':n≤9223372036854775807):IntKind.i64.wrap n=n:=by
 have:IntKind.i64.wrap n=(n+9223372036854775808) % 18446744073709551616 - 9223372036854775808:=by
  simp [IntKind.wrap,IntKind.signed,IntKind.bits]
  split<;>omega
 rw [this];omega
theorem wr {n:Int} (h:n.natAbs≤4611686018427387904):IntKind.i64.wrap n=n:=Zev (by omega) (by omega)
theorem ZVW {a b:Int} (ha:a.natAbs≤2147483648) (hb:b.natAbs≤2147483648):(a*b).natAbs≤4611686018427387904:=by
 rw [Int.natAbs_mul]
 exact Nat.mul_le_mul ha hb
theorem ZVy {a b:Int} {n:Nat} (ha:a.natAbs≤n):(a.tdiv b).natAbs≤n:=by
 rw [Int.natAbs_tdiv]
 exact Nat.le_trans (Nat.div_le_self _ _) ha
theorem K4 {x:I} (h:isB x=true):x.1.natAbs≤2147483648∧x.2.natAbs≤2147483648:=by
 simp only [isB,fitB,Bool.and_eq_true,Bool.or_eq_true,decide_eq_true_eq,beq_iff_eq] at h;omega
theorem Zda (a b:Int):(if b<a then b else a)=mn a b:=rfl
theorem Zdb (a b:Int):(if b>a then b else a)=mx a b:=rfl
def Zoh (x y:I):I:=(mn (mn (mn (x.1*y.1) (x.1*y.2)) (x.2*y.1)) (x.2*y.2),mx (mx (mx (x.1*y.1) (x.1*y.2)) (x.2*y.1)) (x.2*y.2))
def JO (x y:I):I:=(mn (mn (mn (x.1.tdiv y.1) (x.1.tdiv y.2)) (x.2.tdiv y.1)) (x.2.tdiv y.2),mx (mx (mx (x.1.tdiv y.1) (x.1.tdiv y.2)) (x.2.tdiv y.1)) (x.2.tdiv y.2))
def noZ (y:I):Bool:=!(y.1==0) && !(y.2==0)
def wout (x y:I):I:=if y.1=y.2 then (if x.1=y.1 then (x.1+1,x.2) else if x.2=y.1 then (x.1,x.2 - 1) else x) else x
def remI (x y:I):I:=if y.1=0∧y.2=0 then nn else
 let m:=mx (mx (mx y.2 (-y.2)) y.1) (-y.1) - 1
 (if x.1<0 then mx x.1 (-m) else 0,if x.2>0 then mn x.2 m else 0)
def mSpan (x y:I):I:=iSpan (mx x.1 y.1) (mn x.2 y.2)
def clipV (a b:Int):I:=iSpan (mx a (-2147483648)) (mn b 2147483647)
def clipO (a b:Int):Bool:=decide (a < -2147483648)||decide (b>2147483647)
def oth (x y:I):I:=if y.1=y.2 then iSpan (if y.1=x.1 then x.1+1 else x.1) (if y.1=x.2 then x.2 - 1 else x.2) else x
def both (x y c d:I):I×I:=if Zd x||Zd y||Zd c||Zd d then (nn,nn) else (c,d)
def refI (r:Int) (x y:I):I×I:=
 if r=1 then both x y (x.1,mn x.2 (y.2 - 1)) (mx y.1 (x.1+1),y.2)
 else if r=2 then both x y (x.1,mn x.2 y.2) (mx y.1 x.1,y.2)
 else if r=5 then both x y (mx x.1 y.1,x.2) (y.1,mn y.2 x.2)
 else if r=6 then both x y (mx x.1 (y.1+1),x.2) (y.1,mn y.2 (x.2 - 1))
 else if r=3 then both x y (iMeet x y) (iMeet x y)
 else if r=4 then both x y (wout x y) (wout y x)
 else (nn,nn)
def pP:I:=(1,2147483647)
def pM:I:=(-2147483648,-1)
def ZmF (x y:I):I×Bool:=if Zd (iMeet y pP) then (nn,false) else (Zl nn (iMeet (JO x (iMeet y pP)) aa),!leqB (JO x (iMeet y pP)) aa)
def quoV (x y:I):I×Bool:=if Zd (iMeet y pM) then ZmF x y else (Zl (ZmF x y).1 (iMeet (JO x (iMeet y pM)) aa),(ZmF x y).2 || !leqB (JO x (iMeet y pM)) aa)
def ZIa (x y:I):I×Bool:=if Zd (mSpan y pP) then (nn,false) else (clipV (JO x (mSpan y pP)).1 (JO x (mSpan y pP)).2,clipO (JO x (mSpan y pP)).1 (JO x (mSpan y pP)).2)
def rdivV (x y:I):I×Bool:=if Zd (mSpan y pM) then ZIa x y else (rJoin (ZIa x y).1 (clipV (JO x (mSpan y pM)).1 (JO x (mSpan y pM)).2),(ZIa x y).2||clipO (JO x (mSpan y pM)).1 (JO x (mSpan y pM)).2)
def rboth (x y p q:I):I×I:=if Zd x||Zd y||Zd p||Zd q then (nn,nn) else (p,q)
def rrefI (r:Int) (x y:I):I×I:=
 if r=1 then rboth x y (iSpan x.1 (mn x.2 (y.2 - 1))) (iSpan (mx y.1 (x.1+1)) y.2)
 else if r=2 then rboth x y (iSpan x.1 (mn x.2 y.2)) (iSpan (mx y.1 x.1) y.2)
 else if r=6 then rboth x y (iSpan (mx x.1 (y.1+1)) x.2) (iSpan y.1 (mn y.2 (x.2 - 1)))
 else if r=5 then rboth x y (iSpan (mx x.1 y.1) x.2) (iSpan y.1 (mn y.2 x.2))
 else if r=3 then rboth x y (mSpan x y) (mSpan x y)
 else if r=4 then rboth x y (oth x y) (oth y x)
 else (nn,nn)
theorem Zsh {y p:I} (h:Zd (iMeet y p)=false):iMeet y p=(mx y.1 p.1,mn y.2 p.2)∧y.1≤y.2∧p.1≤p.2∧mx y.1 p.1≤mn y.2 p.2:=by
 unfold iMeet at h ⊢
 by_cases a:Zd y=true
 ·rw [if_pos a] at h;cases h
 rw [if_neg a] at h ⊢
 by_cases b:Zd p=true
 ·rw [if_pos b] at h;cases h
 rw [if_neg b] at h ⊢
 by_cases c:Zd (mx y.1 p.1,mn y.2 p.2)=true
 ·rw [if_pos c] at h;cases h
 rw [if_neg c]
 simp only [Zd,decide_eq_true_eq] at a b c
 exact ⟨rfl,by omega,by omega,by omega⟩
theorem Zgr {y:I} (h:isB y=true) (h':y.1≤y.2) : -2147483648≤y.1∧y.2≤2147483647:=by
 simp only [isB,fitB,Bool.and_eq_true,Bool.or_eq_true,decide_eq_true_eq,beq_iff_eq] at h;omega
theorem Zh8 {a b:Int} (h1 : -2147483648≤a) (h2:a≤b) (h3:b≤2147483647):isB (a,b)=true:=by
 simp only [isB,fitB,Bool.and_eq_true,Bool.or_eq_true,decide_eq_true_eq,beq_iff_eq];omega
theorem ZUw {y p:I} (hy:isB y=true) (hp:isB p=true) (h:Zd (iMeet y p)=false):isB (iMeet y p)=true:=by
 obtain ⟨e,h1,h2,h3⟩:=Zsh h
 have k1:=Zgr hy h1
 have k2:=Zgr hp h2
 rw [e]
 unfold mx mn at *
 refine Zh8 ?_ h3 ?_<;>(repeat' split)<;>omega
theorem ZGO {y p:I} (h:Zd (mSpan y p)=false):mSpan y p=(mx y.1 p.1,mn y.2 p.2)∧mx y.1 p.1≤mn y.2 p.2:=by
 unfold mSpan iSpan at h ⊢
 by_cases c:mx y.1 p.1>mn y.2 p.2
 ·rw [if_pos c] at h;cases h
 rw [if_neg c]
 exact ⟨rfl,by omega⟩
theorem ZjC {y p:I} (hy:isB y=true) (hp:isB p=true) (h:Zd (mSpan y p)=false):isB (mSpan y p)=true:=by
 obtain ⟨e,h3⟩:=ZGO h
 rw [e]
 have h1:y.1≤y.2:=by unfold mx mn at h3;(repeat' split at h3)<;>omega
 have h2:p.1≤p.2:=by unfold mx mn at h3;(repeat' split at h3)<;>omega
 have k1:=Zgr hy h1
 have k2:=Zgr hp h2
 unfold mx mn at *
 refine Zh8 ?_ h3 ?_<;>(repeat' split)<;>omega
theorem ZSR {y:I} (h:Zd (mSpan y pP)=false):noZ (mSpan y pP)=true:=by
 obtain ⟨e,h3⟩:=ZGO h
 rw [e]
 simp only [noZ,mx,mn,pP,Bool.and_eq_true,Bool.not_eq_true',beq_eq_false_iff_ne] at *
 constructor<;>(repeat' split)<;>(repeat' split at h3)<;>omega
theorem ZKG {y:I} (h:Zd (mSpan y pM)=false):noZ (mSpan y pM)=true:=by
 obtain ⟨e,h3⟩:=ZGO h
 rw [e]
 simp only [noZ,mx,mn,pM,Bool.and_eq_true,Bool.not_eq_true',beq_eq_false_iff_ne] at *
 constructor<;>(repeat' split)<;>(repeat' split at h3)<;>omega
abbrev R3:=I×Bool×Bool
def Yi (raw:I):R3:=(iMeet raw aa,!leqB raw aa,false)
def doI (op:Int) (x y:I):R3:=
 if Zd x||Zd y then (nn,false,false)
 else if op=1 then Yi (x.1+y.1,x.2+y.2)
 else if op=2 then Yi (x.1 - y.2,x.2 - y.1)
 else if op=3 then Yi (Zoh x y)
 else if op=4 then ((quoV x y).1,(quoV x y).2,hasB y 0)
 else if op=5 then (remI x y,false,hasB y 0)
 else Yi nn
def ZHs (a b:Int):R3:=(clipV a b,clipO a b,false)
def rdoI (op:Int) (x y:I):R3:=
 if Zd x||Zd y then (nn,false,false)
 else if op=1 then ZHs (x.1+y.1) (x.2+y.2)
 else if op=2 then ZHs (x.1 - y.2) (x.2 - y.1)
 else if op=3 then ZHs (Zoh x y).1 (Zoh x y).2
 else if op=4 then ((rdivV x y).1,(rdivV x y).2,hasB y 0)
 else if op=5 then (remI x y,false,hasB y 0)
 else (nn,false,false)
def widS (z:I) (l:List Int):I:=l.foldl (fun s d=>if fitB d then (if d≤z.1 then mx s.1 d else s.1,if d≥z.2 then mn s.2 d else s.2) else (s.1,s.2)) aa
def rwidS (z:I) (l:List Int):I:=l.foldl (fun s d=>(if d≤z.1∧d>s.1 then d else s.1,if d≥z.2∧d<s.2 then d else s.2)) aa
def widV (x y:I) (l:List Int):I:=if Zd y then x else if Zd x then y else
 (if (Zl x y).1<x.1 then (widS (Zl x y) l).1 else (Zl x y).1,if (Zl x y).2>x.2 then (widS (Zl x y) l).2 else (Zl x y).2)
def rwidV (x y:I) (l:List Int):I:=if Zd y then x else if Zd x then y else
 (if (rJoin x y).1<x.1 then (rwidS (rJoin x y) l).1 else (rJoin x y).1,if (rJoin x y).2>x.2 then (rwidS (rJoin x y) l).2 else (rJoin x y).2)
theorem ZcO {y p:I} (hy:Zd y=false) (hp:Zd p=false):iMeet y p=mSpan y p:=by
 unfold iMeet mSpan iSpan
 rw [if_neg (by rw [hy];decide),if_neg (by rw [hp];decide)]
 simp only [Zd,decide_eq_true_eq]
theorem ZDl {a:I} (h:a.1≤a.2):iMeet a aa=clipV a.1 a.2:=by
 have h1:Zd a=false:=by simp only [Zd,decide_eq_false_iff_not];omega
 rw [ZcO h1 rfl]
 rfl
theorem ZGK {a:I} (h:a.1≤a.2):(!leqB a aa)=clipO a.1 a.2:=by
 have h1:Zd a=false:=by simp only [Zd,decide_eq_false_iff_not];omega
 have e:leqB a aa=(decide (a.1≥-2147483648)&&decide (a.2≤2147483647)):=by unfold leqB;rw [h1];rfl
 rw [e]
 unfold clipO
 by_cases k1:a.1 < -2147483648<;>by_cases k2:a.2>2147483647
 ·simp [k1,k2,show ¬ a.1≥-2147483648 by omega]
 ·simp [k1,k2,show ¬ a.1≥-2147483648 by omega]
 ·simp [k1,k2,show ¬ a.2≤2147483647 by omega]
 ·simp [k1,k2,show a.1≥-2147483648 by omega,show a.2≤2147483647 by omega]
theorem ZGt {a:I} (h:a.1≤a.2):Yi a=ZHs a.1 a.2:=by
 unfold Yi ZHs
 rw [ZDl h,ZGK h]
theorem ZQH (x y:I):(Zoh x y).1≤(Zoh x y).2:=by
 unfold Zoh mn mx
 simp only
 generalize x.1*y.1=a;generalize x.1*y.2=b;generalize x.2*y.1=c;generalize x.2*y.2=d
 (repeat' split)<;>omega
theorem Zrx (x y:I):(JO x y).1≤(JO x y).2:=by
 unfold JO mn mx
 simp only
 generalize x.1.tdiv y.1=a;generalize x.1.tdiv y.2=b;generalize x.2.tdiv y.1=c;generalize x.2.tdiv y.2=d
 (repeat' split)<;>omega
theorem ZUT {a b:Int} (h:Zd (iSpan a b)=true):iSpan a b=nn:=by
 unfold iSpan at h ⊢
 by_cases c:a>b
 ·rw [if_pos c]
 ·rw [if_neg c] at h;simp only [Zd,decide_eq_true_eq] at h;omega
theorem ZM2 {a b:Int} (h:Zd (clipV a b)=true):clipV a b=nn:=ZUT h
theorem ZVI {z:I} (h:Zd z=true→z=nn):Zl nn z=z:=by
 unfold Zl
 rw [if_pos (show Zd nn=true from rfl)]
 cases hz:Zd z with
 | true=>simp [h hz]
 | false=>simp
theorem ZNG {z u:I} (h:Zd u=true→u=nn):Zl z u=rJoin z u:=by
 unfold Zl rJoin
 cases hz:Zd z with
 | true=>cases hu:Zd u with
  | true=>simp [h hu]
  | false=>simp
 | false=>rfl
theorem ZV3 {x y:I} (hy:Zd y=false):quoV x y=rdivV x y:=by
 unfold quoV rdivV ZmF ZIa
 have hP:iMeet y pP=mSpan y pP:=ZcO hy rfl
 have hM:iMeet y pM=mSpan y pM:=ZcO hy rfl
 rw [hP,hM,ZDl (Zrx _ _),ZDl (Zrx _ _),ZGK (Zrx _ _),ZGK (Zrx _ _),ZVI (z:=clipV _ _) (fun h=>ZM2 h),ZNG (u:=clipV _ _) (fun h=>ZM2 h)]
theorem ZW5 {op:Int} {x y:I}:doI op x y=rdoI op x y:=by
 unfold doI rdoI
 cases hx:Zd x<;>cases hy:Zd y
 case true.true=>rfl
 case true.false=>rfl
 case false.true=>rfl
 have kx:x.1≤x.2:=by simp only [Zd,decide_eq_false_iff_not] at hx;omega
 have ky:y.1≤y.2:=by simp only [Zd,decide_eq_false_iff_not] at hy;omega
 rw [ZGt (a:=(x.1+y.1,x.2+y.2)) (by show x.1+y.1≤x.2+y.2;omega),ZGt (a:=(x.1 - y.2,x.2 - y.1)) (by show x.1 - y.2≤x.2 - y.1;omega),ZGt (ZQH x y),ZV3 hy]
 rfl
theorem ZC1 (x y:I):leqB x (Zl x y)=true:=by
 simp only [leqB,Zl,Zd,nn,mn,mx,Bool.or_eq_true,Bool.and_eq_true,decide_eq_true_eq]
 (repeat' split)<;>simp_all<;>(try (repeat' split))<;>omega
theorem ZeT (x y:I):Zl x y=Zl y x:=by
 simp only [Zl,Zd,nn,mn,mx,decide_eq_true_eq]
 (repeat' split)<;>simp_all<;>(try omega)
theorem Zry {a b:Int}:Zd (a,b)=true↔a>b:=by simp [Zd]
theorem Z6 {a b:Int} (h:a≤b):Zd (a,b)=false:=by simp [Zd];omega
theorem ZjU {a b:Int} (h:a>b):Zd (a,b)=true:=Zry.2 h
theorem Zli {c d:Int} (hy:c≤d):Zl nn (c,d)=(c,d):=by
 unfold Zl
 rw [show Zd nn=true from rfl,Z6 hy];simp
section
variable {a b c d:Int} (hx:a≤b) (hy:c≤d)
include hx hy
omit hx hy in
end
theorem ZR {x:I} (h:Zd x=false):x.1≤x.2:=by simp only [Zd,decide_eq_false_iff_not] at h;omega
theorem Jw {n:Int}:fitB n=true↔-2147483648≤n∧n≤2147483647:=by simp [fitB]
def sub (x y:I):Prop:=y.1≤x.1∧x.2≤y.2
theorem Qs {x y:I}:leqB x y=true↔(x.1>x.2∨sub x y):=by simp [leqB,Zd,sub]
theorem J1 {x y z:I} (h:leqB x y=true) (k:leqB y z=true):leqB x z=true:=by
 rw [Qs] at *;unfold sub at *;omega
theorem ZQz (x y:I):leqB y (Zl x y)=true:=by rw [ZeT];exact ZC1 y x
theorem Zla {x z:I} (kx:Zd x=false):sub x (rJoin x z):=by
 unfold rJoin
 rw [kx,if_neg (by decide)]
 unfold sub
 split
 ·omega
 ·unfold mn mx;simp only;constructor<;>split<;>omega
theorem Zhv {x z:I} (hx:isB x=true) (hz:isB z=true):isB (rJoin x z)=true:=by
 unfold rJoin
 cases ex:Zd x with
 | true=>exact hz
 | false=>
  cases ez:Zd z with
  | true=>exact hx
  | false=>
   have b1:=Zgr hx (ZR ex)
   have b2:=Zgr hz (ZR ez)
   have l1:=ZR ex
   have l2:=ZR ez
   exact Zh8 (by unfold mn;split<;>omega) (by unfold mn mx;(repeat' split)<;>omega) (by unfold mx;split<;>omega)
theorem ZHN {x:I} (h:isB x=true) (e:Zd x=true):x=nn:=by
 simp only [isB,Zd,Bool.or_eq_true,Bool.and_eq_true,decide_eq_true_eq,beq_iff_eq] at h e
 rcases h with ⟨h1,h2⟩ | ⟨h1,_⟩
 ·exact Prod.ext h1 h2
 ·omega
theorem Zav {x y:I} (hy:isB y=true):Zl x y=rJoin x y:=ZNG fun e=>ZHN hy e
theorem Z0k {x y:I} (hx:Zd x=false) (hy:Zd y=false) (a b c d:Int):rboth x y (iSpan a b) (iSpan c d)=both x y (a,b) (c,d):=by
 unfold rboth both iSpan
 rw [hx,hy]
 by_cases h:a>b
 ·rw [if_pos h,ZjU h];simp [show Zd nn=true from rfl]
 ·rw [if_neg h,Z6 (by omega)]
  by_cases k:c>d
  ·rw [if_pos k,ZjU k];simp [show Zd nn=true from rfl]
  ·rw [if_neg k,Z6 (by omega)]
theorem ZT4 {x y:I} (h:(Zd x||Zd y)=true) (p q:I):both x y p q=(nn,nn):=by unfold both;rw [h];rfl
theorem ZTc {x y:I} (h:(Zd x||Zd y)=true) (p q:I):rboth x y p q=(nn,nn):=by unfold rboth;rw [h];rfl
theorem ZS4 {x y:I} (hx:Zd x=false):oth x y=(if Zd (wout x y) then nn else wout x y):=by
 obtain ⟨a,b⟩:=x
 obtain ⟨c,d⟩:=y
 have hx:=ZR hx
 simp only at hx
 unfold oth wout
 simp only
 by_cases h:c=d
 ·subst h
  rw [if_pos rfl,if_pos rfl]
  by_cases h1:a=c
  ·subst h1
   rw [if_pos rfl,if_pos rfl]
   by_cases h2:a=b
   ·subst h2
    rw [if_pos rfl]
    unfold iSpan
    rw [if_pos (by omega),if_pos (ZjU (by omega))]
   ·rw [if_neg h2]
    unfold iSpan
    rw [if_neg (by omega),if_neg (by rw [Z6 (by omega)];decide)]
  ·rw [if_neg h1,if_neg (Ne.symm h1)]
   by_cases h2:b=c
   ·subst h2
    rw [if_pos rfl,if_pos rfl]
    unfold iSpan
    rw [if_neg (by omega),if_neg (by rw [Z6 (by omega)];decide)]
   ·rw [if_neg h2,if_neg (Ne.symm h2)]
    unfold iSpan
    rw [if_neg (by omega),if_neg (by rw [Z6 (by omega)];decide)]
 ·rw [if_neg h,if_neg h,if_neg (by rw [Z6 (by omega)];decide)]
theorem ZYA {r:Int} {x y:I}:refI r x y=rrefI r x y:=by
 cases he:(Zd x||Zd y) with
 | true=>
  unfold refI rrefI
  simp only [ZT4 he,ZTc he]
  (repeat' split)<;>rfl
 | false=>
  simp only [Bool.or_eq_false_iff] at he
  unfold refI rrefI
  simp only [Z0k he.1 he.2]
  by_cases h1:r=1
  ·rw [if_pos h1,if_pos h1]
  rw [if_neg h1,if_neg h1]
  by_cases h2:r=2
  ·rw [if_pos h2,if_pos h2]
  rw [if_neg h2,if_neg h2]
  by_cases h5:r=5
  ·rw [if_pos h5,if_neg (by omega),if_pos h5]
  rw [if_neg h5]
  by_cases h6:r=6
  ·rw [if_pos h6,if_pos h6]
  rw [if_neg h6,if_neg h6,if_neg h5]
  by_cases h3:r=3
  ·rw [if_pos h3,if_pos h3,ZcO he.1 he.2];rfl
  rw [if_neg h3,if_neg h3]
  by_cases h4:r=4
  ·rw [if_pos h4,if_pos h4,ZS4 he.1,ZS4 he.2]
   unfold both rboth
   rw [he.1,he.2]
   cases e1:Zd (wout x y)<;>cases e2:Zd (wout y x)<;>simp [e1,e2,show Zd nn=true from rfl]
  rw [if_neg h4,if_neg h4]
theorem ZWH (z:I) (hz1:z.1≤2147483647) (hz2 : -2147483648≤z.2) (l:List Int):widS z l=rwidS z l:=by
 unfold widS rwidS
 suffices h:∀ (l:List Int) (s:I),-2147483648≤s.1→s.2≤2147483647→
   l.foldl (fun s d=>if fitB d then (if d≤z.1 then mx s.1 d else s.1,if d≥z.2 then mn s.2 d else s.2) else (s.1,s.2)) s=l.foldl (fun s d=>(if d≤z.1∧d>s.1 then d else s.1,if d≥z.2∧d<s.2 then d else s.2)) s from
  h l aa (by decide) (by decide)
 intro l
 induction l with
 | nil=>intros;rfl
 | cons d r ih=>
  intro s h1 h2
  rw [List.foldl_cons,List.foldl_cons]
  have e:(if fitB d=true then (if d≤z.1 then mx s.1 d else s.1,if d≥z.2 then mn s.2 d else s.2) else (s.1,s.2))=((if d≤z.1∧d>s.1 then d else s.1,if d≥z.2∧d<s.2 then d else s.2):I):=by
   by_cases hf:fitB d=true
   ·rw [if_pos hf]
    unfold mx mn
    simp only [Prod.mk.injEq]
    constructor<;>(repeat' split)<;>omega
   ·rw [if_neg hf]
    have hf':¬ (-2147483648≤d∧d≤2147483647):=fun k=>hf (Jw.2 k)
    rw [if_neg (by omega),if_neg (by omega)]
  rw [e]
  refine ih _ ?_ ?_
  ·simp only;split<;>omega
  ·simp only;split<;>omega
theorem ZNA {x:I} (h:isB x=true):x.1≤2147483647 ∧ -2147483648≤x.2 ∧ -2147483648≤x.1∧x.2≤2147483647:=by
 cases e:Zd x with
 | true=>rw [ZHN h e];decide
 | false=>have:=ZR e;have:=Zgr h (ZR e);omega
theorem ZTE {x y:I} (hx:isB x=true) (hy:isB y=true) (l:List Int):widV x y l=rwidV x y l:=by
 unfold widV rwidV
 rw [Zav hy,ZWH _ (ZNA (Zhv hx hy)).1 (ZNA (Zhv hx hy)).2.1]
theorem ZGD {x y:I}:Zd (Zl x y)=(Zd x&&Zd y):=by
 unfold Zl
 cases ex:Zd x<;>cases ey:Zd y<;>simp [ex,ey,show Zd nn=true from rfl]
 have:=ZR ex;have:=ZR ey
 exact Z6 (by unfold mn mx;(repeat' split)<;>omega)
theorem ZTD (z:I) (l:List Int) (h1 : -2147483648≤z.1) (h2:z.2≤2147483647) :
  (((widS z l).1 = -2147483648∨(widS z l).1∈l) ∧ -2147483648≤(widS z l).1∧(widS z l).1≤z.1)∧(((widS z l).2=2147483647∨(widS z l).2∈l)∧(widS z l).2≤2147483647∧z.2≤(widS z l).2):=by
 unfold widS
 suffices h:∀ (r:List Int) (s:I),(∀ d∈r,d∈l)→((s.1 = -2147483648∨s.1∈l) ∧ -2147483648≤s.1∧s.1≤z.1)→((s.2=2147483647∨s.2∈l)∧s.2≤2147483647∧z.2≤s.2)→
   let v:=r.foldl (fun s d=>if fitB d then (if d≤z.1 then mx s.1 d else s.1,if d≥z.2 then mn s.2 d else s.2) else (s.1,s.2)) s
   ((v.1 = -2147483648∨v.1∈l) ∧ -2147483648≤v.1∧v.1≤z.1)∧((v.2=2147483647∨v.2∈l)∧v.2≤2147483647∧z.2≤v.2) from
  h l aa (fun _ h=>h) ⟨.inl rfl,by decide,h1⟩ ⟨.inl rfl,by decide,h2⟩
 intro r
 induction r with
 | nil=>intro s _ k1 k2;exact ⟨k1,k2⟩
 | cons d r ih=>
  intro s hm k1 k2
  rw [List.foldl_cons]
  have hd:=hm d (List.mem_cons_self)
  refine ih _ (fun n hn=>hm n (List.mem_cons_of_mem _ hn)) ?_ ?_
  ·by_cases hf:fitB d=true
   ·rw [if_pos hf]
    have hf:=Jw.1 hf
    simp only
    by_cases c:d≤z.1
    ·rw [if_pos c];unfold mx;split
     ·exact ⟨.inr hd,by omega,c⟩
     ·exact k1
    ·rw [if_neg c];exact k1
   ·rw [if_neg hf];exact k1
  ·by_cases hf:fitB d=true
   ·rw [if_pos hf]
    have hf:=Jw.1 hf
    simp only
    by_cases c:d≥z.2
    ·rw [if_pos c];unfold mn;split
     ·exact ⟨.inr hd,by omega,c⟩
     ·exact k2
    ·rw [if_neg c];exact k2
   ·rw [if_neg hf];exact k2
theorem ZU7 {x y:I} (hx:isB x=true) (hy:isB y=true) (ex:Zd x=false) (ey:Zd y=false) (l:List Int) :
  ((widV x y l).1=x.1∨((widV x y l).1<x.1∧((widV x y l).1 = -2147483648∨(widV x y l).1∈l)∧y.1<x.1)) ∧ -2147483648≤(widV x y l).1∧(widV x y l).1≤y.1 ∧
  ((widV x y l).2=x.2∨((widV x y l).2>x.2∧((widV x y l).2=2147483647∨(widV x y l).2∈l)∧y.2>x.2))∧(widV x y l).2≤2147483647∧y.2≤(widV x y l).2:=by
 have bx:=Zgr hx (ZR ex)
 have by':=Zgr hy (ZR ey)
 have lx:=ZR ex
 have ly:=ZR ey
 have ej:Zl x y=(mn x.1 y.1,mx x.2 y.2):=by unfold Zl;rw [ex,ey];rfl
 have m1:mn x.1 y.1≤x.1∧mn x.1 y.1≤y.1∧(mn x.1 y.1=x.1∨mn x.1 y.1=y.1):=by unfold mn;split<;>omega
 have m2:x.2≤mx x.2 y.2∧y.2≤mx x.2 y.2∧(mx x.2 y.2=x.2∨mx x.2 y.2=y.2):=by unfold mx;split<;>omega
 obtain ⟨⟨s1,s2,s3⟩,t1,t2,t3⟩:=ZTD (mn x.1 y.1,mx x.2 y.2) l (by simp only;omega) (by simp only;omega)
 unfold widV
 rw [ex,ey,ej]
 simp only [Bool.false_eq_true,if_false] at s3 t3 ⊢
 refine ⟨?_,?_,?_,?_,?_,?_⟩
 ·by_cases c:mn x.1 y.1<x.1
  ·rw [if_pos c];right;exact ⟨by omega,s1,by omega⟩
  ·rw [if_neg c];left;omega
 ·split<;>omega
 ·split<;>omega
 ·by_cases c:mx x.2 y.2>x.2
  ·rw [if_pos c];right;exact ⟨by omega,t1,by omega⟩
  ·rw [if_neg c];left;omega
 ·split<;>omega
 ·split<;>omega
def lowN (l:List Int) (p:Int):Nat:=(-2147483648::l).countP fun d=>decide (d<p)
def highN (l:List Int) (p:Int):Nat:=(2147483647::l).countP fun d=>decide (p<d)
theorem ZCD {α:Type} (p q:α→Bool):∀ (l:List α) (a:α),a∈l→(∀ x∈l,p x=true→q x=true)→q a=true→p a=false→l.countP p<l.countP q
 | [],_,h,_,_,_=>by cases h
 | b::r,a,h,hm,h1,h2=>by
  rw [List.countP_cons,List.countP_cons]
  have hr:r.countP p≤r.countP q:=List.countP_mono_left fun x hx=>hm x (List.mem_cons_of_mem _ hx)
  rcases List.mem_cons.1 h with rfl | h
  ·rw [h1,h2];simp;omega
  ·have:=ZCD p q r a h (fun x hx=>hm x (List.mem_cons_of_mem _ hx)) h1 h2
   have hb:=hm b List.mem_cons_self
   cases e:p b with
   | false=>simp only [Bool.false_eq_true,if_false];split<;>omega
   | true=>rw [hb e];simp only [if_true];omega
theorem ZQB {l:List Int} {p q:Int} (h:q<p) (hq:q = -2147483648∨q∈l):lowN l q<lowN l p:=by
 unfold lowN
 refine ZCD _ _ _ q (by rcases hq with rfl | h;exact List.mem_cons_self;exact List.mem_cons_of_mem _ h) (fun x _ k=>?_) (by simpa using h) (by simp)
 simp only [decide_eq_true_eq] at k ⊢;omega
theorem ZNt {l:List Int} {p q:Int} (h:p<q) (hq:q=2147483647∨q∈l):highN l q<highN l p:=by
 unfold highN
 refine ZCD _ _ _ q (by rcases hq with rfl | h;exact List.mem_cons_self;exact List.mem_cons_of_mem _ h) (fun x _ k=>?_) (by simpa using h) (by simp)
 simp only [decide_eq_true_eq] at k ⊢;omega
theorem ZQA (l:List Int) (p:Int):lowN l p≤l.length+1:=List.countP_le_length
theorem ZNs (l:List Int) (p:Int):highN l p≤l.length+1:=List.countP_le_length
def potN (l:List Int) (a:I):Nat:=if Zd a then 2*l.length+3 else lowN l a.1+highN l a.2
theorem ZU6 {x y:I} {l:List Int} (ey:Zd y=true):widV x y l=x:=by unfold widV;rw [ey];rfl
theorem ZTF {x y:I} {l:List Int} (ex:Zd x=true) (ey:Zd y=false):widV x y l=y:=by unfold widV;rw [ey,ex];rfl
theorem Zk5 (x:I):leqB x x=true:=Qs.2 (.inr ⟨Int.le_refl _,Int.le_refl _⟩)
theorem ZAb {x y:I} (hx:isB x=true) (hy:isB y=true) (l:List Int) :
  leqB x (widV x y l)=true∧leqB y (widV x y l)=true∧isB (widV x y l)=true∧(((widV x y l).1=x.1∧(widV x y l).2=x.2)∨potN l (widV x y l)<potN l x):=by
 cases ey:Zd y with
 | true=>
  rw [ZU6 ey]
  exact ⟨Zk5 x,by unfold leqB;rw [ey];rfl,hx,.inl ⟨rfl,rfl⟩⟩
 | false=>
  cases ex:Zd x with
  | true=>
   rw [ZTF ex ey]
   refine ⟨by unfold leqB;rw [ex];rfl,Zk5 y,hy,.inr ?_⟩
   unfold potN
   rw [ex,ey]
   have:=ZQA l y.1
   have:=ZNs l y.2
   simp only [Bool.false_eq_true,if_false,if_true]
   omega
  | false=>
   obtain ⟨w1,w2,w3,w4,w5,w6⟩:=ZU7 hx hy ex ey l
   have lx:=ZR ex
   have ly:=ZR ey
   generalize widV x y l=w at *
   have hw:w.1≤w.2:=by omega
   have ew:Zd w=false:=by simp only [Zd,decide_eq_false_iff_not];omega
   refine ⟨Qs.2 (.inr ?_),Qs.2 (.inr ?_),Zh8 w2 hw w5,?_⟩
   ·unfold sub;omega
   ·unfold sub;omega
   ·unfold potN
    rw [ex,ew]
    simp only [Bool.false_eq_true,if_false]
    rcases w1 with e1 | ⟨e1,f1,_⟩<;>rcases w4 with e4 | ⟨e4,f4,_⟩
    ·exact .inl ⟨e1,e4⟩
    ·right;have:=ZNt e4 f4;rw [e1];omega
    ·right;have:=ZQB e1 f1;rw [e4];omega
    ·right;have:=ZQB e1 f1;have:=ZNt e4 f4;omega
abbrev E:=Bool×List I×List I×List I×Int×Int
theorem ZRG (x:BitVec 64):BitVec.ofInt 64 (IntKind.i64.wrap (x.toNat:Int))=x:=by
 have h:IntKind.i64.wrap (x.toNat:Int)=((x.toNat:Int)+9223372036854775808) % 18446744073709551616 - 9223372036854775808:=by
  simp [IntKind.wrap,IntKind.signed,IntKind.bits]
  split<;>omega
 rw [h]
 apply BitVec.eq_of_toNat_eq
 rw [BitVec.toNat_ofInt]
 have:=x.isLt
 omega
theorem ZN1 (a:Int):BitVec.ofInt IntKind.i64.bits (IntKind.i64.wrap ((BitVec.ofInt IntKind.i64.bits 0 ||| BitVec.ofInt IntKind.i64.bits a).toNat:Int))=BitVec.ofInt IntKind.i64.bits a:=by
 have e:(BitVec.ofInt IntKind.i64.bits 0 ||| BitVec.ofInt IntKind.i64.bits a)=BitVec.ofInt IntKind.i64.bits a:=by
  have z:BitVec.ofInt IntKind.i64.bits 0=0#64:=rfl
  rw [z];exact BitVec.zero_or
 rw [e];exact ZRG _
end
section
section
def upd {σ X Y:Type} (mk:σ→X) (o:Option (σ⊕Y)):Option (X⊕Y):=o.map (Sum.map mk id)
theorem ZF {σ X Y:Type} (mk:σ→X):upd (Y:=Y) mk none=none:=rfl
theorem ZK {σ X Y:Type} (mk:σ→X) (s:σ):upd (Y:=Y) mk (some (.inl s))=some (.inl (mk s)):=rfl
theorem ZL {σ X Y:Type} (mk:σ→X) (y:Y):upd mk (some (.inr y))=some (.inr y):=rfl
theorem ZD {σ X Y:Type} (mk:σ→X) (b:Bool) (p q:Option (σ⊕Y)):upd mk (bif b then p else q)=bif b then upd mk p else upd mk q:=by cases b<;>rfl
theorem ZG {σ X Y A:Type} (mk:σ→X) (o:Option A) (n:Option (σ⊕Y)) (s:A→Option (σ⊕Y)):upd mk (Za o n s)=Za o (upd mk n) fun a=>upd mk (s a):=by cases o<;>rfl
theorem ZE {σ X Y A B:Type} (mk:σ→X) (o:A⊕B) (f:A→Option (σ⊕Y)) (g:B→Option (σ⊕Y)):upd mk (Sum.elim f g o)=Sum.elim (fun a=>upd mk (f a)) (fun a=>upd mk (g a)) o:=by cases o<;>rfl
theorem Zc {A B:Type} (a:A) (n:B) (s:A→B):Za (some a) n s=s a:=rfl
noncomputable def Zq {σ α Y:Type} (f:Nat→σ→α→Option (σ⊕Y)) (fin:σ→Option Y):Nat→List α→σ→Option Y
 | _,[],s=>fin s
 | i,d::r,s=>match f i s d with
  | some (.inl s')=>Zq f fin (i+1) r s'
  | some (.inr y)=>some y
  | none=>none
variable [RT]
theorem ZFD {X Y σ α:Type} {step:X→Option (X⊕Y)} (l:List α) (mk:Nat→σ→X) (f:Nat→σ→α→Option (σ⊕Y)) (fin:σ→Option Y)
  (h1:∀ i s d,i<l.length→l[i]? = some d→step (mk i s)=upd (mk (i+1)) (f i s d)) (h2:∀ s,step (mk l.length s)=(fin s).map .inr) :
  ∀ (r:List α) (i:Nat) (s:σ) (n:Nat),l.drop i=r→i≤l.length→r.length<n→Zn step n (mk i s)=Zq f fin i r s
 | [],i,s,n,h,hi,hn=>by
  have:i=l.length:=by
   have:=congrArg List.length h
   simp at this
   omega
  subst this
  obtain ⟨n,rfl⟩:∃ m,n=m+1:=⟨n - 1,by omega⟩
  rw [Zn,h2,Zq]
  cases fin s<;>rfl
 | d::r,i,s,n,h,hi,hn=>by
  have hlt:i<l.length:=by
   have:=congrArg List.length h
   simp at this
   omega
  have hd:l[i]? = some d:=by
   have:=congrArg (fun q=>q[0]?) h
   simpa using this
  obtain ⟨n,rfl⟩:∃ m,n=m+1:=⟨n - 1,by omega⟩
  rw [Zn,h1 i s d hlt hd,Zq]
  cases hf:f i s d with
  | none=>rfl
  | some x=>
   cases x with
   | inl s'=>
    simp only [upd,Option.map_some,Sum.map_inl]
    refine ZFD l mk f fin h1 h2 r (i+1) s' n ?_ hlt ?_
    ·rw [← List.drop_drop,h];rfl
    ·simp only [List.length_cons] at hn;omega
   | inr y=>rfl
theorem Zs {X Y σ α:Type} {step:X→Option (X⊕Y)} (l:List α) (mk:Nat→σ→X) (f:Nat→σ→α→Option (σ⊕Y)) (fin:σ→Option Y)
  (h1:∀ i s d,i<l.length→l[i]? = some d→step (mk i s)=upd (mk (i+1)) (f i s d)) (h2:∀ s,step (mk l.length s)=(fin s).map .inr) (s:σ) {n:Nat} (hn:l.length<n) :
  Zn step n (mk 0 s)=Zq f fin 0 l s:=ZFD l mk f fin h1 h2 l 0 s n rfl (Nat.zero_le _) hn
theorem Zu {i n:Nat} (h:i<n) (hn:n≤9223372036854775807):IntKind.i64.wrap ((i:Int)+1)=((i+1:Nat):Int):=by
 have:IntKind.i64.wrap ((i:Int)+1)=((i:Int)+1+9223372036854775808) % 18446744073709551616 - 9223372036854775808:=by
  simp [IntKind.wrap,IntKind.signed,IntKind.bits]
  split<;>omega
 rw [this];omega
theorem ZjP {x:Int} (h1 : -9223372036854775808≤x) (h2:x≤9223372036854775807):IntKind.i64.wrap x=x:=by
 have:IntKind.i64.wrap x=(x+9223372036854775808) % 18446744073709551616 - 9223372036854775808:=by
  simp [IntKind.wrap,IntKind.signed,IntKind.bits]
  split<;>omega
 rw [this];omega
end
end
abbrev tI:Ty:=(.st (.pair (.int .i64) (.int .i64)))
abbrev tEn:Ty:=(.st (.pair (.int .i64) (.pair .bool (.pair (.int .i64) (.pair (.int .i64) tI)))))
abbrev En:=Int×Bool×Int×Int×I
abbrev tE:Ty:=(.st (.pair .bool (.pair (.sl tI) (.pair (.sl tI) (.pair (.sl tI) (.pair (.int .i64) (.int .i64)))))))
abbrev tA:Ty:=(.st (.pair (.int .i64) (.pair (.int .i64) (.pair (.int .i64) (.pair (.int .i64) (.pair (.int .i64) (.pair (.int .i64) (.pair (.int .i64) (.pair (.int .i64) (.int .i64))))))))))
abbrev A:=Int×Int×Int×Int×Int×Int×Int×Int×Int
abbrev tC:Ty:=(.st (.pair (.int .i64) (.sl tA)))
abbrev C:=Int×List A
abbrev tU:Ty:=(.st (.pair (.sl (.int .i64)) (.pair (.sl (.int .i64)) (.pair (.int .i64) (.sl tC)))))
abbrev U:=List Int×List Int×Int×List C
abbrev tAc:Ty:=(.st (.pair (.int .i64) (.pair (.int .i64) (.pair .bool (.pair (.int .i64) (.pair .bool (.int .i64)))))))
abbrev Ac:=Int×Int×Bool×Int×Bool×Int
abbrev tO:Ty:=(.st (.pair tE (.pair tE (.pair (.sl (.int .i64)) (.pair (.sl tEn) (.sl tAc))))))
abbrev O:=E×E×List Int×List En×List Ac
abbrev tAl:Ty:=(.st (.pair (.int .i64) (.pair (.int .i64) (.pair (.int .i64) (.pair (.int .i64) (.pair (.int .i64) (.int .i64)))))))
abbrev Al:=Int×Int×Int×Int×Int×Int
abbrev tR:Ty:=(.st (.pair (.sl tE) (.pair (.sl tEn) (.pair (.sl tAc) (.pair (.sl tAl) (.pair (.int .i64) .bool))))))
abbrev Re:=List E×List En×List Ac×List Al×Int×Bool
def bodyX (g b:Nat):Code:=((inl g).bind (·.body)).elim .skip (lpx · b)
abbrev Zr:Nat:=18446744073709551616
theorem Zk6 {b:Nat} {x:Code}:∀ (c:Code) (b0:Nat),(b,x)∈ZT b0 c→∀ q∈ZT b x,q∈ZT b0 c
 | .seq y z,b0,h,q,hq=>by
  simp only [ZT,List.mem_append] at h ⊢
  exact h.imp (fun h=>Zk6 y b0 h q hq) (fun h=>Zk6 z b0 h q hq)
 | .cond _ y z,b0,h,q,hq=>by
  simp only [ZT,List.mem_append] at h ⊢
  exact h.imp (fun h=>Zk6 y b0 h q hq) (fun h=>Zk6 z b0 h q hq)
 | .block id y,b0,h,q,hq=>by
  simp only [ZT] at h ⊢
  exact Zk6 y id h q hq
 | .loop y,b0,h,q,hq=>by
  simp only [ZT,List.mem_cons,Prod.mk.injEq] at h ⊢
  rcases h with ⟨rfl,rfl⟩ | h
  ·exact .inr hq
  ·exact .inr (Zk6 y b0 h q hq)
theorem ZZT {P:Program} {cx:Ctx} {g b n:Nat} (hi:InlOk P cx) (hx:cx.inl=inl) (hk:((inl g).elim false fun fn=>fn.ntmps.beq n&&fn.body.elim false fun c=>((ZT 0 c).find? fun q=>Nat.beq q.1 b).isSome)=true) :
  ∀ q∈ZT b (bodyX g b),∀ p,cx.lps g q.1=some p→Z8 P n (.loop q.2) p:=by
 intro q hq p hp
 unfold bodyX at hq
 cases hg:inl g with
 | none=>rw [hg] at hk;cases hk
 | some fn=>
  rw [hg] at hk hq
  simp only [Option.elim_some,Option.bind_some,Bool.and_eq_true] at hk hq
  obtain ⟨hn,hk⟩:=hk
  obtain rfl:=ZS.1 hn
  cases hb:fn.body with
  | none=>rw [hb] at hk;cases hk
  | some c=>
   rw [hb] at hk hq
   simp only [Option.elim_some] at hk hq
   unfold lpx at hq
   cases hf:(ZT 0 c).find? fun q=>Nat.beq q.1 b with
   | none=>rw [hf] at hk;cases hk
   | some r=>
    rw [hf] at hq
    simp only at hq
    have h1:=List.mem_of_find?_eq_some hf
    have h2:=List.find?_some hf
    obtain ⟨k,x⟩:=r
    simp only at h2 hq
    obtain rfl:=ZS.1 h2
    exact hi.lps g fn c (by rw [hx];exact hg) hb q (Zk6 c 0 h1 q hq) p hp
def ndB (g:Nat):Bool:=((inl g).bind (·.body)).elim false (fun c=>Qn ((ZT 0 c).map (·.1)))
structure Con where
 g:Nat
 p:List AV→Prog AV
 s:Zg Tryz.prog g p
def spL:List Con→Nat→Option (List AV→Prog AV)
 | [],_=>none
 | c::r,g=>bif c.g.beq g then some c.p else spL r g
theorem hspL:∀ (l:List Con) (g:Nat) (p:List AV→Prog AV),spL l g=some p→Zg Tryz.prog g p
 | [],_,_,h=>nomatch h
 | c::r,g,p,h=>by
  unfold spL at h
  cases e:c.g.beq g
  ·rw [e] at h;exact hspL r g p h
  ·rw [e] at h
   cases h
   obtain rfl:=Nat.eq_of_beq_eq_true e
   exact c.s
structure Lpc where
 g:Nat
 b:Nat
 n:Nat
 p:Nat→Tm→Prog (Nat×Tm)
 d:ndB g=true
 e:(inl g).elim 0 (·.ntmps)=n
 s:Z8 Tryz.prog n (.loop (bodyX g b)) p
def lpL:List Lpc→Nat→Nat→Option (Nat→Tm→Prog (Nat×Tm))
 | [],_,_=>none
 | c::r,g,b=>bif c.g.beq g&&c.b.beq b then some c.p else lpL r g b
theorem ZNP:∀ (l:List Lpc) (g b:Nat) (p:Nat→Tm→Prog (Nat×Tm)),lpL l g b=some p→∃ c:Lpc,c.g=g∧c.b=b∧c.p=p
 | [],_,_,_,h=>nomatch h
 | c::r,g,b,p,h=>by
  unfold lpL at h
  cases e:(c.g.beq g&&c.b.beq b)
  ·rw [e] at h;exact ZNP r g b p h
  ·rw [e] at h
   cases h
   simp only [Bool.and_eq_true] at e
   exact ⟨c,Nat.eq_of_beq_eq_true e.1,Nat.eq_of_beq_eq_true e.2,rfl⟩
def cxU (sp:List Con) (lp:List Lpc) (fu sn:Nat):Ctx:={ tab:=tab,spec:=spL sp,inl:=inl,lps:=lpL lp,fuel:=fu,spn:=sn,vr:=Nat.beq (sn % 2) 1 }
theorem inU (sp:List Con) (lp:List Lpc) (fu sn:Nat):InlOk Tryz.prog (cxU sp lp fu sn):=⟨ZNw,fun g fn c hg hb q hq p hp=>by
 change lpL lp g q.1=some p at hp
 change inl g=some fn at hg
 obtain ⟨l,e1,e2,rfl⟩:=ZNP lp g q.1 p hp
 subst e1
 exact ZUu (inl:=inl) hg hb hq e2.symm l.d l.e l.s⟩
theorem calU (sp:List Con) (lp:List Lpc) (fu sn D g:Nat):Zg Tryz.prog g (evF (cxU sp lp fu sn) keeps D g):=ZKm (Zos ZsZ) (ZKj ZsZ ZQb) mixed (inU sp lp fu sn) (hspL sp) keeps D g
def lpB (g b n:Nat):Bool:=(inl g).elim false fun fn=>fn.ntmps.beq n&&fn.body.elim false fun c=>((ZT 0 c).find? fun q=>Nat.beq q.1 b).isSome
theorem loopU (sp:List Con) (lp:List Lpc) (fu sn D:Nat) {g b n:Nat} {keep:Nat→List Nat} {q:Nat→Tm→Prog (Nat×Tm)} (hk:lpB g b n=true)
  (ok:ZI keep (fun base=>evC (cxU sp lp fu sn) (evF (cxU sp lp fu sn) keeps D) ⟨g,n,keeps g,base⟩ b (bodyX g b)) q):Z8 Tryz.prog n (.loop (bodyX g b)) (fun base T=>.norm base (keep 0) T (q base)):=
 ZPn (cx:=cxU sp lp fu sn) (cal:=evF (cxU sp lp fu sn) keeps D) (kp:=keeps g) (Zos ZsZ) (ZKj ZsZ ZQb) (calU sp lp fu sn D) mixed (ZZT (g:=g) (b:=b) (inU sp lp fu sn) rfl hk) ok
section
open Go.Proofs Go.Shelf Go.Proofs.YtbdcblpjemmipaaGreat
def ZNJ:Go.Shelf.Ren:=⟨fun | 189=>70 | 125=>105 | 257=>104 | 128=>151 | 129=>152 | 294=>142 | 295=>143 | 296=>144 | 297=>145 | 298=>146 | 299=>147 | 216=>148 | 300=>149 | 301=>150 | 328=>181 | 329=>182 | 330=>183 | 331=>184 | 332=>185 | 215=>186 | 343=>203 | n=>n,fun | 28=>28 | 3=>3 | 46=>143 | 0=>0 | 51=>172 | 53=>174 | 4=>4 | 183=>166 | 182=>165 | 131=>103 | 5=>5 | 9=>9 | 218=>189 | 222=>193 | 228=>203 | 229=>68 | n=>n,fun | n=>n⟩
theorem ZNI:Go.Proofs.Lays.n189 Tryz.prog ZNJ:={
 mixed:=by kernel_rfl
 f125:=Tryz.func105.trans (congrArg some (by kernel_rfl))
 f128:=Tryz.func151.trans (congrArg some (by kernel_rfl))
 f129:=Tryz.func152.trans (congrArg some (by kernel_rfl))
 f189:=Tryz.func70.trans (congrArg some (by kernel_rfl))
 f215:=Tryz.func186.trans (congrArg some (by kernel_rfl))
 f216:=Tryz.func148.trans (congrArg some (by kernel_rfl))
 f257:=Tryz.func104.trans (congrArg some (by kernel_rfl))
 f294:=Tryz.func142.trans (congrArg some (by kernel_rfl))
 f295:=Tryz.func143.trans (congrArg some (by kernel_rfl))
 f296:=Tryz.func144.trans (congrArg some (by kernel_rfl))
 f297:=Tryz.func145.trans (congrArg some (by kernel_rfl))
 f298:=Tryz.func146.trans (congrArg some (by kernel_rfl))
 f299:=Tryz.func147.trans (congrArg some (by kernel_rfl))
 f300:=Tryz.func149.trans (congrArg some (by kernel_rfl))
 f301:=Tryz.func150.trans (congrArg some (by kernel_rfl))
 f328:=Tryz.func181.trans (congrArg some (by kernel_rfl))
 f329:=Tryz.func182.trans (congrArg some (by kernel_rfl))
 f330:=Tryz.func183.trans (congrArg some (by kernel_rfl))
 f331:=Tryz.func184.trans (congrArg some (by kernel_rfl))
 f332:=Tryz.func185.trans (congrArg some (by kernel_rfl))
 f343:=Tryz.func203.trans (congrArg some (by kernel_rfl))
 t0:=Tryz.underlying0
 a0:=Tryz.isAgg0
 z0:=Tryz.sizeOf0
 v0:=Tryz.zeroValue0
 t3:=Tryz.underlying3
 a3:=Tryz.isAgg3
 z3:=Tryz.sizeOf3
 v3:=Tryz.zeroValue3
 t4:=Tryz.underlying4
 a4:=Tryz.isAgg4
 z4:=Tryz.sizeOf4
 v4:=Tryz.zeroValue4
 t5:=Tryz.underlying5
 a5:=Tryz.isAgg5
 z5:=Tryz.sizeOf5
 v5:=Tryz.zeroValue5
 t9:=Tryz.underlying9
 a9:=Tryz.isAgg9
 z9:=Tryz.sizeOf9
 v9:=Tryz.zeroValue9
 t28:=Tryz.underlying28
 a28:=Tryz.isAgg28
 z28:=Tryz.sizeOf28
 v28:=Tryz.zeroValue28
 t46:=Tryz.underlying143
 a46:=Tryz.isAgg143
 z46:=Tryz.sizeOf143
 v46:=Tryz.zeroValue143
 t51:=Tryz.underlying172
 a51:=Tryz.isAgg172
 z51:=Tryz.sizeOf172
 v51:=Tryz.zeroValue172
 t53:=Tryz.underlying174
 a53:=Tryz.isAgg174
 z53:=Tryz.sizeOf174
 v53:=Tryz.zeroValue174
 t131:=Tryz.underlying103
 a131:=Tryz.isAgg103
 z131:=Tryz.sizeOf103
 v131:=Tryz.zeroValue103
 t182:=Tryz.underlying165
 a182:=Tryz.isAgg165
 z182:=Tryz.sizeOf165
 v182:=Tryz.zeroValue165
 t183:=Tryz.underlying166
 a183:=Tryz.isAgg166
 z183:=Tryz.sizeOf166
 v183:=Tryz.zeroValue166
 t218:=Tryz.underlying189
 a218:=Tryz.isAgg189
 z218:=Tryz.sizeOf189
 v218:=Tryz.zeroValue189
 t222:=Tryz.underlying193
 a222:=Tryz.isAgg193
 z222:=Tryz.sizeOf193
 v222:=Tryz.zeroValue193
 t228:=Tryz.underlying203
 a228:=Tryz.isAgg203
 z228:=Tryz.sizeOf203
 v228:=Tryz.zeroValue203
 t229:=Tryz.underlying68
 a229:=Tryz.isAgg68
 z229:=Tryz.sizeOf68
 v229:=Tryz.zeroValue68 }
open Go.Sort Go.RowKit in
theorem cSort (blk off cap:Nat) (zs:List Int) (w:World) (hH:Holds (Value.int .i64) w blk off zs.toArray) (hblk:blk<w.heap.size) (hsz:zs.length<4611686018427387904) :
  Calls Tryz.prog 70 #[.slice (some ⟨blk,off,none⟩) zs.length cap] w fun e w'=>
   e=.returned (.tuple #[])∧∃ n os,w'=grow (putRow (Value.int .i64) (Sort.ahead w n) blk off (zs.mergeSort fun x y=>decide (x≤y)).toArray) os:=Any.slices_Sort_int ZNI blk off cap zs w hH hblk hsz
def ZHQ:Go.Shelf.Ren:=⟨fun | 20=>71 | n=>n,fun | 22=>28 | 3=>3 | 4=>4 | 0=>0 | n=>n,fun | n=>n⟩
theorem ZFF:Go.Proofs.Lays2.n20 Tryz.prog ZHQ:={
 mixed:=by kernel_rfl
 f20:=Tryz.func71.trans (congrArg some (by kernel_rfl))
 t0:=Tryz.underlying0
 a0:=Tryz.isAgg0
 z0:=Tryz.sizeOf0
 v0:=Tryz.zeroValue0
 t3:=Tryz.underlying3
 a3:=Tryz.isAgg3
 z3:=Tryz.sizeOf3
 v3:=Tryz.zeroValue3
 t4:=Tryz.underlying4
 a4:=Tryz.isAgg4
 z4:=Tryz.sizeOf4
 v4:=Tryz.zeroValue4
 t22:=Tryz.underlying28
 a22:=Tryz.isAgg28
 z22:=Tryz.sizeOf28
 v22:=Tryz.zeroValue28
 i3:=by kernel_rfl }
open Go.RowKit Go.Lib Go.Sort in
theorem ZT5 (blk off cap:Nat) (zs:List Int) (w:World) (hH:Holds (Value.int .i64) w blk off zs.toArray) (hsz:zs.length≤9223372036854775807) (hcap:zs.length≤cap) :
  Calls Tryz.prog 71 #[.slice (some ⟨blk,off,none⟩) zs.length cap] w fun e w'=>e=.returned (.slice (some ⟨blk,off,none⟩) (Lib.compact zs).length cap)∧∃ q,w'=putRow (Value.int .i64) (Sort.ahead w q) blk off (Lib.compact zs++List.replicate (zs.length - (Lib.compact zs).length) 0).toArray:=Any.slices_Compact_int ZFF blk off cap zs w hH hsz hcap
open Go.RowKit Go.Lib Go.Sort in
theorem ZSm (a:Option Addr) (cap:Nat) (w:World) :
  Calls Tryz.prog 71 #[.slice a 0 cap] w fun e w'=>e=.returned (.slice a 0 cap)∧w'=w:=Any.slices_Compact_int_empty ZFF a cap w
theorem ZW2 (p:Option Addr) (cap:Nat) (w:World):Calls Tryz.prog 70 #[.slice p 0 cap] w fun e w'=>e=.returned (.tuple #[])∧w'=w:=Any.slices_Sort_int_none ZNI p cap w
end
section
open Go.Proofs Go.Sort Go.RowKit Go.Lib
abbrev tN:Ty:=.int .i64
def srtI (l:List Int):List Int:=l.mergeSort fun x y=>decide (x≤y)
def sortP (args:List AV):Prog AV:=match args with
 | [.row id]=>.get id fun
  | .row e1 l1=>.opt (castL e1 tN l1) fun (l:List Int)=>.ite (decide (l.length<4611686018427387904)) (.put id (.row tN (srtI l)) (.ret (.tup []))) .fail
  | .box _=>.fail
 | [.sub id sz lo hi]=>bif Nat.beq sz 1&&Nat.beq lo 0 then .get id fun
  | .row e1 l1=>.opt (castL e1 tN l1) fun (l:List Int)=>.ite (decide (hi≤l.length∧l.length<4611686018427387904)) (.put id (.row tN (srtI (l.take hi)++l.drop hi)) (.ret (.tup []))) .fail
  | .box _=>.fail
  else .fail
 | _=>.fail
def cutI (l:List Int) (m:Nat):List Int:=Lib.compact (l.take m)++List.replicate (m - (Lib.compact (l.take m)).length) 0++l.drop m
def compP (args:List AV):Prog AV:=match args with
 | [.row id]=>.get id fun
  | .row e1 l1=>.opt (castL e1 tN l1) fun (l:List Int)=>.ite (decide (l.length<4611686018427387904)) (.put id (.row tN (cutI l l.length)) (.ret (.sub id 1 0 (Lib.compact (l.take l.length)).length))) .fail
  | .box _=>.fail
 | [.sub id sz lo hi]=>bif Nat.beq sz 1&&Nat.beq lo 0 then .get id fun
  | .row e1 l1=>.opt (castL e1 tN l1) fun (l:List Int)=>.ite (decide (hi≤l.length∧l.length<4611686018427387904)) (.put id (.row tN (cutI l hi)) (.ret (.sub id 1 0 (Lib.compact (l.take hi)).length))) .fail
  | .box _=>.fail
  else .fail
 | _=>.fail
theorem irow {S:Stb} {vs:Array Value} {l:List Int}:Qt S tN vs 0 l↔∀ (i:Nat) (h:i<l.length),vs[i]? = some (.int .i64 l[i]):=by
 refine ⟨fun h i hi=>?_,fun h i hi=>?_⟩
 ·obtain ⟨cs,k1,k2,k3⟩:=h i hi
  have:=k2 0 (by decide)
  rw [show 0+i*(eTy tN).size+0=i by show 0+i*1+0=i;omega] at this
  rw [this]
  have k3:DRep S tN cs l[i]:=k3
  cases k3
  rfl
 ·refine ⟨[.int .i64 l[i]],rfl,fun j hj=>?_,.int .i64 _⟩
  have hj:j<1:=hj
  obtain rfl:j=0:=by omega
  rw [show 0+i*(eTy tN).size+0=i by show 0+i*1+0=i;omega,h i hi];rfl
section
variable {P:Program}
theorem ZKR {tr:Bool} {ok:Nat→Prop} {hdr:Nat→Value} {S:Stb} {h:Hp} {w:World} (hr:HReal hdr S h.blks w) (hm:Kd ok h.blks)
  (id:Nat) (B B':Blk) (hf:Zm h.blks id=some B') (hB:∀ n∈B.ids,ok n) (w':World) (b:Nat) (hb:blkOf (hdr id)=some b)
  (hos:w'.os=w.os) (htape:w'.tape=w.tape) (hout:w'.output=w.output) (hsize:w.heap.size≤w'.heap.size) (hother:∀ n,n≠b→n<w.heap.size→w'.heap[n]? = w.heap[n]?)
  (hreal:BReal hdr S w' id B):Post tr ok hdr S h w hdr S ⟨setB h.blks id B,h.c⟩ w':=by
 have hfind:∀ j c,Zm (setB h.blks id B) j=some c→(j=id∧c=B)∨(j≠id∧Zm h.blks j=some c):=fun j c k=>by
  rw [Hf _ _ _ _ hf] at k
  split at k
  ·rename_i e;cases k;exact .inl ⟨e,rfl⟩
  ·rename_i e;exact .inr ⟨e,k⟩
 have hf':∀ j c,Zm (setB h.blks id B) j=some c→∃ c',Zm h.blks j=some c':=fun j c k=>by
  rcases hfind j c k with ⟨rfl,_⟩ | ⟨_,k⟩
  ·exact ⟨B',hf⟩
  ·exact ⟨c,k⟩
 refine ⟨Nat.le_refl _,fun _ _=>rfl,⟨fun j c k=>?_,fun i j c c' n hij ki kj hi hj=>?_,fun i c n ki hi=>?_,fun n cs hn=>?_⟩,⟨hos,htape,hout,hsize,fun n hn ho=>?_,fun n ho=>?_,fun _ _ k=>k,fun _ _ k=>.inl k⟩,fun j c k=>?_⟩
 ·rcases hfind j c k with ⟨rfl,rfl⟩ | ⟨hne,k⟩
  ·exact hreal
  ·exact (hr.blk j c k).congr (fun _ _ k=>k) rfl (fun _ _=>rfl) fun n hn=>hother n (fun e=>hr.sep j id c B' n hne k hf hn (by rw [hb,e])) ((hr.blk j c k).lt hn)
 ·obtain ⟨d,ki⟩:=hf' i c ki
  obtain ⟨d',kj⟩:=hf' j c' kj
  exact hr.sep i j d d' n hij ki kj hi hj
 ·obtain ⟨d,ki⟩:=hf' i c ki
  exact hr.stb i d n ki hi
 ·obtain ⟨e,f,k⟩:=hr.mem n cs hn
  refine ⟨e,f,(hother n (fun e=>?_) (hr.stb_lt hn)).trans k⟩
  subst e
  rw [hr.stb id B' n hf hb] at hn
  cases hn
 ·exact hother n (fun e=>ho ⟨id,B',hf,by rw [hb,e]⟩) hn
 ·obtain ⟨j,c,k,hj⟩:=ho
  obtain ⟨d,k⟩:=hf' j c k
  exact .inl ⟨j,d,k,hj⟩
 ·rcases hfind j c k with ⟨rfl,rfl⟩ | ⟨hne,k⟩
  ·exact ⟨.inl (hm j B' hf).1,fun n hn=>.inl (hB n hn)⟩
  ·exact ⟨.inl (hm j c k).1,fun n hn=>.inl ((hm j c k).2 n hn)⟩
theorem brow {hdr:Nat→Value} {S:Stb} {w:World} {id:Nat} (L:List Int) (b cap:Nat) (vs:Array Value) (et:TypeId) (hh:hdr id=.slice (some ⟨b,0,none⟩) L.length cap) (hc:0<cap) (hw:w.heap[b]? = some (.cells vs et (0,0))) (hl:L.length≤cap)
  (hs:vs.size=cap) (hi:∀ (i:Nat) (h:i<L.length),vs[i]? = some (.int .i64 L[i])):BReal hdr S w id (.row tN L):=
 .row tN L b cap vs et hh hc hw hl (by rw [hs];exact (Nat.mul_one cap).symm) (irow.2 hi)
theorem ZKS {tr:Bool} {ok:Nat→Prop} {hdr:Nat→Value} {S:Stb} {h:Hp} {w:World} (hr:HReal hdr S h.blks w) (hm:Kd ok h.blks) {id:Nat} {B:Blk} (hf:Zm h.blks id=some B):Post tr ok hdr S h w hdr S ⟨setB h.blks id B,h.c⟩ w:=by
 have hfind:∀ j,Zm (setB h.blks id B) j=Zm h.blks j:=fun j=>by
  rw [Hf _ _ _ _ hf]
  split
  ·rename_i q;rw [q,hf]
  ·rfl
 refine ⟨Nat.le_refl _,fun _ _=>rfl,⟨fun j c k=>?_,fun i j c c' n hij ki kj=>?_,fun i c n ki=>?_,hr.mem⟩,⟨rfl,rfl,rfl,Nat.le_refl _,fun _ _ _=>rfl,fun n ho=>?_,fun _ _ k=>k,fun _ _ k=>.inl k⟩,fun j c k=>?_⟩
 ·rw [hfind] at k;exact hr.blk j c k
 ·rw [hfind] at ki kj;exact hr.sep i j c c' n hij ki kj
 ·rw [hfind] at ki;exact hr.stb i c n ki
 ·obtain ⟨j,c,k,hj⟩:=ho
  rw [hfind] at k;exact .inl ⟨j,c,k,hj⟩
 ·rw [hfind] at k;exact ⟨.inl (hm j c k).1,fun n hn=>.inl ((hm j c k).2 n hn)⟩
theorem ZKT {w:World} {b:Nat} {vs:Array Value} {et:TypeId} (hw:w.heap[b]? = some (.cells vs et (0,0))) (n:Nat) (d:List Int) :
  (putRow (Value.int .i64) (Sort.ahead w n) b 0 d.toArray).heap[b]? = some (.cells (putCells (Value.int .i64) 0 d.toArray vs) et (0,0))∧∀ k,k≠b→(putRow (Value.int .i64) (Sort.ahead w n) b 0 d.toArray).heap[k]? = w.heap[k]?:=by
 unfold putRow mapBlock
 refine ⟨?_,fun k hk=>?_⟩
 ·show (Array.modify w.heap b _)[b]? = _
  rw [Array.getElem?_modify,if_pos rfl,hw];rfl
 ·show (Array.modify w.heap b _)[k]? = _
  rw [Array.getElem?_modify,if_neg (fun e=>hk e.symm)]
theorem ZKi {vs:Array Value} {d:List Int} (k:Nat) (hk:k<vs.size):(putCells (Value.int .i64) 0 d.toArray vs)[k]? = if h:k<d.length then some (.int .i64 d[k]) else vs[k]?:=by
 unfold putCells
 rw [Array.getElem?_mapIdx,Array.getElem?_eq_getElem hk]
 simp only [Option.map_some,Nat.zero_le,true_and,Nat.zero_add,List.size_toArray,Nat.sub_zero]
 by_cases h:k<d.length
 ·rw [if_pos h,dif_pos h,getElem!_pos d.toArray k (by simpa using h)];rfl
 ·rw [if_neg h,dif_neg h]
theorem ZIg {vs:Array Value} {d:List Int}:(putCells (Value.int .i64) 0 d.toArray vs).size=vs.size:=by simp [putCells]
theorem ZNu {w:World} {b:Nat} {vs:Array Value} {et:TypeId} (hw:w.heap[b]? = some (.cells vs et (0,0))) {l:List Int} (h:∀ (i:Nat) (h:i<l.length),vs[i]? = some (.int .i64 l[i])) (m:Nat) (hm:m≤l.length) :
  Holds (Value.int .i64) w b 0 (l.take m).toArray:=fun j hj=>by
 have hj:j<m:=by simp only [List.size_toArray,List.length_take] at hj;omega
 refine ⟨?_,by simp [World.frozen?,hw]⟩
 rw [ZnR hw,Nat.zero_add,h j (by omega),getElem!_pos _ j (by simp;omega)]
 simp
end
theorem ZOS (l:List Int):(srtI l).length=l.length:=List.length_mergeSort ..
theorem ZK3 {tr:Bool} {ok:Nat→Prop} {hdr:Nat→Value} {S:Stb} {h:Hp} {w:World} (hr:HReal hdr S h.blks w) (hm:Kd ok h.blks) {id:Nat} {l:List Int} (hf:Zm h.blks id=some (.row tN l)) {m:Nat} (hml:m≤l.length) (hl:l.length<4611686018427387904)
  {a:Option Addr} {cap:Nat} (ha:m=0∨∃ b len cap',hdr id=.slice (some ⟨b,0,none⟩) len cap'∧a=some ⟨b,0,none⟩) :
  Calls Tryz.prog 70 #[.slice a m cap] w fun en w'=>en=.returned (.tuple #[])∧Post tr ok hdr S h w hdr S ⟨setB h.blks id (.row tN (srtI (l.take m)++l.drop m)),h.c⟩ w':=by
 have br:=hr.blk id _ hf
 by_cases h0:m=0
 ·subst h0
  refine (ZW2 a cap w).mono ?_
  rintro en w' ⟨rfl,rfl⟩
  refine ⟨rfl,?_⟩
  have e:srtI (l.take 0)++l.drop 0=l:=by rw [List.take_zero,List.drop_zero];unfold srtI;rw [List.mergeSort_nil];rfl
  rw [e]
  exact ZKS hr hm hf
 obtain ⟨b0,len,cap',hh,rfl⟩:=ha.resolve_left h0
 cases br with
 | rowNil _ a0 hh'=>exact absurd (show m≤0 from hml) (by omega)
 | row _ _ b capb vs et hh' hcap hw hle hs hre=>
  rw [hh] at hh'
  cases hh'
  have hi:=irow.1 hre
  have hs:vs.size=cap'*1:=hs
  have hH:=ZNu hw hi m hml
  have hlt:(l.take m).length=m:=by rw [List.length_take];omega
  have hc:=cSort b0 0 cap (l.take m) w hH (Array.getElem?_eq_some_iff.1 hw).1 (by omega)
  rw [hlt,show ((l.take m).mergeSort fun x y=>decide (x≤y))=srtI (l.take m) from rfl] at hc
  refine hc.mono ?_
  rintro en w' ⟨rfl,n,os,rfl⟩
  refine ⟨rfl,?_⟩
  obtain ⟨p1,p2⟩:=ZKT hw n (srtI (l.take m))
  have hsz:(putRow (Value.int .i64) (Sort.ahead w n) b0 0 (srtI (l.take m)).toArray).heap.size=w.heap.size:=by rw [Sort.size_putRow];rfl
  have hb0:b0<w.heap.size:=(Array.getElem?_eq_some_iff.1 hw).1
  have hbl:blkOf (hdr id)=some b0:=by
   rw [hh]
   cases cap' with
   | zero=>omega
   | succ n=>rfl
  have hg:∀ k,k<w.heap.size→(Sort.grow (putRow (Value.int .i64) (Sort.ahead w n) b0 0 (srtI (l.take m)).toArray) os).heap[k]? = (putRow (Value.int .i64) (Sort.ahead w n) b0 0 (srtI (l.take m)).toArray).heap[k]?:=fun k hk=>by
   show (_++os)[k]? = _
   rw [Array.getElem?_append_left (by rw [hsz];exact hk)]
  have hll:(srtI (l.take m)++l.drop m).length=l.length:=by rw [List.length_append,ZOS,List.length_take,List.length_drop];omega
  refine ZKR hr hm id _ _ hf (fun n hn=>by cases hn) _ b0 hbl rfl rfl rfl (by show _≤(_++os).size;rw [Array.size_append,hsz];omega) (fun k hk hlt=>by rw [hg k hlt,p2 k hk]) ?_
  refine brow (srtI (l.take m)++l.drop m) b0 cap' _ et (by rw [hll];exact hh) hcap (by rw [hg b0 hb0];exact p1) (by rw [hll];exact hle) (by rw [ZIg,hs,Nat.mul_one]) (fun i hi2=>?_)
  rw [hll] at hi2
  have hiv:i<vs.size:=by rw [hs,Nat.mul_one];exact Nat.lt_of_lt_of_le hi2 hle
  rw [ZKi (vs:=vs) i hiv]
  have hsl:(srtI (l.take m)).length=m:=by rw [ZOS,hlt]
  by_cases him:i<m
  ·rw [dif_pos (by rw [hsl];exact him),List.getElem_append_left (by rw [hsl];exact him)]
  ·rw [dif_neg (by rw [hsl];exact him),hi i hi2]
   congr 2
   rw [List.getElem_append_right (by rw [hsl];omega),List.getElem_drop]
   congr 1
   rw [hsl];omega
theorem ZT7 (l:List Int):(Lib.compact l).length≤l.length:=by
 unfold Lib.compact Lib.compactUpTo
 rw [List.length_map]
 exact Nat.le_trans (List.length_filter_le _ _) (by simp)
theorem ZKk {tr:Bool} {ok:Nat→Prop} {hdr:Nat→Value} {S:Stb} {h:Hp} {w:World} (hr:HReal hdr S h.blks w) (hm:Kd ok h.blks) {id:Nat} {l:List Int} (hf:Zm h.blks id=some (.row tN l)) {m:Nat} (hml:m≤l.length) (hl:l.length<4611686018427387904)
  {a:Option Addr} {cap:Nat} (hmc:m≤cap) (ha:m=0∨∃ b len cap',hdr id=.slice (some ⟨b,0,none⟩) len cap'∧a=some ⟨b,0,none⟩) :
  Calls Tryz.prog 71 #[.slice a m cap] w fun en w'=>∃ u,en=.returned u∧Post tr ok hdr S h w hdr S ⟨setB h.blks id (.row tN (cutI l m)),h.c⟩ w'∧VRep hdr S (.sub id 1 0 (Lib.compact (l.take m)).length) u:=by
 have br:=hr.blk id _ hf
 have hlt:(l.take m).length=m:=by rw [List.length_take];omega
 have hcl:=ZT7 (l.take m)
 rw [hlt] at hcl
 by_cases h0:m=0
 ·subst h0
  refine (ZSm a cap w).mono ?_
  rintro en w' ⟨rfl,rfl⟩
  have e:cutI l 0=l:=by unfold cutI;rw [List.take_zero,List.drop_zero];rfl
  rw [e]
  exact ⟨_,rfl,ZKS hr hm hf,.sub id 1 0 0 a cap (.inl (Nat.le_refl 0)) (Nat.zero_le _)⟩
 obtain ⟨b0,len,cap',hh,rfl⟩:=ha.resolve_left h0
 cases br with
 | rowNil _ a0 hh'=>exact absurd (show m≤0 from hml) (by omega)
 | row _ _ b capb vs et hh' hcap hw hle hs hre=>
  rw [hh] at hh'
  cases hh'
  have hi:=irow.1 hre
  have hs:vs.size=cap'*1:=hs
  have hH:=ZNu hw hi m hml
  have hc:=ZT5 b0 0 cap (l.take m) w hH (by omega) (by omega)
  rw [hlt] at hc
  refine hc.mono ?_
  rintro en w' ⟨rfl,n,rfl⟩
  have hdl:(Lib.compact (l.take m)++List.replicate (m - (Lib.compact (l.take m)).length) 0).length=m:=by rw [List.length_append,List.length_replicate];omega
  generalize hd:Lib.compact (l.take m)++List.replicate (m - (Lib.compact (l.take m)).length) 0=d at hdl
  obtain ⟨p1,p2⟩:=ZKT hw n d
  have hsz:(putRow (Value.int .i64) (Sort.ahead w n) b0 0 d.toArray).heap.size=w.heap.size:=by rw [Sort.size_putRow];rfl
  have hbl:blkOf (hdr id)=some b0:=by
   rw [hh]
   cases cap' with
   | zero=>omega
   | succ n=>rfl
  have hcut:cutI l m=d++l.drop m:=by unfold cutI;rw [hd]
  have hll:(d++l.drop m).length=l.length:=by rw [List.length_append,hdl,List.length_drop];omega
  rw [hcut]
  refine ⟨_,rfl,ZKR hr hm id _ _ hf (fun n hn=>by cases hn) _ b0 hbl rfl rfl rfl (by rw [hsz];exact Nat.le_refl _) (fun k hk _=>p2 k hk) ?_,?_⟩
  ·refine brow (d++l.drop m) b0 cap' _ et (by rw [hll];exact hh) hcap p1 (by rw [hll];exact hle) (by rw [ZIg,hs,Nat.mul_one]) (fun i hi2=>?_)
   rw [hll] at hi2
   have hiv:i<vs.size:=by rw [hs,Nat.mul_one];exact Nat.lt_of_lt_of_le hi2 hle
   rw [ZKi (vs:=vs) i hiv]
   by_cases him:i<m
   ·rw [dif_pos (by rw [hdl];exact him),List.getElem_append_left (by rw [hdl];exact him)]
   ·rw [dif_neg (by rw [hdl];exact him),hi i hi2]
    congr 2
    rw [List.getElem_append_right (by rw [hdl];omega),List.getElem_drop]
    congr 1
    rw [hdl];omega
  ·have:=VRep.sub (hdr:=hdr) (S:=S) id 1 0 (Lib.compact (l.take m)).length (some ⟨b0,0,none⟩) cap (.inr ⟨b0,l.length,cap',hh,by omega,rfl⟩) (by omega)
   exact this
theorem ZTr {tr:Bool} {ok:Nat→Prop} {hdr:Nat→Value} {S:Stb} {h:Hp} {w:World} (hr:HReal hdr S h.blks w) (hm:Kd ok h.blks) {id:Nat} {l:List Int} (hf:Zm h.blks id=some (.row tN l)) (hl:l.length<4611686018427387904)
  {a:Option Addr} {cap:Nat} (ha:l.length=0∨∃ b len cap',hdr id=.slice (some ⟨b,0,none⟩) len cap'∧a=some ⟨b,0,none⟩) :
  Calls Tryz.prog 70 #[.slice a l.length cap] w fun en w'=>en=.returned (.tuple #[])∧Post tr ok hdr S h w hdr S ⟨setB h.blks id (.row tN (srtI l)),h.c⟩ w':=by
 have:=ZK3 (tr:=tr) hr hm hf (Nat.le_refl _) hl (cap:=cap) ha
 rwa [List.take_length,List.drop_length,List.append_nil] at this
theorem ZRW:Zg Tryz.prog 70 sortP:=by
 intro tr args h ft v h' ft' vals hdr S w ok ev hr hm hv hids hO
 have hbody:∃ c,Tryz.f70.body=some c:=⟨_,rfl⟩
 obtain ⟨c0,hb0⟩:=hbody
 refine ⟨fun args w=>MuLone.run_callFunc_enter Tryz.func70 (by kernel_rfl) hb0 args w,?_⟩
 unfold sortP at ev
 split at ev
 ·rename_i id
  obtain ⟨b1,hb1,ev⟩:=Qa ev
  split at ev
  case h_2=>exact (Zh ev).elim
  rename_i e1 l1
  obtain ⟨l,h2,ev⟩:=ZB ev
  obtain ⟨he,hl⟩:=JN h2
  subst he
  simp only at hl
  subst hl
  rcases Jp ev with ⟨hc,ev⟩ | ⟨_,ev⟩
  case inr=>exact (Zh ev).elim
  have hl:=of_decide_eq_true hc
  obtain ⟨_,ev⟩:=Zma ev
  cases Zz ev
  cases hv with | cons _ _ _ _ hx hvn=>
  cases hvn
  cases hx with | row _ a len cap hh=>
  have br:=hr.blk id _ hb1
  have key:len=l1.length∧(l1.length=0∨∃ b len cap',hdr id=.slice (some ⟨b,0,none⟩) len cap'∧a=some ⟨b,0,none⟩):=by
   cases br with
   | rowNil _ a0 hh'=>rw [hh] at hh';cases hh';exact ⟨rfl,.inl rfl⟩
   | row _ _ b capb vs et hh' hcap hw hle hs hre=>rw [hh] at hh';cases hh';exact ⟨rfl,.inr ⟨_,_,_,hh,rfl⟩⟩
  obtain ⟨rfl,ha⟩:=key
  have:=ZTr (tr:=tr) hr hm hb1 hl (cap:=cap) ha
  refine this.mono ?_
  rintro en w' ⟨rfl,p⟩
  exact ⟨_,hdr,S,rfl,p,.tup _ _ .nil,fun n hn=>by simp [AV.ids,AV.idsL] at hn⟩
 ·rename_i id sz lo hi
  rcases ZN ev with ⟨hk,ev⟩ | ⟨_,ev⟩
  case inr=>exact (Zh ev).elim
  rw [Bool.and_eq_true] at hk
  obtain rfl:=ZS.1 hk.1
  obtain rfl:=ZS.1 hk.2
  obtain ⟨b1,hb1,ev⟩:=Qa ev
  split at ev
  case h_2=>exact (Zh ev).elim
  rename_i e1 l1
  obtain ⟨l,h2,ev⟩:=ZB ev
  obtain ⟨he,hl⟩:=JN h2
  subst he
  simp only at hl
  subst hl
  rcases Jp ev with ⟨hc,ev⟩ | ⟨_,ev⟩
  case inr=>exact (Zh ev).elim
  obtain ⟨hh1,hl⟩:=of_decide_eq_true hc
  obtain ⟨_,ev⟩:=Zma ev
  cases Zz ev
  cases hv with | cons _ _ _ _ hx hvn=>
  cases hvn
  cases hx with | sub _ _ _ _ a cap hh hcc=>
  rw [Nat.sub_zero] at hcc ⊢
  have:=ZK3 (tr:=tr) hr hm hb1 hh1 hl (a:=a) (cap:=cap) (hh.imp (fun k=>Nat.le_zero.1 k) fun ⟨b,len,cap',k1,_,k3⟩=>⟨b,len,cap',k1,by rw [k3]⟩)
  refine this.mono ?_
  rintro en w' ⟨rfl,p⟩
  exact ⟨_,hdr,S,rfl,p,.tup _ _ .nil,fun n hn=>by simp [AV.ids,AV.idsL] at hn⟩
 ·exact (Zh ev).elim
theorem ZRr:Zg Tryz.prog 71 compP:=by
 intro tr args h ft v h' ft' vals hdr S w ok ev hr hm hv hids hO
 have hbody:∃ c,Tryz.f71.body=some c:=⟨_,rfl⟩
 obtain ⟨c0,hb0⟩:=hbody
 refine ⟨fun args w=>MuLone.run_callFunc_enter Tryz.func71 (by kernel_rfl) hb0 args w,?_⟩
 unfold compP at ev
 split at ev
 ·rename_i id
  obtain ⟨b1,hb1,ev⟩:=Qa ev
  split at ev
  case h_2=>exact (Zh ev).elim
  rename_i e1 l1
  obtain ⟨l,h2,ev⟩:=ZB ev
  obtain ⟨he,hl⟩:=JN h2
  subst he
  simp only at hl
  subst hl
  rcases Jp ev with ⟨hc,ev⟩ | ⟨_,ev⟩
  case inr=>exact (Zh ev).elim
  have hl:=of_decide_eq_true hc
  obtain ⟨_,ev⟩:=Zma ev
  cases Zz ev
  cases hv with | cons _ _ _ _ hx hvn=>
  cases hvn
  cases hx with | row _ a len cap hh=>
  have br:=hr.blk id _ hb1
  have key:len=l1.length∧l1.length≤cap∧(l1.length=0∨∃ b len cap',hdr id=.slice (some ⟨b,0,none⟩) len cap'∧a=some ⟨b,0,none⟩):=by
   cases br with
   | rowNil _ a0 hh'=>rw [hh] at hh';cases hh';exact ⟨rfl,Nat.le_refl _,.inl rfl⟩
   | row _ _ b capb vs et hh' hcap hw hle hs hre=>rw [hh] at hh';cases hh';exact ⟨rfl,hle,.inr ⟨_,_,_,hh,rfl⟩⟩
  obtain ⟨rfl,hlc,ha⟩:=key
  have:=ZKk (tr:=tr) hr hm hb1 (Nat.le_refl _) hl hlc ha
  refine this.mono ?_
  rintro en w' ⟨u,rfl,p,hu⟩
  exact ⟨u,hdr,S,rfl,p,hu,fun n hn=>by simp only [AV.ids,List.mem_singleton] at hn;subst hn;exact .inl (hids n (by simp [AV.idsL,AV.ids]))⟩
 ·rename_i id sz lo hi
  rcases ZN ev with ⟨hk,ev⟩ | ⟨_,ev⟩
  case inr=>exact (Zh ev).elim
  rw [Bool.and_eq_true] at hk
  obtain rfl:=ZS.1 hk.1
  obtain rfl:=ZS.1 hk.2
  obtain ⟨b1,hb1,ev⟩:=Qa ev
  split at ev
  case h_2=>exact (Zh ev).elim
  rename_i e1 l1
  obtain ⟨l,h2,ev⟩:=ZB ev
  obtain ⟨he,hl⟩:=JN h2
  subst he
  simp only at hl
  subst hl
  rcases Jp ev with ⟨hc,ev⟩ | ⟨_,ev⟩
  case inr=>exact (Zh ev).elim
  obtain ⟨hh1,hl⟩:=of_decide_eq_true hc
  obtain ⟨_,ev⟩:=Zma ev
  cases Zz ev
  cases hv with | cons _ _ _ _ hx hvn=>
  cases hvn
  cases hx with | sub _ _ _ _ a cap hh hcc=>
  rw [Nat.sub_zero] at hcc ⊢
  have:=ZKk (tr:=tr) hr hm hb1 hh1 hl (a:=a) (cap:=cap) hcc (hh.imp (fun k=>Nat.le_zero.1 k) fun ⟨b,len,cap',k1,_,k3⟩=>⟨b,len,cap',k1,by rw [k3]⟩)
  refine this.mono ?_
  rintro en w' ⟨u,rfl,p,hu⟩
  exact ⟨u,hdr,S,rfl,p,hu,fun n hn=>by simp only [AV.ids,List.mem_singleton] at hn;subst hn;exact .inl (hids n (by simp [AV.idsL,AV.ids]))⟩
 ·exact (Zh ev).elim
def Znk:List AV→Prog AV:=sortP
def ZkB:List AV→Prog AV:=compP
theorem ZBZ:Zg Tryz.prog 70 Znk:=ZRW
theorem Zvz:Zg Tryz.prog 71 ZkB:=ZRr
end
theorem ZKX:∀ (a b:List Int),a.Pairwise (· < ·)→b.Pairwise (· < ·)→(∀ x,x∈a↔x∈b)→a=b
 | [],[],_,_,_=>rfl
 | [],y::b,_,_,h=>by have:=(h y).2 (by simp);cases this
 | x::a,[],_,_,h=>by have:=(h x).1 (by simp);cases this
 | x::a,y::b,ha,hb,h=>by
  rw [List.pairwise_cons] at ha hb
  have e:x=y:=by
   rcases List.mem_cons.1 ((h x).1 (by simp)) with k | k
   ·exact k
   ·rcases List.mem_cons.1 ((h y).2 (by simp)) with q | q
    ·exact q.symm
    ·have:=hb.1 x k
     have:=ha.1 y q
     omega
  subst e
  rw [ZKX a b ha.2 hb.2 fun z=>⟨fun k=>?_,fun k=>?_⟩]
  ·rcases List.mem_cons.1 ((h z).1 (List.mem_cons_of_mem _ k)) with q | q
   ·have:=ha.1 z k;omega
   ·exact q
  ·rcases List.mem_cons.1 ((h z).2 (List.mem_cons_of_mem _ k)) with q | q
   ·have:=hb.1 z k;omega
   ·exact q
theorem ZQe (d:Array Int) (h:∀ i j,i≤j→j<d.size→d[i]!≤d[j]!):∀ m,m≤d.size→(Lib.compactUpTo d m).Pairwise (· < ·)∧∀ x,x∈Lib.compactUpTo d m↔∃ j,j<m∧d[j]! = x
 | 0,_=>by
  have e:Lib.compactUpTo d 0=[]:=rfl
  rw [e]
  exact ⟨.nil,fun x=>⟨(fun k=>nomatch k),(fun ⟨j,k,_⟩=>absurd k (Nat.not_lt_zero j))⟩⟩
 | m+1,hm=>by
  obtain ⟨h1,h2⟩:=ZQe d h m (by omega)
  rw [Lib.compactUpTo_succ]
  cases hk:Lib.keeps d m
  ·have hk':¬ (m=0∨d[m]!≠d[m - 1]!):=by simpa [Lib.keeps] using hk
   have m0:m≠0:=fun k=>hk' (.inl k)
   have me:d[m]! = d[m - 1]!:=Classical.byContradiction fun k=>hk' (.inr k)
   simp only [Bool.false_eq_true,if_false,List.append_nil]
   refine ⟨h1,fun x=>⟨fun k=>?_,fun ⟨j,k,q⟩=>?_⟩⟩
   ·obtain ⟨j,k1,k2⟩:=(h2 x).1 k
    exact ⟨j,by omega,k2⟩
   ·by_cases e:j=m
    ·subst e
     exact (h2 x).2 ⟨j - 1,by omega,by rw [← me];exact q⟩
    ·exact (h2 x).2 ⟨j,by omega,q⟩
  ·have hk':m=0∨d[m]!≠d[m - 1]!:=by simpa [Lib.keeps] using hk
   simp only [if_true]
   refine ⟨?_,fun x=>⟨fun k=>?_,fun ⟨j,k,q⟩=>?_⟩⟩
   ·rw [List.pairwise_append]
    refine ⟨h1,List.pairwise_singleton _ _,fun x hx y hy=>?_⟩
    rw [List.mem_singleton] at hy
    subst hy
    obtain ⟨j,k1,rfl⟩:=(h2 x).1 hx
    rcases hk' with rfl | hk'
    ·omega
    ·have a1:=h j (m - 1) (by omega) (by omega)
     have a2:=h (m - 1) m (by omega) (by omega)
     omega
   ·rcases List.mem_append.1 k with k | k
    ·obtain ⟨j,k1,k2⟩:=(h2 x).1 k
     exact ⟨j,by omega,k2⟩
    ·rw [List.mem_singleton] at k
     exact ⟨m,by omega,k.symm⟩
   ·by_cases e:j=m
    ·subst e
     exact List.mem_append_right _ (by rw [List.mem_singleton];exact q.symm)
    ·exact List.mem_append_left _ ((h2 x).2 ⟨j,by omega,q⟩)
theorem ZT8 (l:List Int):(Lib.compact (srtI l)).Pairwise (· < ·)∧∀ x,x∈Lib.compact (srtI l)↔x∈l:=by
 have hp:(srtI l).Pairwise (·≤·):=by
  have:=List.pairwise_mergeSort (le:=fun x y:Int=>decide (x≤y)) (fun a b c h1 h2=>by simp at *;omega) (fun a b=>by simp;omega) l
  exact this.imp fun h=>by simpa using h
 have hs:∀ i j,i≤j→j<(srtI l).toArray.size→(srtI l).toArray[i]!≤(srtI l).toArray[j]!:=fun i j hij hj=>by
  have hj':j<(srtI l).length:=by simpa using hj
  have hi':i<(srtI l).length:=by omega
  rw [getElem!_pos _ _ (by simpa using hi'),getElem!_pos _ _ (by simpa using hj')]
  rcases Nat.lt_or_eq_of_le hij with k | rfl
  ·simpa using (List.pairwise_iff_getElem.1 hp) i j hi' hj' k
  ·exact Int.le_refl _
 obtain ⟨h1,h2⟩:=ZQe (srtI l).toArray hs (srtI l).length (by simp)
 refine ⟨h1,fun x=>?_⟩
 have h3:x∈Lib.compact (srtI l)↔∃ j,j<(srtI l).length∧(srtI l).toArray[j]! = x:=h2 x
 rw [h3]
 have hm:x∈srtI l↔x∈l:=List.mem_mergeSort
 rw [← hm,List.mem_iff_getElem]
 constructor
 ·rintro ⟨j,k1,k2⟩
  refine ⟨j,k1,?_⟩
  rw [getElem!_pos _ _ (by simpa using k1)] at k2
  simpa using k2
 ·rintro ⟨j,k1,k2⟩
  refine ⟨j,k1,?_⟩
  rw [getElem!_pos _ _ (by simpa using k1)]
  simpa using k2
def Zvh (a0:Int):Option Bool:=bif decide (a0≥-2147483648) then some (decide (a0≤2147483647)) else some false
def Zj (x:Int×Unit):Option Bool:=Zvh x.1
abbrev Ws:=((List Int)×Int×Int)
abbrev J6:=((List Int)×Int×Int)
def Za9 (s0:List Int) (s1 s5:Int):Option (((List Int)×Int×Int)⊕((List Int)×Int×Int)):=bif decide (s5<(s0.length:Int)) then bif decide (0≤s5) then Za s0[s5.toNat]? none fun d5=>bif decide (d5<s1) then some (.inl (s0,s1,IntKind.i64.wrap (s5+1))) else some (.inr (s0,s1,s5)) else none else some (.inr (s0,s1,s5))
def ZpO:Ws→Option (Ws⊕J6):=fun (a,b,c)=>Za9 a b c
def Zf0 (x:Ws):Option J6:=Zn ZpO Zr x
def Zcp (a0:List Int) (a1:Int):Option (List Int):=Za (Zj (a1,())) none fun d4=>bif !d4 then some a0 else Za (Zf0 (a0,a1,0)) none fun d5=>bif decide (d5.2.2<(d5.1.length:Int)) then bif decide (0≤d5.2.2) then Za d5.1[d5.2.2.toNat]? none fun d6=>bif d6==d5.2.1 then some d5.1 else bif decide ((0:Int)≤0∧0≤d5.2.2∧d5.2.2≤(d5.1.length:Int)) then bif decide (((List.length (α:=I) [])+(List.drop (Int.toNat (0:Int)) (List.take d5.2.2.toNat d5.1)).length+1)*8≤lim) then bif decide ((([]++List.drop (Int.toNat (0:Int)) (List.take d5.2.2.toNat d5.1)).length+[d5.2.1].length+1)*8≤lim) then bif decide (0≤d5.2.2∧d5.2.2≤(d5.1.length:Int)∧(d5.1.length:Int)≤(d5.1.length:Int)) then bif decide ((([]++List.drop (Int.toNat (0:Int)) (List.take d5.2.2.toNat d5.1)++[d5.2.1]).length+(List.drop d5.2.2.toNat (List.take (d5.1.length:Int).toNat d5.1)).length+1)*8≤lim) then some ([]++List.drop (Int.toNat (0:Int)) (List.take d5.2.2.toNat d5.1)++[d5.2.1]++List.drop d5.2.2.toNat (List.take (d5.1.length:Int).toNat d5.1)) else none else none else none else none else none else none else bif decide ((0:Int)≤0∧0≤d5.2.2∧d5.2.2≤(d5.1.length:Int)) then bif decide (((List.length (α:=I) [])+(List.drop (Int.toNat (0:Int)) (List.take d5.2.2.toNat d5.1)).length+1)*8≤lim) then bif decide ((([]++List.drop (Int.toNat (0:Int)) (List.take d5.2.2.toNat d5.1)).length+[d5.2.1].length+1)*8≤lim) then bif decide (0≤d5.2.2∧d5.2.2≤(d5.1.length:Int)∧(d5.1.length:Int)≤(d5.1.length:Int)) then bif decide ((([]++List.drop (Int.toNat (0:Int)) (List.take d5.2.2.toNat d5.1)++[d5.2.1]).length +
 (List.drop d5.2.2.toNat (List.take (d5.1.length:Int).toNat d5.1)).length+1)*8≤lim) then some ([]++List.drop (Int.toNat (0:Int)) (List.take d5.2.2.toNat d5.1)++[d5.2.1]++List.drop d5.2.2.toNat (List.take (d5.1.length:Int).toNat d5.1)) else none else none else none else none else none
def J9 (x:(List Int)×(Int×Unit)):Option (List Int):=Zcp x.1 x.2.1
def Kx (s1:Int) (s0:List Int) (i:Nat)  (d:Int):Option (Unit⊕J6):=
 bif decide (d<s1) then
  some (.inl ())
 else some (.inr (s0,s1,(i:Int)))
def Zjo (s1:Int) (s0:List Int):Option J6:=
 some (s0,s1,(s0.length:Int))
abbrev ZDI (s1:Int) (s0:List Int) (i:Nat) (s:Unit):Ws:=(s0,s1,(i:Int))
def ZjM (s1:Int) (s0:List Int) (s:Unit):Option J6:=Zq (fun i s d=>Kx s1 s0 i  d) (fun s=>Zjo s1 s0 ) 0 s0 s
theorem ZDC (s1:Int) (s0:List Int) (s:Unit) (hl:s0.length<9223372036854775807):Zf0 (s0,s1,0)=ZjM s1 s0 s:=by
 unfold Zf0 ZjM
 refine Zs s0 (ZDI s1 s0) _ _ ?_ ?_ s (by unfold Zr;omega)
 ·intro i s d hi hd
  have e1:decide ((i:Int)<(s0.length:Int))=true:=dT0 (by omega)
  have e2:decide (0≤(i:Int))=true:=dT0 (by omega)
  have e3:Int.toNat (i:Int)=i:=tN0 i
  have e4:=Zu hi (Nat.le_of_lt hl)
  show Za9 (s0) (s1) ((i:Int))=upd _ (Kx s1 s0 i  d)
  unfold Za9 Kx
  simp only [e1,e2,e3,e4,hd,cond_true,cond_false,Zc,ZD,ZG,ZE,ZK,ZL,ZF]
 ·intro s
  have e1:decide ((s0.length:Int)<(s0.length:Int))=false:=dF0 (by omega)
  show Za9 (s0) (s1) ((s0.length:Int))=_
  unfold Za9 Zjo
  rw [e1]
  rfl
def ZCk:List Sh:=[]
def ZF0:List Con:=[]
def ZHF:Option I:=some (1,0)
theorem ZN8:evGX (cxU ZF0 [] 40 1048576) keeps 8 110 ZCk (.dat tI) (():Unit)=ZHF:=by kernel_rfl
def ZRf (x:Unit):Option I:=ZHF
def Kz:=conP true ZCk (.dat tI) ZRf
theorem YS:Zg Tryz.prog 110 Kz:=Ze (calU ZF0 [] 40 1048576 8 110) true (by rfl) (by rfl) (fun x r e=>(Zk _ _ _ _ _ _ _).trans ((ZN8 ).trans e)) (.inl rfl)
def ZLn:List Sh:=[.dat (.sl (.int .i64))]
def Zo9:Nat→List Nat:=fun c=>bif c.beq 0 then [3,6,7,8] else [3]
def ZDT:List Con:=[]
def ZdF:StS:=⟨[(3,.int .i64),(6,.sl (.int .i64)),(7,.int .i64),(8,.int .i64)],[],0⟩
def HV:StS:=⟨[(3,.int .i64)],[],0⟩
abbrev Ys:=(Int×(List Int)×Int×Int)
def Zx6:StD ZdF→Ys:=fun ((a,b,c,d,_),_)=>(a,b,c,d)
def ZzO:Ys→StD ZdF:=fun (a,b,c,d)=>((a,b,c,d,()),())
abbrev Q2:=Int
def ZuD (d:StD HV):Q2:=(d.1.1)
def Zfy (x:Q2):StD HV:=((x,()),())
def VJ (s3:Int) (s6:List Int) (s7 s8:Int):Option ((Int×(List Int)×Int×Int)⊕Int):=bif decide (s8<s7) then bif decide (0≤s8) then Za s6[s8.toNat]? none fun d6=>bif decide (d6≥0) then bif decide (d6<31) then bif decide (d6<0) then none else some (.inl (IntKind.i64.wrap (↑(BitVec.ofInt IntKind.i64.bits s3 ||| BitVec.ofInt IntKind.i64.bits (IntKind.i64.wrap (1*2 ^ Min.min (Int.toNat d6) IntKind.i64.bits))).toNat:Int),s6,s7,IntKind.i64.wrap (s8+1))) else some (.inl (s3,s6,s7,IntKind.i64.wrap (s8+1))) else some (.inl (s3,s6,s7,IntKind.i64.wrap (s8+1))) else none else some (.inr s3)
def ZmS:Ys→Option (Ys⊕Q2):=fun (a,b,c,d)=>VJ a b c d
def WI (x:Ys):Option Q2:=Zn ZmS Zr x
def ZqH:Nat→Tm→Prog (Nat×Tm):=(varP 0 (fun T h=>(rdS ZdF T h).map Zx6) WI (altE 2 HV Zfy) (fun _ _=>.fail))
def ZC8:Lpc:=⟨200,0,24,(fun base T=>.norm base (Zo9 0) T (ZqH base)),by kernel_rfl,by kernel_rfl,(loopU ZDT [] 40 1048576 8 (keep:=Zo9) (q:=ZqH) (by kernel_rfl) (ZA (s:=ZdF) (un:=ZzO) (by rfl) (fun _=>rfl) (Zp (s:=HV) (un:=Zfy) (flat:=ZuD) (by rfl) (fun _=>rfl)) (step:=ZmS) (fun _=>by kernel_rfl) (fun _ _ e=>⟨_,e⟩) (Zo 2 HV Zfy) (ZI.fail _ _)))⟩
def Zvb (a0:List Int):Option Int:=Za (WI (0,a0,(a0.length:Int),0)) none fun d3=>some d3
def ZcL (x:(List Int)×Unit):Option Int:=Zvb x.1
def ZkO:=conP true ZLn (.dat (.int .i64)) ZcL
theorem Zqe:Zg Tryz.prog 200 ZkO:=Ze (calU ZDT [ZC8] 40 1048576 8 200) true (by rfl) (by rfl) (fun x r e=>(Zk _ _ _ _ _ _ _).trans ((show _=ZcL x by kernel_rfl).trans e)) (.inl rfl)
def ZMD:List Sh:=[.dat (.int .i64),.dat (.int .i64)]
def ZPK:List Con:=[⟨200,ZkO,Zqe⟩]
def Zyx (a0 a1:Int):Option Bool:=Za (ZcL ([a1],())) none fun d3=>some (IntKind.i64.wrap (↑(BitVec.ofInt IntKind.i64.bits a0 &&& BitVec.ofInt IntKind.i64.bits d3).toNat:Int) !=0)
def ZY (x:Int×(Int×Unit)):Option Bool:=Zyx x.1 x.2.1
def Zl0:=conP true ZMD (.dat .bool) ZY
theorem ZsS:Zg Tryz.prog 175 Zl0:=Ze (calU ZPK [] 40 1048576 8 175) true (by rfl) (by rfl) (fun x r e=>(Zk _ _ _ _ _ _ _).trans ((show _=ZY x by kernel_rfl).trans e)) (.inl rfl)
def ZLk:List Sh:=[.dat (.int .i64)]
def Zjw:Nat→List Nat:=fun c=>bif c.beq 0 then [0,3,5] else [3]
def ZDR:List Con:=[⟨175,Zl0,ZsS⟩]
def ZdD:StS:=⟨[(0,.int .i64),(3,.row 0),(5,.int .i64)],[(0,.row (.int .i64))],1⟩
def HT:StS:=⟨[(3,.row 0)],[(0,.row (.int .i64))],1⟩
abbrev WQ:=(Int×Int×(List Int))
def Zx4:StD ZdD→WQ:=fun ((a,_,b,_),(c,_))=>(a,b,c)
def ZzM:WQ→StD ZdD:=fun (a,b,c)=>((a,(),b,()),(c,()))
abbrev Zbq:=(List Int)
def ZuB (d:StD HT):Zbq:=(d.2.1)
def Zfw (x:Zbq):StD HT:=(((),()),(x,()))
def ZhS (s0 s5:Int) (b0:List Int):Option ((Int×Int×(List Int))⊕(List Int)):=bif decide (s5<31) then Za (ZY (s0,s5,())) none fun d5=>bif d5 then bif decide ((b0.length+[s5].length+1)*8≤lim) then some (.inl (s0,IntKind.i64.wrap (s5+1),b0++[s5])) else none else some (.inl (s0,IntKind.i64.wrap (s5+1),b0)) else some (.inr b0)
def K8:WQ→Option (WQ⊕Zbq):=fun (a,b,c)=>ZhS a b c
def Zin (x:WQ):Option Zbq:=Zn K8 Zr x
def ZqF:Nat→Tm→Prog (Nat×Tm):=(varP 0 (fun T h=>(rdS ZdD T h).map Zx4) Zin (altE 2 HT Zfw) (fun _ _=>.fail))
def ZC6:Lpc:=⟨212,0,17,(ownP [] [(3,(.int .i64))] (Zjw 0) (fun base T=>.norm base (Zjw 0) T (ZqF base))),by kernel_rfl,by kernel_rfl,(HB (loopU ZDR [] 40 1048576 8 (keep:=Zjw) (q:=ZqF) (by kernel_rfl) (ZA (s:=ZdD) (un:=ZzM) (by rfl) (fun _=>rfl) (Zp (s:=HT) (un:=Zfw) (flat:=ZuB) (by rfl) (fun _=>rfl)) (step:=K8) (fun _=>by kernel_rfl) (fun _ _ e=>⟨_,e⟩) (Zo 2 HT Zfw) (ZI.fail _ _))))⟩
def ZFB (a0:Int):Option (List Int):=Za (Zin (a0,0,[])) none fun d3=>some d3
def Zoy (x:Int×Unit):Option (List Int):=ZFB x.1
def ZAi:=conP true ZLk (.dat (.sl (.int .i64))) Zoy
theorem ZLT:Zg Tryz.prog 212 ZAi:=Ze (calU ZDR [ZC6] 40 1048576 8 212) true (by rfl) (by rfl) (fun x r e=>(Zk _ _ _ _ _ _ _).trans ((show _=Zoy x by kernel_rfl).trans e)) (.inl rfl)
def ZIO:List Sh:=[.dat (.int .i64),.dat (.int .i64)]
def ZL4:List Con:=[⟨212,ZAi,ZLT⟩]
def Zr7 (a0 a1:Int):Option Bool:=Za (Zoy (IntKind.i64.wrap (↑(BitVec.ofInt IntKind.i64.bits a0 &&& BitVec.ofInt IntKind.i64.bits a1).toNat:Int),())) none fun d3=>some ((List.length d3:Int)==0)
def ZaQ (x:Int×(Int×Unit)):Option Bool:=Zr7 x.1 x.2.1
def ZnV:=conP true ZIO (.dat .bool) ZaQ
theorem Zxk:Zg Tryz.prog 209 ZnV:=Ze (calU ZL4 [] 40 1048576 8 209) true (by rfl) (by rfl) (fun x r e=>(Zk _ _ _ _ _ _ _).trans ((show _=ZaQ x by kernel_rfl).trans e)) (.inl rfl)
def ZLo:List Sh:=[.dat tI]
def ZOH:List Con:=[]
def ZPk (a0:I):Option Bool:=some (decide (a0.1>a0.2))
def ZFo (x:I×Unit):Option Bool:=ZPk x.1
def JR:=conP true ZLo (.dat .bool) ZFo
theorem KL:Zg Tryz.prog 153 JR:=Ze (calU ZOH [] 40 1048576 8 153) true (by rfl) (by rfl) (fun x r e=>(Zk _ _ _ _ _ _ _).trans ((show _=ZFo x by kernel_rfl).trans e)) (.inl rfl)
def ZME:List Sh:=[.dat (.sl tI)]
def Zqt:Nat→List Nat:=fun c=>bif c.beq 0 then [2,3,7,8,9] else [2,3]
def ZFZ:List Con:=[⟨110,Kz,YS⟩,⟨153,JR,KL⟩]
def Ze4:StS:=⟨[(2,.ptr 0 0),(3,.ptr 1 0),(7,.sl tI),(8,.int .i64),(9,.int .i64)],[(0,.box [.int .i64,.int .i64]),(1,.box [.int .i64,.int .i64])],2⟩
def Wb:StS:=⟨[(2,.ptr 0 0),(3,.ptr 1 0)],[(0,.box [.int .i64,.int .i64]),(1,.box [.int .i64,.int .i64])],2⟩
abbrev Hs:=((List I)×Int×Int×Int×Int×Int×Int)
def ZA4:StD Ze4→Hs:=fun ((_,_,a,b,c,_),((d,e,_),(f,g,_),_))=>(a,b,c,d,e,f,g)
def ZB6:Hs→StD Ze4:=fun (a,b,c,d,e,f,g)=>(((),(),a,b,c,()),((d,e,()),(f,g,()),()))
abbrev JC:=(Int×Int×Int×Int)
def Zwb:StD Wb→JC:=fun ((_,_,_),((a,b,_),(c,d,_),_))=>(a,b,c,d)
def ZgN:JC→StD Wb:=fun (a,b,c,d)=>(((),(),()),((a,b,()),(c,d,()),()))
def W6 (s7:List I) (s8 s9 b0 b0_1 b1 b1_1:Int):Option (((List I)×Int×Int×Int×Int×Int×Int)⊕(Int×Int×Int×Int)):=bif decide (s9<s8) then bif decide (0≤s9) then Za s7[s9.toNat]? none fun d9=>bif decide (d9.1>d9.2) then some (.inl (s7,s8,IntKind.i64.wrap (s9+1),b0,b0_1,b1,b1_1)) else bif decide (b1>b1_1) then some (.inl (s7,s8,IntKind.i64.wrap (s9+1),b0,b0_1,d9.1,d9.2)) else some (.inl (s7,s8,IntKind.i64.wrap (s9+1),b0,b0_1,if d9.1<b1 then d9.1 else b1,if d9.2>b1_1 then d9.2 else b1_1)) else none else some (.inr (b0,b0_1,b1,b1_1))
def ZnH:Hs→Option (Hs⊕JC):=fun (a,b,c,d,e,f,g)=>W6 a b c d e f g
def ZaT (x:Hs):Option JC:=Zn ZnH Zr x
def ZsB:Nat→Tm→Prog (Nat×Tm):=(varP 0 (fun T h=>(rdS Ze4 T h).map ZA4) ZaT (altE 2 Wb ZgN) (fun _ _=>.fail))
def ZEP:Lpc:=⟨111,0,33,(fun base T=>.norm base (Zqt 0) T (ZsB base)),by kernel_rfl,by kernel_rfl,(loopU ZFZ [] 40 1048576 8 (keep:=Zqt) (q:=ZsB) (by kernel_rfl) (ZA (s:=Ze4) (un:=ZB6) (by rfl) (fun _=>rfl) (Zp (s:=Wb) (un:=ZgN) (flat:=Zwb) (by rfl) (fun _=>rfl)) (step:=ZnH) (fun _=>by kernel_rfl) (fun _ _ e=>⟨_,e⟩) (Zo 2 Wb ZgN) (ZI.fail _ _)))⟩
def Zrl (a0:List I):Option I:=Za (ZaT (a0,(a0.length:Int),0,0,0,1,0)) none fun d3=>some (d3.2.2.1,d3.2.2.2)
def ZM (x:(List I)×Unit):Option I:=Zrl x.1
def YQ:=conP true ZME (.dat tI) ZM
theorem VH:Zg Tryz.prog 111 YQ:=Ze (calU ZFZ [ZEP] 40 1048576 8 111) true (by rfl) (by rfl) (fun x r e=>(Zk _ _ _ _ _ _ _).trans ((show _=ZM x by kernel_rfl).trans e)) (.inl rfl)
def ZMX:List Sh:=[.dat (.sl tEn),.dat (.int .i64),.dat .bool,.dat (.int .i64),.dat (.int .i64)]
def Zqz:Nat→List Nat:=fun c=>bif c.beq 0 then [1,2,3,4,5,12,13,17,18,19] else [12,13]
def ZF5:List Con:=[⟨110,Kz,YS⟩,⟨209,ZnV,Zxk⟩,⟨111,YQ,VH⟩]
def Zfc:StS:=⟨[(1,.int .i64),(2,.bool),(3,.int .i64),(4,.int .i64),(5,.clo 199 [] []),(12,.ptr 1 0),(13,.ptr 2 0),(17,.sl tEn),(18,.int .i64),(19,.int .i64)],[(0,.box [.int .i64,.int .i64]),(1,.box [.int .i64,.int .i64]),(2,.box [.int .i64,.int .i64])],3⟩
def Wl:StS:=⟨[(12,.ptr 1 0),(13,.ptr 2 0)],[(0,.box [.int .i64,.int .i64]),(1,.box [.int .i64,.int .i64]),(2,.box [.int .i64,.int .i64])],3⟩
abbrev Hy:=(Int×Bool×Int×Int×(List En)×Int×Int×Int×Int×Int×Int×Int×Int)
def ZBl:StD Zfc→Hy:=fun ((a,b,c,d,(_,_),_,_,e,f,g,_),((h,i,_),(j,k,_),(l,m,_),_))=>(a,b,c,d,e,f,g,h,i,j,k,l,m)
def ZCe:Hy→StD Zfc:=fun (a,b,c,d,e,f,g,h,i,j,k,l,m)=>((a,b,c,d,((),()),(),(),e,f,g,()),((h,i,()),(j,k,()),(l,m,()),()))
abbrev JL:=(Int×Int×Int×Int×Int×Int)
def Zwu:StD Wl→JL:=fun ((_,_,_),((a,b,_),(c,d,_),(e,f,_),_))=>(a,b,c,d,e,f)
def ZgX:JL→StD Wl:=fun (a,b,c,d,e,f)=>(((),(),()),((a,b,()),(c,d,()),(e,f,()),()))
def Zac (s1:Int) (s2:Bool) (s3 s4:Int) (s17:List En) (s18 s19 b0 b0_1 b1 b1_1 b2 b2_1:Int):Option ((Int×Bool×Int×Int×(List En)×Int×Int×Int×Int×Int×Int×Int×Int)⊕(Int×Int×Int×Int×Int×Int)):=bif decide (s19<s18) then bif decide (0≤s19) then Za s17[s19.toNat]? none fun d15=>bif d15.1 !=s1 then bif d15.2.1==s2 then bif d15.2.2.1==s3 then Za (ZaQ (d15.2.2.2.1,s4,())) none fun d16=>bif d16 then Za (ZM ([(b2,b2_1),d15.2.2.2.2],())) none fun d17=>some (.inl (s1,s2,s3,s4,s17,s18,IntKind.i64.wrap (s19+1),b0,b0_1,b1,b1_1,d17.1,d17.2)) else some (.inl (s1,s2,s3,s4,s17,s18,IntKind.i64.wrap (s19+1),b0,b0_1,b1,b1_1,b2,b2_1)) else some (.inl (s1,s2,s3,s4,s17,s18,IntKind.i64.wrap (s19+1),b0,b0_1,b1,b1_1,b2,b2_1)) else some (.inl (s1,s2,s3,s4,s17,s18,IntKind.i64.wrap (s19+1),b0,b0_1,b1,b1_1,b2,b2_1)) else some (.inl (s1,s2,s3,s4,s17,s18,IntKind.i64.wrap (s19+1),b0,b0_1,b1,b1_1,b2,b2_1)) else none else some (.inr (b0,b0_1,b1,b1_1,b2,b2_1))
def ZnN:Hy→Option (Hy⊕JL):=fun (a,b,c,d,e,f,g,h,i,j,k,l,m)=>Zac a b c d e f g h i j k l m
def ZaX (x:Hy):Option JL:=Zn ZnN Zr x
def ZsJ:Nat→Tm→Prog (Nat×Tm):=(varP 1 (fun T h=>(rdS Zfc T h).map ZBl) ZaX (altE 2 Wl ZgX) (fun _ _=>.fail))
def ZEU:Lpc:=⟨198,0,57,(fun base T=>.norm base (Zqz 0) T (ZsJ base)),by kernel_rfl,by kernel_rfl,(loopU ZF5 [] 40 1048576 8 (keep:=Zqz) (q:=ZsJ) (by kernel_rfl) (ZA (s:=Zfc) (un:=ZCe) (by rfl) (fun _=>rfl) (Zp (s:=Wl) (un:=ZgX) (flat:=Zwu) (by rfl) (fun _=>rfl)) (step:=ZnN) (fun _=>by kernel_rfl) (fun _ _ e=>⟨_,e⟩) (Zo 2 Wl ZgX) (ZI.fail _ _)))⟩
def ZyI (a0:List En) (a1:Int) (a2:Bool) (a3 a4:Int):Option I:=Za (ZaX (a1,a2,a3,a4,a0,(a0.length:Int),0,0,0,0,0,1,0)) none fun d7=>some (d7.2.2.2.2.1,d7.2.2.2.2.2)
def ZlW (x:((List En)×(Int×(Bool×(Int×(Int×Unit)))))):Option I:=ZyI x.1 x.2.1 x.2.2.1 x.2.2.2.1 x.2.2.2.2.1
def ZCB:=conP false ZMX (.dat tI) ZlW
theorem ZOA:Zg Tryz.prog 171 ZCB:=Ze (calU ZF5 [ZEU] 40 1048576 8 171) false (by rfl) (by rfl) (fun x r e=>(Zk _ _ _ _ _ _ _).trans ((show _=ZlW x by kernel_rfl).trans e)) (.inr fun _=>rfl)
def YJ (s1:Int) (s2:Bool) (s3 s4 b0 b0_1 b1 b1_1:Int) (s17:List En) (i:Nat) (b2 b2_1:Int) (d:En):Option ((Int×Int)⊕JL):=
 bif d.1 !=s1 then
  bif d.2.1==s2 then
  bif d.2.2.1==s3 then
  Za (ZaQ (d.2.2.2.1,s4,())) (none) fun d16=>
  bif d16 then
  Za (ZM ([(b2,b2_1),d.2.2.2.2],())) (none) fun d17=>
  some (.inl (d17.1,d17.2))
 else some (.inl (b2,b2_1))
 else some (.inl (b2,b2_1))
 else some (.inl (b2,b2_1))
 else some (.inl (b2,b2_1))
def Ziv (s1:Int) (s2:Bool) (s3 s4 b0 b0_1 b1 b1_1:Int) (s17:List En) (b2 b2_1:Int):Option JL:=
 some (b0,b0_1,b1,b1_1,b2,b2_1)
abbrev ZBU (s1:Int) (s2:Bool) (s3 s4 b0 b0_1 b1 b1_1:Int) (s17:List En) (i:Nat) (s:Int×Int):Hy:=(s1,s2,s3,s4,s17,(s17.length:Int),(i:Int),b0,b0_1,b1,b1_1,s.1,s.2)
def ZiK (s1:Int) (s2:Bool) (s3 s4 b0 b0_1 b1 b1_1:Int) (s17:List En) (s:Int×Int):Option JL:=Zq (fun i s d=>YJ s1 s2 s3 s4 b0 b0_1 b1 b1_1 s17 i s.1 s.2 d) (fun s=>Ziv s1 s2 s3 s4 b0 b0_1 b1 b1_1 s17 s.1 s.2) 0 s17 s
theorem ZBI (s1:Int) (s2:Bool) (s3 s4 b0 b0_1 b1 b1_1:Int) (s17:List En) (s:Int×Int) (hl:s17.length<9223372036854775807):ZaX (s1,s2,s3,s4,s17,(s17.length:Int),0,b0,b0_1,b1,b1_1,s.1,s.2)=ZiK s1 s2 s3 s4 b0 b0_1 b1 b1_1 s17 s:=by
 unfold ZaX ZiK
 refine Zs s17 (ZBU s1 s2 s3 s4 b0 b0_1 b1 b1_1 s17) _ _ ?_ ?_ s (by unfold Zr;omega)
 ·intro i s d hi hd
  have e1:decide ((i:Int)<(s17.length:Int))=true:=dT0 (by omega)
  have e2:decide (0≤(i:Int))=true:=dT0 (by omega)
  have e3:Int.toNat (i:Int)=i:=tN0 i
  have e4:=Zu hi (Nat.le_of_lt hl)
  show Zac (s1) (s2) (s3) (s4) (s17) ((s17.length:Int)) ((i:Int)) (b0) (b0_1) (b1) (b1_1) (s.1) (s.2)=upd _ (YJ s1 s2 s3 s4 b0 b0_1 b1 b1_1 s17 i s.1 s.2 d)
  unfold Zac YJ
  simp only [e1,e2,e3,e4,hd,cond_true,cond_false,Zc,ZD,ZG,ZE,ZK,ZL,ZF]
 ·intro s
  have e1:decide ((s17.length:Int)<(s17.length:Int))=false:=dF0 (by omega)
  show Zac (s1) (s2) (s3) (s4) (s17) ((s17.length:Int)) ((s17.length:Int)) (b0) (b0_1) (b1) (b1_1) (s.1) (s.2)=_
  unfold Zac Ziv
  rw [e1]
  rfl
def ZI7:List Sh:=[.dat (.sl tEn),.dat (.int .i64),.dat .bool,.dat (.int .i64),.dat (.int .i64),.dat (.int .i64)]
def Znw:Nat→List Nat:=fun c=>bif c.beq 0 then [1,2,3,4,5,12,13,17,18,19] else [12,13]
def ZAM:List Con:=[⟨110,Kz,YS⟩,⟨209,ZnV,Zxk⟩,⟨111,YQ,VH⟩,⟨175,Zl0,ZsS⟩]
def ZcE:StS:=⟨[(1,.int .i64),(2,.bool),(3,.int .i64),(4,.int .i64),(5,.clo 210 [] [.ptr 0 0]),(12,.ptr 2 0),(13,.ptr 3 0),(17,.sl tEn),(18,.int .i64),(19,.int .i64)],[(1,.box [.int .i64,.int .i64]),(0,.box [.int .i64]),(2,.box [.int .i64,.int .i64]),(3,.box [.int .i64,.int .i64])],4⟩
def Hb:StS:=⟨[(12,.ptr 2 0),(13,.ptr 3 0)],[(1,.box [.int .i64,.int .i64]),(0,.box [.int .i64]),(2,.box [.int .i64,.int .i64]),(3,.box [.int .i64,.int .i64])],4⟩
abbrev K0:=(Int×Bool×Int×Int×(List En)×Int×Int×Int×Int×Int×Int×Int×Int×Int)
def Zwt:StD ZcE→K0:=fun ((a,b,c,d,(_,(_,_)),_,_,e,f,g,_),((h,i,_),(j,_),(k,l,_),(m,n,_),_))=>(a,b,c,d,e,f,g,h,i,j,k,l,m,n)
def ZxP:K0→StD ZcE:=fun (a,b,c,d,e,f,g,h,i,j,k,l,m,n)=>((a,b,c,d,((),((),())),(),(),e,f,g,()),((h,i,()),(j,()),(k,l,()),(m,n,()),()))
abbrev QO:=(Int×Int×Int×Int×Int×Int×Int)
def Ztr:StD Hb→QO:=fun ((_,_,_),((a,b,_),(c,_),(d,e,_),(f,g,_),_))=>(a,b,c,d,e,f,g)
def Zem:QO→StD Hb:=fun (a,b,c,d,e,f,g)=>(((),(),()),((a,b,()),(c,()),(d,e,()),(f,g,()),()))
def HN (s1:Int) (s2:Bool) (s3 s4:Int) (s17:List En) (s18 s19 b1 b1_1 b0 b2 b2_1 b3 b3_1:Int):Option ((Int×Bool×Int×Int×(List En)×Int×Int×Int×Int×Int×Int×Int×Int×Int)⊕(Int×Int×Int×Int×Int×Int×Int)):=bif decide (s19<s18) then bif decide (0≤s19) then Za s17[s19.toNat]? none fun d16=>bif d16.1 !=s1 then bif d16.2.1==s2 then bif d16.2.2.1==s3 then Za (ZaQ (d16.2.2.2.1,s4,())) none fun d17=>bif d17 then Za (ZY (d16.2.2.2.1,b0,())) none fun d18=>bif d18 then Za (ZM ([(b3,b3_1),d16.2.2.2.2],())) none fun d19=>some (.inl (s1,s2,s3,s4,s17,s18,IntKind.i64.wrap (s19+1),b1,b1_1,b0,b2,b2_1,d19.1,d19.2)) else some (.inl (s1,s2,s3,s4,s17,s18,IntKind.i64.wrap (s19+1),b1,b1_1,b0,b2,b2_1,b3,b3_1)) else some (.inl (s1,s2,s3,s4,s17,s18,IntKind.i64.wrap (s19+1),b1,b1_1,b0,b2,b2_1,b3,b3_1)) else some (.inl (s1,s2,s3,s4,s17,s18,IntKind.i64.wrap (s19+1),b1,b1_1,b0,b2,b2_1,b3,b3_1)) else some (.inl (s1,s2,s3,s4,s17,s18,IntKind.i64.wrap (s19+1),b1,b1_1,b0,b2,b2_1,b3,b3_1)) else some (.inl (s1,s2,s3,s4,s17,s18,IntKind.i64.wrap (s19+1),b1,b1_1,b0,b2,b2_1,b3,b3_1)) else none else some (.inr (b1,b1_1,b0,b2,b2_1,b3,b3_1))
def ZlG:K0→Option (K0⊕QO):=fun (a,b,c,d,e,f,g,h,i,j,k,l,m,n)=>HN a b c d e f g h i j k l m n
def Vu (x:K0):Option QO:=Zn ZlG Zr x
def ZpF:Nat→Tm→Prog (Nat×Tm):=(varP 2 (fun T h=>(rdS ZcE T h).map Zwt) Vu (altE 2 Hb Zem) (fun _ _=>.fail))
def ZBy:Lpc:=⟨198,0,57,(fun base T=>.norm base (Znw 0) T (ZpF base)),by kernel_rfl,by kernel_rfl,(loopU ZAM [] 40 1048576 8 (keep:=Znw) (q:=ZpF) (by kernel_rfl) (ZA (s:=ZcE) (un:=ZxP) (by rfl) (fun _=>rfl) (Zp (s:=Hb) (un:=Zem) (flat:=Ztr) (by rfl) (fun _=>rfl)) (step:=ZlG) (fun _=>by kernel_rfl) (fun _ _ e=>⟨_,e⟩) (Zo 2 Hb Zem) (ZI.fail _ _)))⟩
def Zsg (a0:List En) (a1:Int) (a2:Bool) (a3 a4 a5:Int):Option I:=Za (Vu (a1,a2,a3,a4,a0,(a0.length:Int),0,0,0,a5,0,0,1,0)) none fun d8=>some (d8.2.2.2.2.2.1,d8.2.2.2.2.2.2)
def ZlV (x:((List En)×(Int×(Bool×(Int×(Int×(Int×Unit))))))):Option I:=Zsg x.1 x.2.1 x.2.2.1 x.2.2.2.1 x.2.2.2.2.1 x.2.2.2.2.2.1
def ZvY:=conP false ZI7 (.dat tI) ZlV
theorem ZJ2:Zg Tryz.prog 201 ZvY:=Ze (calU ZAM [ZBy] 40 1048576 8 201) false (by rfl) (by rfl) (fun x r e=>(Zk _ _ _ _ _ _ _).trans ((show _=ZlV x by kernel_rfl).trans e)) (.inr fun _=>rfl)
def Kj (s1:Int) (s2:Bool) (s3 s4 b1 b1_1 b0 b2 b2_1:Int) (s17:List En) (i:Nat) (b3 b3_1:Int) (d:En):Option ((Int×Int)⊕QO):=
 bif d.1 !=s1 then
  bif d.2.1==s2 then
  bif d.2.2.1==s3 then
  Za (ZaQ (d.2.2.2.1,s4,())) (none) fun d17=>
  bif d17 then
  Za (ZY (d.2.2.2.1,b0,())) (none) fun d18=>
  bif d18 then
  Za (ZM ([(b3,b3_1),d.2.2.2.2],())) (none) fun d19=>
  some (.inl (d19.1,d19.2))
 else some (.inl (b3,b3_1))
 else some (.inl (b3,b3_1))
 else some (.inl (b3,b3_1))
 else some (.inl (b3,b3_1))
 else some (.inl (b3,b3_1))
def Zgq (s1:Int) (s2:Bool) (s3 s4 b1 b1_1 b0 b2 b2_1:Int) (s17:List En) (b3 b3_1:Int):Option QO:=
 some (b1,b1_1,b0,b2,b2_1,b3,b3_1)
abbrev Zxf (s1:Int) (s2:Bool) (s3 s4 b1 b1_1 b0 b2 b2_1:Int) (s17:List En) (i:Nat) (s:Int×Int):K0:=(s1,s2,s3,s4,s17,(s17.length:Int),(i:Int),b1,b1_1,b0,b2,b2_1,s.1,s.2)
def ZgD (s1:Int) (s2:Bool) (s3 s4 b1 b1_1 b0 b2 b2_1:Int) (s17:List En) (s:Int×Int):Option QO:=Zq (fun i s d=>Kj s1 s2 s3 s4 b1 b1_1 b0 b2 b2_1 s17 i s.1 s.2 d) (fun s=>Zgq s1 s2 s3 s4 b1 b1_1 b0 b2 b2_1 s17 s.1 s.2) 0 s17 s
theorem Zw3 (s1:Int) (s2:Bool) (s3 s4 b1 b1_1 b0 b2 b2_1:Int) (s17:List En) (s:Int×Int) (hl:s17.length<9223372036854775807):Vu (s1,s2,s3,s4,s17,(s17.length:Int),0,b1,b1_1,b0,b2,b2_1,s.1,s.2)=ZgD s1 s2 s3 s4 b1 b1_1 b0 b2 b2_1 s17 s:=by
 unfold Vu ZgD
 refine Zs s17 (Zxf s1 s2 s3 s4 b1 b1_1 b0 b2 b2_1 s17) _ _ ?_ ?_ s (by unfold Zr;omega)
 ·intro i s d hi hd
  have e1:decide ((i:Int)<(s17.length:Int))=true:=dT0 (by omega)
  have e2:decide (0≤(i:Int))=true:=dT0 (by omega)
  have e3:Int.toNat (i:Int)=i:=tN0 i
  have e4:=Zu hi (Nat.le_of_lt hl)
  show HN (s1) (s2) (s3) (s4) (s17) ((s17.length:Int)) ((i:Int)) (b1) (b1_1) (b0) (b2) (b2_1) (s.1) (s.2)=upd _ (Kj s1 s2 s3 s4 b1 b1_1 b0 b2 b2_1 s17 i s.1 s.2 d)
  unfold HN Kj
  simp only [e1,e2,e3,e4,hd,cond_true,cond_false,Zc,ZD,ZG,ZE,ZK,ZL,ZF]
 ·intro s
  have e1:decide ((s17.length:Int)<(s17.length:Int))=false:=dF0 (by omega)
  show HN (s1) (s2) (s3) (s4) (s17) ((s17.length:Int)) ((s17.length:Int)) (b1) (b1_1) (b0) (b2) (b2_1) (s.1) (s.2)=_
  unfold HN Zgq
  rw [e1]
  rfl
def Zmq (a0 a1:Int):Option Bool:=some (IntKind.i64.wrap (↑(BitVec.ofInt IntKind.i64.bits (IntKind.i64.wrap (↑(BitVec.ofInt IntKind.i64.bits a0 &&& BitVec.ofInt IntKind.i64.bits a1).toNat:Int)) &&& BitVec.ofInt IntKind.i64.bits 2147483647).toNat:Int)==0)
def Zvi (a0 a1:I):Option I:=bif decide (a0.1>a0.2) then some (a1.1,a1.2) else bif decide (a1.1>a1.2) then some (a0.1,a0.2) else some (if a1.1<a0.1 then a1.1 else a0.1,if a1.2>a0.2 then a1.2 else a0.2)
def ZH (x:I×(I×Unit)):Option I:=Zvi x.1 x.2.1
abbrev KW:=((List En)×Int×Bool×Int×Int×Int×Int×Int×Int×Int)
abbrev QL:=(Int×Int×Int×Int)
def HK (s0:List En) (s1:Int) (s2:Bool) (s3 s4 s12 b0 b0_1 b1 b1_1:Int):Option (((List En)×Int×Bool×Int×Int×Int×Int×Int×Int×Int)⊕(Int×Int×Int×Int)):=bif decide (s12<(s0.length:Int)) then bif decide (0≤s12) then Za s0[s12.toNat]? none fun d12=>bif d12.1 !=s1 then bif d12.2.1==s2 then bif d12.2.2.1==s3 then bif IntKind.i64.wrap (↑(BitVec.ofInt IntKind.i64.bits (IntKind.i64.wrap (↑(BitVec.ofInt IntKind.i64.bits d12.2.2.2.1 &&& BitVec.ofInt IntKind.i64.bits s4).toNat:Int)) &&& BitVec.ofInt IntKind.i64.bits 2147483647).toNat:Int)==0 then Za (ZH ((b1,b1_1),d12.2.2.2.2,())) none fun d13=>some (.inl (s0,s1,s2,s3,s4,IntKind.i64.wrap (s12+1),b0,b0_1,d13.1,d13.2)) else some (.inl (s0,s1,s2,s3,s4,IntKind.i64.wrap (s12+1),b0,b0_1,b1,b1_1)) else some (.inl (s0,s1,s2,s3,s4,IntKind.i64.wrap (s12+1),b0,b0_1,b1,b1_1)) else some (.inl (s0,s1,s2,s3,s4,IntKind.i64.wrap (s12+1),b0,b0_1,b1,b1_1)) else some (.inl (s0,s1,s2,s3,s4,IntKind.i64.wrap (s12+1),b0,b0_1,b1,b1_1)) else none else some (.inr (b0,b0_1,b1,b1_1))
def ZlD:KW→Option (KW⊕QL):=fun (a,b,c,d,e,f,g,h,i,j)=>HK a b c d e f g h i j
def Vs (x:KW):Option QL:=Zn ZlD Zr x
def Zsa (a0:List En) (a1:Int) (a2:Bool) (a3 a4:Int):Option I:=Za (Vs (a0,a1,a2,a3,a4,0,0,0,1,0)) none fun d7=>some (d7.2.2.1,d7.2.2.2)
def Zgg (x:((List En)×(Int×(Bool×(Int×(Int×Unit)))))):Option I:=Zsa x.1 x.2.1 x.2.2.1 x.2.2.2.1 x.2.2.2.2.1
def Kh (s1:Int) (s2:Bool) (s3 s4 b0 b0_1:Int) (s0:List En) (i:Nat) (b1 b1_1:Int) (d:En):Option ((Int×Int)⊕QL):=
 bif d.1 !=s1 then
  bif d.2.1==s2 then
  bif d.2.2.1==s3 then
  bif IntKind.i64.wrap (↑(BitVec.ofInt IntKind.i64.bits (IntKind.i64.wrap (↑(BitVec.ofInt IntKind.i64.bits d.2.2.2.1 &&& BitVec.ofInt IntKind.i64.bits s4).toNat:Int)) &&& BitVec.ofInt IntKind.i64.bits 2147483647).toNat:Int)==0 then
  Za (ZH ((b1,b1_1),d.2.2.2.2,())) (none) fun d13=>
  some (.inl (d13.1,d13.2))
 else some (.inl (b1,b1_1))
 else some (.inl (b1,b1_1))
 else some (.inl (b1,b1_1))
 else some (.inl (b1,b1_1))
def Zgn (s1:Int) (s2:Bool) (s3 s4 b0 b0_1:Int) (s0:List En) (b1 b1_1:Int):Option QL:=
 some (b0,b0_1,b1,b1_1)
abbrev Zxc (s1:Int) (s2:Bool) (s3 s4 b0 b0_1:Int) (s0:List En) (i:Nat) (s:Int×Int):KW:=(s0,s1,s2,s3,s4,(i:Int),b0,b0_1,s.1,s.2)
def ZgB (s1:Int) (s2:Bool) (s3 s4 b0 b0_1:Int) (s0:List En) (s:Int×Int):Option QL:=Zq (fun i s d=>Kh s1 s2 s3 s4 b0 b0_1 s0 i s.1 s.2 d) (fun s=>Zgn s1 s2 s3 s4 b0 b0_1 s0 s.1 s.2) 0 s0 s
theorem Zw1 (s1:Int) (s2:Bool) (s3 s4 b0 b0_1:Int) (s0:List En) (s:Int×Int) (hl:s0.length<9223372036854775807):Vs (s0,s1,s2,s3,s4,0,b0,b0_1,s.1,s.2)=ZgB s1 s2 s3 s4 b0 b0_1 s0 s:=by
 unfold Vs ZgB
 refine Zs s0 (Zxc s1 s2 s3 s4 b0 b0_1 s0) _ _ ?_ ?_ s (by unfold Zr;omega)
 ·intro i s d hi hd
  have e1:decide ((i:Int)<(s0.length:Int))=true:=dT0 (by omega)
  have e2:decide (0≤(i:Int))=true:=dT0 (by omega)
  have e3:Int.toNat (i:Int)=i:=tN0 i
  have e4:=Zu hi (Nat.le_of_lt hl)
  show HK (s0) (s1) (s2) (s3) (s4) ((i:Int)) (b0) (b0_1) (s.1) (s.2)=upd _ (Kh s1 s2 s3 s4 b0 b0_1 s0 i s.1 s.2 d)
  unfold HK Kh
  simp only [e1,e2,e3,e4,hd,cond_true,cond_false,Zc,ZD,ZG,ZE,ZK,ZL,ZF]
 ·intro s
  have e1:decide ((s0.length:Int)<(s0.length:Int))=false:=dF0 (by omega)
  show HK (s0) (s1) (s2) (s3) (s4) ((s0.length:Int)) (b0) (b0_1) (s.1) (s.2)=_
  unfold HK Zgn
  rw [e1]
  rfl
def ZyE (a0 a1:Int):Option Bool:=bif decide (a1≥0) then bif decide (a1≤30) then bif decide (IntKind.u64.wrap a1<0) then none else some (IntKind.i64.wrap (↑(BitVec.ofInt IntKind.i64.bits (a0.fdiv (2 ^ Min.min (IntKind.u64.wrap a1).toNat IntKind.i64.bits)) &&& BitVec.ofInt IntKind.i64.bits 1).toNat:Int)==1) else some false else some false
def KM (x:Int×(Int×Unit)):Option Bool:=ZyE x.1 x.2.1
abbrev JX:=((List En)×Int×Bool×Int×Int×Int×Int×Int×Int×(List En))
abbrev Qk:=(Int×Bool×Int×Int×Int×Int×(List En))
def Yb (s0:List En) (s1:Int) (s2:Bool) (s3 s4 s5 s14 b0 b0_1:Int) (b1:List En):Option (((List En)×Int×Bool×Int×Int×Int×Int×Int×Int×(List En))⊕(Int×Bool×Int×Int×Int×Int×(List En))):=bif decide (s14<(s0.length:Int)) then bif decide (0≤s14) then Za s0[s14.toNat]? none fun d12=>Za (KM (d12.2.2.2.1,s5,())) none fun d13=>bif d13 then bif decide (0≤s14) then Za s0[s14.toNat]? none fun d14=>bif decide ((b1.length+[d14].length+1)*48≤lim) then some (.inl (s0,s1,s2,s3,s4,s5,IntKind.i64.wrap (s14+1),b0,b0_1,b1++[d14])) else none else none else some (.inl (s0,s1,s2,s3,s4,s5,IntKind.i64.wrap (s14+1),b0,b0_1,b1)) else none else some (.inr (s1,s2,s3,s4,b0,b0_1,b1))
def Zkd:JX→Option (JX⊕Qk):=fun (a,b,c,d,e,f,g,h,i,j)=>Yb a b c d e f g h i j
def YM (x:JX):Option Qk:=Zn Zkd Zr x
def Zn9 (a0:List En) (a1:Int) (a2:Bool) (a3 a4 a5:Int):Option I:=Za (YM (a0,a1,a2,a3,a4,a5,0,0,0,[])) none fun d8=>Za (Zgg (d8.2.2.2.2.2.2,d8.1,d8.2.1,d8.2.2.1,d8.2.2.2.1,())) none fun d9=>some (d9.1,d9.2)
def JV (x:((List En)×(Int×(Bool×(Int×(Int×(Int×Unit))))))):Option I:=Zn9 x.1 x.2.1 x.2.2.1 x.2.2.2.1 x.2.2.2.2.1 x.2.2.2.2.2.1
def Jv (s1:Int) (s2:Bool) (s3 s4 s5 b0 b0_1:Int) (s0:List En) (i:Nat) (b1:List En) (d:En):Option ((List En)⊕Qk):=
 Za (KM (d.2.2.2.1,s5,())) (none) fun d13=>
  bif d13 then
  bif decide ((b1.length+[d].length+1)*48≤lim) then
  some (.inl (b1++[d]))
 else none
 else some (.inl (b1))
def Zd2 (s1:Int) (s2:Bool) (s3 s4 s5 b0 b0_1:Int) (s0 b1:List En):Option Qk:=
 some (s1,s2,s3,s4,b0,b0_1,b1)
abbrev Ztw (s1:Int) (s2:Bool) (s3 s4 s5 b0 b0_1:Int) (s0:List En) (i:Nat) (s:List En):JX:=(s0,s1,s2,s3,s4,s5,(i:Int),b0,b0_1,s)
def Zd5 (s1:Int) (s2:Bool) (s3 s4 s5 b0 b0_1:Int) (s0 s:List En):Option Qk:=Zq (fun i s d=>Jv s1 s2 s3 s4 s5 b0 b0_1 s0 i s d) (fun s=>Zd2 s1 s2 s3 s4 s5 b0 b0_1 s0 s) 0 s0 s
theorem Ztt (s1:Int) (s2:Bool) (s3 s4 s5 b0 b0_1:Int) (s0 s:List En) (hl:s0.length<9223372036854775807):YM (s0,s1,s2,s3,s4,s5,0,b0,b0_1,s)=Zd5 s1 s2 s3 s4 s5 b0 b0_1 s0 s:=by
 unfold YM Zd5
 refine Zs s0 (Ztw s1 s2 s3 s4 s5 b0 b0_1 s0) _ _ ?_ ?_ s (by unfold Zr;omega)
 ·intro i s d hi hd
  have e1:decide ((i:Int)<(s0.length:Int))=true:=dT0 (by omega)
  have e2:decide (0≤(i:Int))=true:=dT0 (by omega)
  have e3:Int.toNat (i:Int)=i:=tN0 i
  have e4:=Zu hi (Nat.le_of_lt hl)
  show Yb (s0) (s1) (s2) (s3) (s4) (s5) ((i:Int)) (b0) (b0_1) (s)=upd _ (Jv s1 s2 s3 s4 s5 b0 b0_1 s0 i s d)
  unfold Yb Jv
  simp only [e1,e2,e3,e4,hd,cond_true,cond_false,Zc,ZD,ZG,ZE,ZK,ZL,ZF]
 ·intro s
  have e1:decide ((s0.length:Int)<(s0.length:Int))=false:=dF0 (by omega)
  show Yb (s0) (s1) (s2) (s3) (s4) (s5) ((s0.length:Int)) (b0) (b0_1) (s)=_
  unfold Yb Zd2
  rw [e1]
  rfl
def ZCX (a0 a1:Int):Option Bool:=bif decide (a0≥0) then some (decide (a0<a1)) else some false
def Zi (x:Int×(Int×Unit)):Option Bool:=ZCX x.1 x.2.1
abbrev WY:=(ByteArray×Int×Int)
abbrev Zbz:=Unit
abbrev ZbA:=Bool
def ZzE (s5:ByteArray) (s6 s7:Int):Option ((ByteArray×Int×Int)⊕(Unit⊕Bool)):=bif decide (s7<(↑s5.size:Int)) then bif decide (0≤s7) then Za s5[s7.toNat]? none fun d5=>bif (↑d5.toNat:Int)==s6 then some (.inr (.inr true)) else some (.inl (s5,s6,IntKind.i64.wrap (s7+1))) else none else some (.inr (.inl PUnit.unit))
def Zm8:WY→Option (WY⊕(Zbz⊕ZbA)):=fun (a,b,c)=>ZzE a b c
def Znf (x:WY):Option (Zbz⊕ZbA):=Zn Zm8 Zr x
def Zt (a0 a1:Int):Option Bool:=bif decide (0≤a0) then Za [ByteArray.mk #[],ByteArray.mk #[84],ByteArray.mk #[84,88],ByteArray.mk #[84],ByteArray.mk #[84,88,89],ByteArray.mk #[84,71],ByteArray.mk #[71,88],ByteArray.mk #[84,71,88],ByteArray.mk #[71,88,89],ByteArray.mk #[71],ByteArray.mk #[71],ByteArray.mk #[88,89],ByteArray.mk #[],ByteArray.mk #[],ByteArray.mk #[]][a0.toNat]? none fun d4=>Za [ByteArray.mk #[],ByteArray.mk #[84],ByteArray.mk #[84,88],ByteArray.mk #[84],ByteArray.mk #[84,88,89],ByteArray.mk #[84,71],ByteArray.mk #[71,88],ByteArray.mk #[84,71,88],ByteArray.mk #[71,88,89],ByteArray.mk #[71],ByteArray.mk #[71],ByteArray.mk #[88,89],ByteArray.mk #[],ByteArray.mk #[],ByteArray.mk #[]][a0.toNat]? none fun d5=>bif decide (0≤a1) then Za (ByteArray.mk #[32,84,88,89,71])[a1.toNat]? none fun d6=>Za (Znf (d5,(↑d6.toNat:Int),0)) none fun d7=>Sum.elim (fun e8=>some false) (fun e8=>some e8) d7 else none else none
def ZoC (x:Int×(Int×Unit)):Option Bool:=Zt x.1 x.2.1
def ZyF (a0 a1 a2 a3:Int):Option Bool:=Za (ZoC (a0,a1,())) none fun d5=>bif d5 then Za (Zi (a2,a3,())) none fun d6=>some d6 else some (a2==0)
def Zb (x:(Int×(Int×(Int×(Int×Unit))))):Option Bool:=ZyF x.1 x.2.1 x.2.2.1 x.2.2.2.1
def ZQ (a0:U) (a1:C) (a2:A):Option Bool:=bif a2.1==1 then bif a2.1 !=1 then bif a2.2.2.2.2.2.1 !=0 then some false else Za (Zj (a2.2.2.2.2.2.1,())) none fun d4=>bif !d4 then some false else Za (Zi (a2.2.2.2.2.2.2.2.1,(List.length a1.2:Int),())) none fun d5=>bif !d5 then some false else Za (Zi (a2.2.2.2.2.2.2.2.2,(List.length a1.2:Int),())) none fun d6=>bif !d6 then some false else bif a2.1 !=11 then bif a2.2.2.2.2.2.2.2.2 !=0 then some false else bif a2.2.2.2.2.2.2.1 !=0 then some false else Za (Zb (a2.1,1,a2.2.1,a1.1,())) none fun d7=>bif d7 then Za (Zb (a2.1,2,a2.2.2.1,0,())) none fun d8=>bif d8 then Za (Zb (a2.1,3,a2.2.2.2.1,0,())) none fun d9=>bif d9 then Za (Zb (a2.1,4,a2.2.2.2.2.1,0,())) none fun d10=>some d10 else some false else some false else some false else bif a2.2.2.2.2.2.2.1 !=0 then some false else Za (Zb (a2.1,1,a2.2.1,a1.1,())) none fun d7=>bif d7 then Za (Zb (a2.1,2,a2.2.2.1,0,())) none fun d8=>bif d8 then Za (Zb (a2.1,3,a2.2.2.2.1,0,())) none fun d9=>bif d9 then Za (Zb (a2.1,4,a2.2.2.2.2.1,0,())) none fun d10=>some d10 else some false else some false else some false else Za (Zj (a2.2.2.2.2.2.1,())) none fun d4=>bif !d4 then some false else Za (Zi (a2.2.2.2.2.2.2.2.1,(List.length a1.2:Int),())) none fun d5=>bif !d5 then some false else Za (Zi (a2.2.2.2.2.2.2.2.2,(List.length a1.2:Int),())) none fun d6=>bif !d6 then some false else bif a2.1 !=11 then bif a2.2.2.2.2.2.2.2.2 !=0 then some false else bif a2.2.2.2.2.2.2.1 !=0 then some false else Za (Zb (a2.1,1,a2.2.1,a1.1,())) none fun d7=>bif d7 then
 Za (Zb (a2.1,2,a2.2.2.1,0,())) none fun d8=>bif d8 then Za (Zb (a2.1,3,a2.2.2.2.1,0,())) none fun d9=>bif d9 then Za (Zb (a2.1,4,a2.2.2.2.2.1,0,())) none fun d10=>some d10 else some false else some false else some false else bif a2.2.2.2.2.2.2.1 !=0 then some false else Za (Zb (a2.1,1,a2.2.1,a1.1,())) none fun d7=>bif d7 then Za (Zb (a2.1,2,a2.2.2.1,0,())) none fun d8=>bif d8 then Za (Zb (a2.1,3,a2.2.2.2.1,0,())) none fun d9=>bif d9 then Za (Zb (a2.1,4,a2.2.2.2.2.1,0,())) none fun d10=>some d10 else some false else some false else some false else bif a2.1==3 then bif a2.1 !=1 then bif a2.2.2.2.2.2.1 !=0 then some false else Za (Zj (a2.2.2.2.2.2.1,())) none fun d4=>bif !d4 then some false else Za (Zi (a2.2.2.2.2.2.2.2.1,(List.length a1.2:Int),())) none fun d5=>bif !d5 then some false else Za (Zi (a2.2.2.2.2.2.2.2.2,(List.length a1.2:Int),())) none fun d6=>bif !d6 then some false else bif a2.1 !=11 then bif a2.2.2.2.2.2.2.2.2 !=0 then some false else bif a2.2.2.2.2.2.2.1 !=0 then some false else Za (Zb (a2.1,1,a2.2.1,a1.1,())) none fun d7=>bif d7 then Za (Zb (a2.1,2,a2.2.2.1,0,())) none fun d8=>bif d8 then Za (Zb (a2.1,3,a2.2.2.2.1,0,())) none fun d9=>bif d9 then Za (Zb (a2.1,4,a2.2.2.2.2.1,0,())) none fun d10=>some d10 else some false else some false else some false else bif a2.2.2.2.2.2.2.1 !=0 then some false else Za (Zb (a2.1,1,a2.2.1,a1.1,())) none fun d7=>bif d7 then Za (Zb (a2.1,2,a2.2.2.1,0,())) none fun d8=>bif d8 then Za (Zb (a2.1,3,a2.2.2.2.1,0,())) none fun d9=>
 bif d9 then Za (Zb (a2.1,4,a2.2.2.2.2.1,0,())) none fun d10=>some d10 else some false else some false else some false else Za (Zj (a2.2.2.2.2.2.1,())) none fun d4=>bif !d4 then some false else Za (Zi (a2.2.2.2.2.2.2.2.1,(List.length a1.2:Int),())) none fun d5=>bif !d5 then some false else Za (Zi (a2.2.2.2.2.2.2.2.2,(List.length a1.2:Int),())) none fun d6=>bif !d6 then some false else bif a2.1 !=11 then bif a2.2.2.2.2.2.2.2.2 !=0 then some false else bif a2.2.2.2.2.2.2.1 !=0 then some false else Za (Zb (a2.1,1,a2.2.1,a1.1,())) none fun d7=>bif d7 then Za (Zb (a2.1,2,a2.2.2.1,0,())) none fun d8=>bif d8 then Za (Zb (a2.1,3,a2.2.2.2.1,0,())) none fun d9=>bif d9 then Za (Zb (a2.1,4,a2.2.2.2.2.1,0,())) none fun d10=>some d10 else some false else some false else some false else bif a2.2.2.2.2.2.2.1 !=0 then some false else Za (Zb (a2.1,1,a2.2.1,a1.1,())) none fun d7=>bif d7 then Za (Zb (a2.1,2,a2.2.2.1,0,())) none fun d8=>bif d8 then Za (Zb (a2.1,3,a2.2.2.2.1,0,())) none fun d9=>bif d9 then Za (Zb (a2.1,4,a2.2.2.2.2.1,0,())) none fun d10=>some d10 else some false else some false else some false else bif a2.1==2 then bif a2.1 !=1 then bif a2.2.2.2.2.2.1 !=0 then some false else Za (Zj (a2.2.2.2.2.2.1,())) none fun d4=>bif !d4 then some false else Za (Zi (a2.2.2.2.2.2.2.2.1,(List.length a1.2:Int),())) none fun d5=>bif !d5 then some false else Za (Zi (a2.2.2.2.2.2.2.2.2,(List.length a1.2:Int),())) none fun d6=>bif !d6 then some false else bif a2.1 !=11 then bif a2.2.2.2.2.2.2.2.2 !=0 then some false else bif a2.2.2.2.2.2.2.1 !=0 then some false else
 Za (Zb (a2.1,1,a2.2.1,a1.1,())) none fun d7=>bif d7 then Za (Zb (a2.1,2,a2.2.2.1,a1.1,())) none fun d8=>bif d8 then Za (Zb (a2.1,3,a2.2.2.2.1,0,())) none fun d9=>bif d9 then Za (Zb (a2.1,4,a2.2.2.2.2.1,0,())) none fun d10=>some d10 else some false else some false else some false else bif a2.2.2.2.2.2.2.1 !=0 then some false else Za (Zb (a2.1,1,a2.2.1,a1.1,())) none fun d7=>bif d7 then Za (Zb (a2.1,2,a2.2.2.1,a1.1,())) none fun d8=>bif d8 then Za (Zb (a2.1,3,a2.2.2.2.1,0,())) none fun d9=>bif d9 then Za (Zb (a2.1,4,a2.2.2.2.2.1,0,())) none fun d10=>some d10 else some false else some false else some false else Za (Zj (a2.2.2.2.2.2.1,())) none fun d4=>bif !d4 then some false else Za (Zi (a2.2.2.2.2.2.2.2.1,(List.length a1.2:Int),())) none fun d5=>bif !d5 then some false else Za (Zi (a2.2.2.2.2.2.2.2.2,(List.length a1.2:Int),())) none fun d6=>bif !d6 then some false else bif a2.1 !=11 then bif a2.2.2.2.2.2.2.2.2 !=0 then some false else bif a2.2.2.2.2.2.2.1 !=0 then some false else Za (Zb (a2.1,1,a2.2.1,a1.1,())) none fun d7=>bif d7 then Za (Zb (a2.1,2,a2.2.2.1,a1.1,())) none fun d8=>bif d8 then Za (Zb (a2.1,3,a2.2.2.2.1,0,())) none fun d9=>bif d9 then Za (Zb (a2.1,4,a2.2.2.2.2.1,0,())) none fun d10=>some d10 else some false else some false else some false else bif a2.2.2.2.2.2.2.1 !=0 then some false else Za (Zb (a2.1,1,a2.2.1,a1.1,())) none fun d7=>bif d7 then Za (Zb (a2.1,2,a2.2.2.1,a1.1,())) none fun d8=>bif d8 then Za (Zb (a2.1,3,a2.2.2.2.1,0,())) none fun d9=>
 bif d9 then Za (Zb (a2.1,4,a2.2.2.2.2.1,0,())) none fun d10=>some d10 else some false else some false else some false else bif a2.1==4 then bif a2.1 !=1 then bif a2.2.2.2.2.2.1 !=0 then some false else Za (Zj (a2.2.2.2.2.2.1,())) none fun d4=>bif !d4 then some false else Za (Zi (a2.2.2.2.2.2.2.2.1,(List.length a1.2:Int),())) none fun d5=>bif !d5 then some false else Za (Zi (a2.2.2.2.2.2.2.2.2,(List.length a1.2:Int),())) none fun d6=>bif !d6 then some false else bif a2.1 !=11 then bif a2.2.2.2.2.2.2.2.2 !=0 then some false else bif decide (a2.2.2.2.2.2.2.1<1) then some false else bif decide (a2.2.2.2.2.2.2.1≥6) then some false else Za (Zb (a2.1,1,a2.2.1,a1.1,())) none fun d7=>bif d7 then Za (Zb (a2.1,2,a2.2.2.1,a1.1,())) none fun d8=>bif d8 then Za (Zb (a2.1,3,a2.2.2.2.1,a1.1,())) none fun d9=>bif d9 then Za (Zb (a2.1,4,a2.2.2.2.2.1,0,())) none fun d10=>some d10 else some false else some false else some false else bif decide (a2.2.2.2.2.2.2.1<1) then some false else bif decide (a2.2.2.2.2.2.2.1≥6) then some false else Za (Zb (a2.1,1,a2.2.1,a1.1,())) none fun d7=>bif d7 then Za (Zb (a2.1,2,a2.2.2.1,a1.1,())) none fun d8=>bif d8 then Za (Zb (a2.1,3,a2.2.2.2.1,a1.1,())) none fun d9=>bif d9 then Za (Zb (a2.1,4,a2.2.2.2.2.1,0,())) none fun d10=>some d10 else some false else some false else some false else Za (Zj (a2.2.2.2.2.2.1,())) none fun d4=>bif !d4 then some false else Za (Zi (a2.2.2.2.2.2.2.2.1,(List.length a1.2:Int),())) none fun d5=>bif !d5 then some false else Za (Zi (a2.2.2.2.2.2.2.2.2,(List.length a1.2:Int),())) none fun d6=>
 bif !d6 then some false else bif a2.1 !=11 then bif a2.2.2.2.2.2.2.2.2 !=0 then some false else bif decide (a2.2.2.2.2.2.2.1<1) then some false else bif decide (a2.2.2.2.2.2.2.1≥6) then some false else Za (Zb (a2.1,1,a2.2.1,a1.1,())) none fun d7=>bif d7 then Za (Zb (a2.1,2,a2.2.2.1,a1.1,())) none fun d8=>bif d8 then Za (Zb (a2.1,3,a2.2.2.2.1,a1.1,())) none fun d9=>bif d9 then Za (Zb (a2.1,4,a2.2.2.2.2.1,0,())) none fun d10=>some d10 else some false else some false else some false else bif decide (a2.2.2.2.2.2.2.1<1) then some false else bif decide (a2.2.2.2.2.2.2.1≥6) then some false else Za (Zb (a2.1,1,a2.2.1,a1.1,())) none fun d7=>bif d7 then Za (Zb (a2.1,2,a2.2.2.1,a1.1,())) none fun d8=>bif d8 then Za (Zb (a2.1,3,a2.2.2.2.1,a1.1,())) none fun d9=>bif d9 then Za (Zb (a2.1,4,a2.2.2.2.2.1,0,())) none fun d10=>some d10 else some false else some false else some false else bif a2.1==5 then bif a2.1 !=1 then bif a2.2.2.2.2.2.1 !=0 then some false else Za (Zj (a2.2.2.2.2.2.1,())) none fun d4=>bif !d4 then some false else Za (Zi (a2.2.2.2.2.2.2.2.1,(List.length a1.2:Int),())) none fun d5=>bif !d5 then some false else Za (Zi (a2.2.2.2.2.2.2.2.2,(List.length a1.2:Int),())) none fun d6=>bif !d6 then some false else bif a2.1 !=11 then bif a2.2.2.2.2.2.2.2.2 !=0 then some false else bif a2.2.2.2.2.2.2.1 !=0 then some false else Za (Zb (a2.1,1,a2.2.1,a1.1,())) none fun d7=>bif d7 then Za (Zb (a2.1,2,a2.2.2.1,0,())) none fun d8=>bif d8 then Za (Zb (a2.1,3,a2.2.2.2.1,0,())) none fun d9=>
 bif d9 then Za (Zb (a2.1,4,a2.2.2.2.2.1,(List.length a0.1:Int),())) none fun d10=>some d10 else some false else some false else some false else bif a2.2.2.2.2.2.2.1 !=0 then some false else Za (Zb (a2.1,1,a2.2.1,a1.1,())) none fun d7=>bif d7 then Za (Zb (a2.1,2,a2.2.2.1,0,())) none fun d8=>bif d8 then Za (Zb (a2.1,3,a2.2.2.2.1,0,())) none fun d9=>bif d9 then Za (Zb (a2.1,4,a2.2.2.2.2.1,(List.length a0.1:Int),())) none fun d10=>some d10 else some false else some false else some false else Za (Zj (a2.2.2.2.2.2.1,())) none fun d4=>bif !d4 then some false else Za (Zi (a2.2.2.2.2.2.2.2.1,(List.length a1.2:Int),())) none fun d5=>bif !d5 then some false else Za (Zi (a2.2.2.2.2.2.2.2.2,(List.length a1.2:Int),())) none fun d6=>bif !d6 then some false else bif a2.1 !=11 then bif a2.2.2.2.2.2.2.2.2 !=0 then some false else bif a2.2.2.2.2.2.2.1 !=0 then some false else Za (Zb (a2.1,1,a2.2.1,a1.1,())) none fun d7=>bif d7 then Za (Zb (a2.1,2,a2.2.2.1,0,())) none fun d8=>bif d8 then Za (Zb (a2.1,3,a2.2.2.2.1,0,())) none fun d9=>bif d9 then Za (Zb (a2.1,4,a2.2.2.2.2.1,(List.length a0.1:Int),())) none fun d10=>some d10 else some false else some false else some false else bif a2.2.2.2.2.2.2.1 !=0 then some false else Za (Zb (a2.1,1,a2.2.1,a1.1,())) none fun d7=>bif d7 then Za (Zb (a2.1,2,a2.2.2.1,0,())) none fun d8=>bif d8 then Za (Zb (a2.1,3,a2.2.2.2.1,0,())) none fun d9=>bif d9 then Za (Zb (a2.1,4,a2.2.2.2.2.1,(List.length a0.1:Int),())) none fun d10=>some d10 else some false else some false else some false else bif a2.1==6 then
 bif a2.1 !=1 then bif a2.2.2.2.2.2.1 !=0 then some false else Za (Zj (a2.2.2.2.2.2.1,())) none fun d4=>bif !d4 then some false else Za (Zi (a2.2.2.2.2.2.2.2.1,(List.length a1.2:Int),())) none fun d5=>bif !d5 then some false else Za (Zi (a2.2.2.2.2.2.2.2.2,(List.length a1.2:Int),())) none fun d6=>bif !d6 then some false else bif a2.1 !=11 then bif a2.2.2.2.2.2.2.2.2 !=0 then some false else bif a2.2.2.2.2.2.2.1 !=0 then some false else Za (Zb (a2.1,1,a2.2.1,0,())) none fun d7=>bif d7 then Za (Zb (a2.1,2,a2.2.2.1,a1.1,())) none fun d8=>bif d8 then Za (Zb (a2.1,3,a2.2.2.2.1,0,())) none fun d9=>bif d9 then Za (Zb (a2.1,4,a2.2.2.2.2.1,(List.length a0.1:Int),())) none fun d10=>some d10 else some false else some false else some false else bif a2.2.2.2.2.2.2.1 !=0 then some false else Za (Zb (a2.1,1,a2.2.1,0,())) none fun d7=>bif d7 then Za (Zb (a2.1,2,a2.2.2.1,a1.1,())) none fun d8=>bif d8 then Za (Zb (a2.1,3,a2.2.2.2.1,0,())) none fun d9=>bif d9 then Za (Zb (a2.1,4,a2.2.2.2.2.1,(List.length a0.1:Int),())) none fun d10=>some d10 else some false else some false else some false else Za (Zj (a2.2.2.2.2.2.1,())) none fun d4=>bif !d4 then some false else Za (Zi (a2.2.2.2.2.2.2.2.1,(List.length a1.2:Int),())) none fun d5=>bif !d5 then some false else Za (Zi (a2.2.2.2.2.2.2.2.2,(List.length a1.2:Int),())) none fun d6=>bif !d6 then some false else bif a2.1 !=11 then bif a2.2.2.2.2.2.2.2.2 !=0 then some false else bif a2.2.2.2.2.2.2.1 !=0 then some false else Za (Zb (a2.1,1,a2.2.1,0,())) none fun d7=>bif d7 then
 Za (Zb (a2.1,2,a2.2.2.1,a1.1,())) none fun d8=>bif d8 then Za (Zb (a2.1,3,a2.2.2.2.1,0,())) none fun d9=>bif d9 then Za (Zb (a2.1,4,a2.2.2.2.2.1,(List.length a0.1:Int),())) none fun d10=>some d10 else some false else some false else some false else bif a2.2.2.2.2.2.2.1 !=0 then some false else Za (Zb (a2.1,1,a2.2.1,0,())) none fun d7=>bif d7 then Za (Zb (a2.1,2,a2.2.2.1,a1.1,())) none fun d8=>bif d8 then Za (Zb (a2.1,3,a2.2.2.2.1,0,())) none fun d9=>bif d9 then Za (Zb (a2.1,4,a2.2.2.2.2.1,(List.length a0.1:Int),())) none fun d10=>some d10 else some false else some false else some false else bif a2.1==7 then bif a2.1 !=1 then bif a2.2.2.2.2.2.1 !=0 then some false else Za (Zj (a2.2.2.2.2.2.1,())) none fun d4=>bif !d4 then some false else Za (Zi (a2.2.2.2.2.2.2.2.1,(List.length a1.2:Int),())) none fun d5=>bif !d5 then some false else Za (Zi (a2.2.2.2.2.2.2.2.2,(List.length a1.2:Int),())) none fun d6=>bif !d6 then some false else bif a2.1 !=11 then bif a2.2.2.2.2.2.2.2.2 !=0 then some false else bif a2.2.2.2.2.2.2.1 !=0 then some false else Za (Zb (a2.1,1,a2.2.1,a1.1,())) none fun d7=>bif d7 then Za (Zb (a2.1,2,a2.2.2.1,a1.1,())) none fun d8=>bif d8 then Za (Zb (a2.1,3,a2.2.2.2.1,0,())) none fun d9=>bif d9 then Za (Zb (a2.1,4,a2.2.2.2.2.1,(List.length a0.2.1:Int),())) none fun d10=>some d10 else some false else some false else some false else bif a2.2.2.2.2.2.2.1 !=0 then some false else Za (Zb (a2.1,1,a2.2.1,a1.1,())) none fun d7=>bif d7 then Za (Zb (a2.1,2,a2.2.2.1,a1.1,())) none fun d8=>bif d8 then
 Za (Zb (a2.1,3,a2.2.2.2.1,0,())) none fun d9=>bif d9 then Za (Zb (a2.1,4,a2.2.2.2.2.1,(List.length a0.2.1:Int),())) none fun d10=>some d10 else some false else some false else some false else Za (Zj (a2.2.2.2.2.2.1,())) none fun d4=>bif !d4 then some false else Za (Zi (a2.2.2.2.2.2.2.2.1,(List.length a1.2:Int),())) none fun d5=>bif !d5 then some false else Za (Zi (a2.2.2.2.2.2.2.2.2,(List.length a1.2:Int),())) none fun d6=>bif !d6 then some false else bif a2.1 !=11 then bif a2.2.2.2.2.2.2.2.2 !=0 then some false else bif a2.2.2.2.2.2.2.1 !=0 then some false else Za (Zb (a2.1,1,a2.2.1,a1.1,())) none fun d7=>bif d7 then Za (Zb (a2.1,2,a2.2.2.1,a1.1,())) none fun d8=>bif d8 then Za (Zb (a2.1,3,a2.2.2.2.1,0,())) none fun d9=>bif d9 then Za (Zb (a2.1,4,a2.2.2.2.2.1,(List.length a0.2.1:Int),())) none fun d10=>some d10 else some false else some false else some false else bif a2.2.2.2.2.2.2.1 !=0 then some false else Za (Zb (a2.1,1,a2.2.1,a1.1,())) none fun d7=>bif d7 then Za (Zb (a2.1,2,a2.2.2.1,a1.1,())) none fun d8=>bif d8 then Za (Zb (a2.1,3,a2.2.2.2.1,0,())) none fun d9=>bif d9 then Za (Zb (a2.1,4,a2.2.2.2.2.1,(List.length a0.2.1:Int),())) none fun d10=>some d10 else some false else some false else some false else bif a2.1==8 then bif a2.1 !=1 then bif a2.2.2.2.2.2.1 !=0 then some false else Za (Zj (a2.2.2.2.2.2.1,())) none fun d4=>bif !d4 then some false else Za (Zi (a2.2.2.2.2.2.2.2.1,(List.length a1.2:Int),())) none fun d5=>bif !d5 then some false else Za (Zi (a2.2.2.2.2.2.2.2.2,(List.length a1.2:Int),())) none fun d6=>
 bif !d6 then some false else bif a2.1 !=11 then bif a2.2.2.2.2.2.2.2.2 !=0 then some false else bif a2.2.2.2.2.2.2.1 !=0 then some false else Za (Zb (a2.1,1,a2.2.1,0,())) none fun d7=>bif d7 then Za (Zb (a2.1,2,a2.2.2.1,a1.1,())) none fun d8=>bif d8 then Za (Zb (a2.1,3,a2.2.2.2.1,a1.1,())) none fun d9=>bif d9 then Za (Zb (a2.1,4,a2.2.2.2.2.1,(List.length a0.2.1:Int),())) none fun d10=>some d10 else some false else some false else some false else bif a2.2.2.2.2.2.2.1 !=0 then some false else Za (Zb (a2.1,1,a2.2.1,0,())) none fun d7=>bif d7 then Za (Zb (a2.1,2,a2.2.2.1,a1.1,())) none fun d8=>bif d8 then Za (Zb (a2.1,3,a2.2.2.2.1,a1.1,())) none fun d9=>bif d9 then Za (Zb (a2.1,4,a2.2.2.2.2.1,(List.length a0.2.1:Int),())) none fun d10=>some d10 else some false else some false else some false else Za (Zj (a2.2.2.2.2.2.1,())) none fun d4=>bif !d4 then some false else Za (Zi (a2.2.2.2.2.2.2.2.1,(List.length a1.2:Int),())) none fun d5=>bif !d5 then some false else Za (Zi (a2.2.2.2.2.2.2.2.2,(List.length a1.2:Int),())) none fun d6=>bif !d6 then some false else bif a2.1 !=11 then bif a2.2.2.2.2.2.2.2.2 !=0 then some false else bif a2.2.2.2.2.2.2.1 !=0 then some false else Za (Zb (a2.1,1,a2.2.1,0,())) none fun d7=>bif d7 then Za (Zb (a2.1,2,a2.2.2.1,a1.1,())) none fun d8=>bif d8 then Za (Zb (a2.1,3,a2.2.2.2.1,a1.1,())) none fun d9=>bif d9 then Za (Zb (a2.1,4,a2.2.2.2.2.1,(List.length a0.2.1:Int),())) none fun d10=>some d10 else some false else some false else some false else bif a2.2.2.2.2.2.2.1 !=0 then some false else
 Za (Zb (a2.1,1,a2.2.1,0,())) none fun d7=>bif d7 then Za (Zb (a2.1,2,a2.2.2.1,a1.1,())) none fun d8=>bif d8 then Za (Zb (a2.1,3,a2.2.2.2.1,a1.1,())) none fun d9=>bif d9 then Za (Zb (a2.1,4,a2.2.2.2.2.1,(List.length a0.2.1:Int),())) none fun d10=>some d10 else some false else some false else some false else bif a2.1==9 then bif a2.1 !=1 then bif a2.2.2.2.2.2.1 !=0 then some false else Za (Zj (a2.2.2.2.2.2.1,())) none fun d4=>bif !d4 then some false else Za (Zi (a2.2.2.2.2.2.2.2.1,(List.length a1.2:Int),())) none fun d5=>bif !d5 then some false else Za (Zi (a2.2.2.2.2.2.2.2.2,(List.length a1.2:Int),())) none fun d6=>bif !d6 then some false else bif a2.1 !=11 then bif a2.2.2.2.2.2.2.2.2 !=0 then some false else bif a2.2.2.2.2.2.2.1 !=0 then some false else Za (Zb (a2.1,1,a2.2.1,0,())) none fun d7=>bif d7 then Za (Zb (a2.1,2,a2.2.2.1,0,())) none fun d8=>bif d8 then Za (Zb (a2.1,3,a2.2.2.2.1,0,())) none fun d9=>bif d9 then Za (Zb (a2.1,4,a2.2.2.2.2.1,a0.2.2.1,())) none fun d10=>some d10 else some false else some false else some false else bif a2.2.2.2.2.2.2.1 !=0 then some false else Za (Zb (a2.1,1,a2.2.1,0,())) none fun d7=>bif d7 then Za (Zb (a2.1,2,a2.2.2.1,0,())) none fun d8=>bif d8 then Za (Zb (a2.1,3,a2.2.2.2.1,0,())) none fun d9=>bif d9 then Za (Zb (a2.1,4,a2.2.2.2.2.1,a0.2.2.1,())) none fun d10=>some d10 else some false else some false else some false else Za (Zj (a2.2.2.2.2.2.1,())) none fun d4=>bif !d4 then some false else Za (Zi (a2.2.2.2.2.2.2.2.1,(List.length a1.2:Int),())) none fun d5=>
 bif !d5 then some false else Za (Zi (a2.2.2.2.2.2.2.2.2,(List.length a1.2:Int),())) none fun d6=>bif !d6 then some false else bif a2.1 !=11 then bif a2.2.2.2.2.2.2.2.2 !=0 then some false else bif a2.2.2.2.2.2.2.1 !=0 then some false else Za (Zb (a2.1,1,a2.2.1,0,())) none fun d7=>bif d7 then Za (Zb (a2.1,2,a2.2.2.1,0,())) none fun d8=>bif d8 then Za (Zb (a2.1,3,a2.2.2.2.1,0,())) none fun d9=>bif d9 then Za (Zb (a2.1,4,a2.2.2.2.2.1,a0.2.2.1,())) none fun d10=>some d10 else some false else some false else some false else bif a2.2.2.2.2.2.2.1 !=0 then some false else Za (Zb (a2.1,1,a2.2.1,0,())) none fun d7=>bif d7 then Za (Zb (a2.1,2,a2.2.2.1,0,())) none fun d8=>bif d8 then Za (Zb (a2.1,3,a2.2.2.2.1,0,())) none fun d9=>bif d9 then Za (Zb (a2.1,4,a2.2.2.2.2.1,a0.2.2.1,())) none fun d10=>some d10 else some false else some false else some false else bif a2.1==10 then bif a2.1 !=1 then bif a2.2.2.2.2.2.1 !=0 then some false else Za (Zj (a2.2.2.2.2.2.1,())) none fun d4=>bif !d4 then some false else Za (Zi (a2.2.2.2.2.2.2.2.1,(List.length a1.2:Int),())) none fun d5=>bif !d5 then some false else Za (Zi (a2.2.2.2.2.2.2.2.2,(List.length a1.2:Int),())) none fun d6=>bif !d6 then some false else bif a2.1 !=11 then bif a2.2.2.2.2.2.2.2.2 !=0 then some false else bif a2.2.2.2.2.2.2.1 !=0 then some false else Za (Zb (a2.1,1,a2.2.1,0,())) none fun d7=>bif d7 then Za (Zb (a2.1,2,a2.2.2.1,0,())) none fun d8=>bif d8 then Za (Zb (a2.1,3,a2.2.2.2.1,0,())) none fun d9=>bif d9 then Za (Zb (a2.1,4,a2.2.2.2.2.1,a0.2.2.1,())) none fun d10=>some d10
 else some false else some false else some false else bif a2.2.2.2.2.2.2.1 !=0 then some false else Za (Zb (a2.1,1,a2.2.1,0,())) none fun d7=>bif d7 then Za (Zb (a2.1,2,a2.2.2.1,0,())) none fun d8=>bif d8 then Za (Zb (a2.1,3,a2.2.2.2.1,0,())) none fun d9=>bif d9 then Za (Zb (a2.1,4,a2.2.2.2.2.1,a0.2.2.1,())) none fun d10=>some d10 else some false else some false else some false else Za (Zj (a2.2.2.2.2.2.1,())) none fun d4=>bif !d4 then some false else Za (Zi (a2.2.2.2.2.2.2.2.1,(List.length a1.2:Int),())) none fun d5=>bif !d5 then some false else Za (Zi (a2.2.2.2.2.2.2.2.2,(List.length a1.2:Int),())) none fun d6=>bif !d6 then some false else bif a2.1 !=11 then bif a2.2.2.2.2.2.2.2.2 !=0 then some false else bif a2.2.2.2.2.2.2.1 !=0 then some false else Za (Zb (a2.1,1,a2.2.1,0,())) none fun d7=>bif d7 then Za (Zb (a2.1,2,a2.2.2.1,0,())) none fun d8=>bif d8 then Za (Zb (a2.1,3,a2.2.2.2.1,0,())) none fun d9=>bif d9 then Za (Zb (a2.1,4,a2.2.2.2.2.1,a0.2.2.1,())) none fun d10=>some d10 else some false else some false else some false else bif a2.2.2.2.2.2.2.1 !=0 then some false else Za (Zb (a2.1,1,a2.2.1,0,())) none fun d7=>bif d7 then Za (Zb (a2.1,2,a2.2.2.1,0,())) none fun d8=>bif d8 then Za (Zb (a2.1,3,a2.2.2.2.1,0,())) none fun d9=>bif d9 then Za (Zb (a2.1,4,a2.2.2.2.2.1,a0.2.2.1,())) none fun d10=>some d10 else some false else some false else some false else bif a2.1==11 then bif a2.1 !=1 then bif a2.2.2.2.2.2.1 !=0 then some false else Za (Zj (a2.2.2.2.2.2.1,())) none fun d4=>bif !d4 then some false else
 Za (Zi (a2.2.2.2.2.2.2.2.1,(List.length a1.2:Int),())) none fun d5=>bif !d5 then some false else Za (Zi (a2.2.2.2.2.2.2.2.2,(List.length a1.2:Int),())) none fun d6=>bif !d6 then some false else bif a2.1 !=11 then bif a2.2.2.2.2.2.2.2.2 !=0 then some false else bif decide (a2.2.2.2.2.2.2.1<1) then some false else bif decide (a2.2.2.2.2.2.2.1≥7) then some false else Za (Zb (a2.1,1,a2.2.1,0,())) none fun d7=>bif d7 then Za (Zb (a2.1,2,a2.2.2.1,a1.1,())) none fun d8=>bif d8 then Za (Zb (a2.1,3,a2.2.2.2.1,a1.1,())) none fun d9=>bif d9 then Za (Zb (a2.1,4,a2.2.2.2.2.1,0,())) none fun d10=>some d10 else some false else some false else some false else bif decide (a2.2.2.2.2.2.2.1<1) then some false else bif decide (a2.2.2.2.2.2.2.1≥7) then some false else Za (Zb (a2.1,1,a2.2.1,0,())) none fun d7=>bif d7 then Za (Zb (a2.1,2,a2.2.2.1,a1.1,())) none fun d8=>bif d8 then Za (Zb (a2.1,3,a2.2.2.2.1,a1.1,())) none fun d9=>bif d9 then Za (Zb (a2.1,4,a2.2.2.2.2.1,0,())) none fun d10=>some d10 else some false else some false else some false else Za (Zj (a2.2.2.2.2.2.1,())) none fun d4=>bif !d4 then some false else Za (Zi (a2.2.2.2.2.2.2.2.1,(List.length a1.2:Int),())) none fun d5=>bif !d5 then some false else Za (Zi (a2.2.2.2.2.2.2.2.2,(List.length a1.2:Int),())) none fun d6=>bif !d6 then some false else bif a2.1 !=11 then bif a2.2.2.2.2.2.2.2.2 !=0 then some false else bif decide (a2.2.2.2.2.2.2.1<1) then some false else bif decide (a2.2.2.2.2.2.2.1≥7) then some false else Za (Zb (a2.1,1,a2.2.1,0,())) none fun d7=>bif d7 then
 Za (Zb (a2.1,2,a2.2.2.1,a1.1,())) none fun d8=>bif d8 then Za (Zb (a2.1,3,a2.2.2.2.1,a1.1,())) none fun d9=>bif d9 then Za (Zb (a2.1,4,a2.2.2.2.2.1,0,())) none fun d10=>some d10 else some false else some false else some false else bif decide (a2.2.2.2.2.2.2.1<1) then some false else bif decide (a2.2.2.2.2.2.2.1≥7) then some false else Za (Zb (a2.1,1,a2.2.1,0,())) none fun d7=>bif d7 then Za (Zb (a2.1,2,a2.2.2.1,a1.1,())) none fun d8=>bif d8 then Za (Zb (a2.1,3,a2.2.2.2.1,a1.1,())) none fun d9=>bif d9 then Za (Zb (a2.1,4,a2.2.2.2.2.1,0,())) none fun d10=>some d10 else some false else some false else some false else bif a2.1==12 then bif a2.1 !=1 then bif a2.2.2.2.2.2.1 !=0 then some false else Za (Zj (a2.2.2.2.2.2.1,())) none fun d4=>bif !d4 then some false else Za (Zi (a2.2.2.2.2.2.2.2.1,(List.length a1.2:Int),())) none fun d5=>bif !d5 then some false else Za (Zi (a2.2.2.2.2.2.2.2.2,(List.length a1.2:Int),())) none fun d6=>bif !d6 then some false else bif a2.1 !=11 then bif a2.2.2.2.2.2.2.2.2 !=0 then some false else bif a2.2.2.2.2.2.2.1 !=0 then some false else Za (Zb (a2.1,1,a2.2.1,0,())) none fun d7=>bif d7 then Za (Zb (a2.1,2,a2.2.2.1,0,())) none fun d8=>bif d8 then Za (Zb (a2.1,3,a2.2.2.2.1,0,())) none fun d9=>bif d9 then Za (Zb (a2.1,4,a2.2.2.2.2.1,0,())) none fun d10=>some d10 else some false else some false else some false else bif a2.2.2.2.2.2.2.1 !=0 then some false else Za (Zb (a2.1,1,a2.2.1,0,())) none fun d7=>bif d7 then Za (Zb (a2.1,2,a2.2.2.1,0,())) none fun d8=>bif d8 then
 Za (Zb (a2.1,3,a2.2.2.2.1,0,())) none fun d9=>bif d9 then Za (Zb (a2.1,4,a2.2.2.2.2.1,0,())) none fun d10=>some d10 else some false else some false else some false else Za (Zj (a2.2.2.2.2.2.1,())) none fun d4=>bif !d4 then some false else Za (Zi (a2.2.2.2.2.2.2.2.1,(List.length a1.2:Int),())) none fun d5=>bif !d5 then some false else Za (Zi (a2.2.2.2.2.2.2.2.2,(List.length a1.2:Int),())) none fun d6=>bif !d6 then some false else bif a2.1 !=11 then bif a2.2.2.2.2.2.2.2.2 !=0 then some false else bif a2.2.2.2.2.2.2.1 !=0 then some false else Za (Zb (a2.1,1,a2.2.1,0,())) none fun d7=>bif d7 then Za (Zb (a2.1,2,a2.2.2.1,0,())) none fun d8=>bif d8 then Za (Zb (a2.1,3,a2.2.2.2.1,0,())) none fun d9=>bif d9 then Za (Zb (a2.1,4,a2.2.2.2.2.1,0,())) none fun d10=>some d10 else some false else some false else some false else bif a2.2.2.2.2.2.2.1 !=0 then some false else Za (Zb (a2.1,1,a2.2.1,0,())) none fun d7=>bif d7 then Za (Zb (a2.1,2,a2.2.2.1,0,())) none fun d8=>bif d8 then Za (Zb (a2.1,3,a2.2.2.2.1,0,())) none fun d9=>bif d9 then Za (Zb (a2.1,4,a2.2.2.2.2.1,0,())) none fun d10=>some d10 else some false else some false else some false else bif a2.1==13 then bif a2.1 !=1 then bif a2.2.2.2.2.2.1 !=0 then some false else Za (Zj (a2.2.2.2.2.2.1,())) none fun d4=>bif !d4 then some false else Za (Zi (a2.2.2.2.2.2.2.2.1,(List.length a1.2:Int),())) none fun d5=>bif !d5 then some false else Za (Zi (a2.2.2.2.2.2.2.2.2,(List.length a1.2:Int),())) none fun d6=>bif !d6 then some false else bif a2.1 !=11 then bif a2.2.2.2.2.2.2.2.2 !=0 then some false
 else bif a2.2.2.2.2.2.2.1 !=0 then some false else Za (Zb (a2.1,1,a2.2.1,0,())) none fun d7=>bif d7 then Za (Zb (a2.1,2,a2.2.2.1,0,())) none fun d8=>bif d8 then Za (Zb (a2.1,3,a2.2.2.2.1,0,())) none fun d9=>bif d9 then Za (Zb (a2.1,4,a2.2.2.2.2.1,0,())) none fun d10=>some d10 else some false else some false else some false else bif a2.2.2.2.2.2.2.1 !=0 then some false else Za (Zb (a2.1,1,a2.2.1,0,())) none fun d7=>bif d7 then Za (Zb (a2.1,2,a2.2.2.1,0,())) none fun d8=>bif d8 then Za (Zb (a2.1,3,a2.2.2.2.1,0,())) none fun d9=>bif d9 then Za (Zb (a2.1,4,a2.2.2.2.2.1,0,())) none fun d10=>some d10 else some false else some false else some false else Za (Zj (a2.2.2.2.2.2.1,())) none fun d4=>bif !d4 then some false else Za (Zi (a2.2.2.2.2.2.2.2.1,(List.length a1.2:Int),())) none fun d5=>bif !d5 then some false else Za (Zi (a2.2.2.2.2.2.2.2.2,(List.length a1.2:Int),())) none fun d6=>bif !d6 then some false else bif a2.1 !=11 then bif a2.2.2.2.2.2.2.2.2 !=0 then some false else bif a2.2.2.2.2.2.2.1 !=0 then some false else Za (Zb (a2.1,1,a2.2.1,0,())) none fun d7=>bif d7 then Za (Zb (a2.1,2,a2.2.2.1,0,())) none fun d8=>bif d8 then Za (Zb (a2.1,3,a2.2.2.2.1,0,())) none fun d9=>bif d9 then Za (Zb (a2.1,4,a2.2.2.2.2.1,0,())) none fun d10=>some d10 else some false else some false else some false else bif a2.2.2.2.2.2.2.1 !=0 then some false else Za (Zb (a2.1,1,a2.2.1,0,())) none fun d7=>bif d7 then Za (Zb (a2.1,2,a2.2.2.1,0,())) none fun d8=>bif d8 then Za (Zb (a2.1,3,a2.2.2.2.1,0,())) none fun d9=>
 bif d9 then Za (Zb (a2.1,4,a2.2.2.2.2.1,0,())) none fun d10=>some d10 else some false else some false else some false else bif a2.1==14 then bif a2.1 !=1 then bif a2.2.2.2.2.2.1 !=0 then some false else Za (Zj (a2.2.2.2.2.2.1,())) none fun d4=>bif !d4 then some false else Za (Zi (a2.2.2.2.2.2.2.2.1,(List.length a1.2:Int),())) none fun d5=>bif !d5 then some false else Za (Zi (a2.2.2.2.2.2.2.2.2,(List.length a1.2:Int),())) none fun d6=>bif !d6 then some false else bif a2.1 !=11 then bif a2.2.2.2.2.2.2.2.2 !=0 then some false else bif a2.2.2.2.2.2.2.1 !=0 then some false else Za (Zb (a2.1,1,a2.2.1,0,())) none fun d7=>bif d7 then Za (Zb (a2.1,2,a2.2.2.1,0,())) none fun d8=>bif d8 then Za (Zb (a2.1,3,a2.2.2.2.1,0,())) none fun d9=>bif d9 then Za (Zb (a2.1,4,a2.2.2.2.2.1,0,())) none fun d10=>some d10 else some false else some false else some false else bif a2.2.2.2.2.2.2.1 !=0 then some false else Za (Zb (a2.1,1,a2.2.1,0,())) none fun d7=>bif d7 then Za (Zb (a2.1,2,a2.2.2.1,0,())) none fun d8=>bif d8 then Za (Zb (a2.1,3,a2.2.2.2.1,0,())) none fun d9=>bif d9 then Za (Zb (a2.1,4,a2.2.2.2.2.1,0,())) none fun d10=>some d10 else some false else some false else some false else Za (Zj (a2.2.2.2.2.2.1,())) none fun d4=>bif !d4 then some false else Za (Zi (a2.2.2.2.2.2.2.2.1,(List.length a1.2:Int),())) none fun d5=>bif !d5 then some false else Za (Zi (a2.2.2.2.2.2.2.2.2,(List.length a1.2:Int),())) none fun d6=>bif !d6 then some false else bif a2.1 !=11 then bif a2.2.2.2.2.2.2.2.2 !=0 then some false else bif a2.2.2.2.2.2.2.1 !=0 then some false else
 Za (Zb (a2.1,1,a2.2.1,0,())) none fun d7=>bif d7 then Za (Zb (a2.1,2,a2.2.2.1,0,())) none fun d8=>bif d8 then Za (Zb (a2.1,3,a2.2.2.2.1,0,())) none fun d9=>bif d9 then Za (Zb (a2.1,4,a2.2.2.2.2.1,0,())) none fun d10=>some d10 else some false else some false else some false else bif a2.2.2.2.2.2.2.1 !=0 then some false else Za (Zb (a2.1,1,a2.2.1,0,())) none fun d7=>bif d7 then Za (Zb (a2.1,2,a2.2.2.1,0,())) none fun d8=>bif d8 then Za (Zb (a2.1,3,a2.2.2.2.1,0,())) none fun d9=>bif d9 then Za (Zb (a2.1,4,a2.2.2.2.2.1,0,())) none fun d10=>some d10 else some false else some false else some false else some false
def ZlU (x:(U×(C×(A×Unit)))):Option Bool:=ZQ x.1 x.2.1 x.2.2.1
abbrev Zaq:=(Int×(List Int)×(List Int)×Int×(List C))
abbrev Kq:=((List Int)×(List Int)×Int×(List C))
abbrev Kr:=(Bool×(List Int)×(List Int)×Int×(List C))
def ZbV (s3:Int) (b0 b0_1:List Int) (b0_2:Int) (b0_3:List C):Option ((Int×(List Int)×(List Int)×Int×(List C))⊕(((List Int)×(List Int)×Int×(List C))⊕(Bool×(List Int)×(List Int)×Int×(List C)))):=bif decide (s3<(b0.length:Int)) then bif decide (0≤s3) then Za b0[s3.toNat]? none fun d10=>Za (Zj (d10,())) none fun d11=>bif !d11 then some (.inr (.inr (false,b0,b0_1,b0_2,b0_3))) else some (.inl (IntKind.i64.wrap (s3+1),b0,b0_1,b0_2,b0_3)) else none else some (.inr (.inl (b0,b0_1,b0_2,b0_3)))
def Zq1:Zaq→Option (Zaq⊕(Kq⊕Kr)):=fun (a,b,c,d,e)=>ZbV a b c d e
def Zc0 (x:Zaq):Option (Kq⊕Kr):=Zn Zq1 Zr x
abbrev Zar:=(Int×(List Int)×(List Int)×Int×(List C))
abbrev Ks:=((List Int)×(List Int)×Int×(List C))
abbrev Kt:=(Bool×(List Int)×(List Int)×Int×(List C))
def ZbW (s4:Int) (b0 b0_1:List Int) (b0_2:Int) (b0_3:List C):Option ((Int×(List Int)×(List Int)×Int×(List C))⊕(((List Int)×(List Int)×Int×(List C))⊕(Bool×(List Int)×(List Int)×Int×(List C)))):=bif decide (s4<(b0_1.length:Int)) then bif decide (0≤s4) then Za b0_1[s4.toNat]? none fun d10=>bif decide (d10<1) then some (.inr (.inr (false,b0,b0_1,b0_2,b0_3))) else bif decide (0≤s4) then Za b0_1[s4.toNat]? none fun d11=>bif decide (d11>16) then some (.inr (.inr (false,b0,b0_1,b0_2,b0_3))) else some (.inl (IntKind.i64.wrap (s4+1),b0,b0_1,b0_2,b0_3)) else none else none else some (.inr (.inl (b0,b0_1,b0_2,b0_3)))
def Zq2:Zar→Option (Zar⊕(Ks⊕Kt)):=fun (a,b,c,d,e)=>ZbW a b c d e
def Zc1 (x:Zar):Option (Ks⊕Kt):=Zn Zq2 Zr x
abbrev Zas:=(Int×Int×Int×(List Int)×(List Int)×Int×(List C)×Int×(List A))
abbrev Ku:=(Int×(List Int)×(List Int)×Int×(List C))
abbrev Kv:=(Bool×Int×(List Int)×(List Int)×Int×(List C))
def ZbY (s5 s7 s8:Int) (b0 b0_1:List Int) (b0_2:Int) (b0_3:List C) (b1:Int) (b1_1:List A):Option ((Int×Int×Int×(List Int)×(List Int)×Int×(List C)×Int×(List A))⊕((Int×(List Int)×(List Int)×Int×(List C))⊕(Bool×Int×(List Int)×(List Int)×Int×(List C)))):=bif decide (s8<s7) then bif decide (0≤s8) then Za b1_1[s8.toNat]? none fun d14=>Za (ZlU ((b0,b0_1,b0_2,b0_3),(b1,b1_1),d14,())) none fun d15=>bif !d15 then some (.inr (.inr (false,s5,b0,b0_1,b0_2,b0_3))) else some (.inl (s5,s7,IntKind.i64.wrap (s8+1),b0,b0_1,b0_2,b0_3,b1,b1_1)) else none else some (.inr (.inl (s5,b0,b0_1,b0_2,b0_3)))
def Zq4:Zas→Option (Zas⊕(Ku⊕Kv)):=fun (a,b,c,d,e,f,g,h,i)=>ZbY a b c d e f g h i
def Zan (x:Zas):Option (Ku⊕Kv):=Zn Zq4 Zr x
abbrev Zc6:=(Int×(List Int)×(List Int)×Int×(List C))
abbrev ZeM:=Unit
abbrev ZeN:=Bool
def ZbX (s5:Int) (b0 b0_1:List Int) (b0_2:Int) (b0_3:List C):Option ((Int×(List Int)×(List Int)×Int×(List C))⊕(Unit⊕Bool)):=bif decide (s5<(b0_3.length:Int)) then bif decide (0≤s5) then Za b0_3[s5.toNat]? none fun d10=>Za (Zi (d10.1,41,())) none fun d11=>bif !d11 then some (.inr (.inr false)) else bif decide ((List.length d10.2:Int)<1) then some (.inr (.inr false)) else bif decide ((List.length d10.2:Int)>60) then some (.inr (.inr false)) else bif decide (0≤IntKind.i64.wrap ((List.length d10.2:Int) - 1)) then Za d10.2[(IntKind.i64.wrap ((List.length d10.2:Int) - 1)).toNat]? none fun d12=>bif d12.1 !=14 then some (.inr (.inr false)) else Za (Zan (s5,(List.length d10.2:Int),0,b0,b0_1,b0_2,b0_3,d10)) none fun d13=>Sum.elim (fun e14=>some (.inl (IntKind.i64.wrap (e14.1+1),e14.2.1,e14.2.2.1,e14.2.2.2.1,e14.2.2.2.2))) (fun e14=>some (.inr (.inr e14.1))) d13 else none else none else some (.inr (.inl PUnit.unit))
def Zq3:Zc6→Option (Zc6⊕(ZeM⊕ZeN)):=fun (a,b,c,d,e)=>ZbX a b c d e
def Zc2 (x:Zc6):Option (ZeM⊕ZeN):=Zn Zq3 Zr x
def ZtQ (a0:U):Option Bool:=bif decide ((List.length a0.1:Int)>6) then some false else bif decide ((List.length a0.2.1:Int)>3) then some false else Za (Zi (a0.2.2.1,7,())) none fun d6=>bif !d6 then some false else bif decide ((List.length a0.2.2.2:Int)<1) then some false else bif decide ((List.length a0.2.2.2:Int)>4) then some false else Za (Zc0 (0,a0)) none fun d7=>Sum.elim (fun e8=>Za (Zc1 (0,e8)) none fun d9=>Sum.elim (fun e10=>Za (Zc2 (0,e10)) none fun d11=>Sum.elim (fun e12=>some true) (fun e12=>some e12) d11) (fun e10=>some e10.1) d9) (fun e8=>some e8.1) d7
def ZtF (x:U×Unit):Option Bool:=ZtQ x.1
def Zf2 (b0_1:List Int) (b0_2:Int) (b0_3:List C) (b0:List Int) (i:Nat)  (d:Int):Option (Unit⊕(Kq⊕Kr)):=
 Za (Zj (d,())) (none) fun d11=>
  bif !d11 then
  some (.inr (.inr (false,b0,b0_1,b0_2,b0_3)))
 else some (.inl ())
def Zql (b0_1:List Int) (b0_2:Int) (b0_3:List C) (b0:List Int):Option (Kq⊕Kr):=
 some (.inl (b0,b0_1,b0_2,b0_3))
abbrev ZE5 (b0_1:List Int) (b0_2:Int) (b0_3:List C) (b0:List Int) (i:Nat) (s:Unit):Zaq:=((i:Int),b0,b0_1,b0_2,b0_3)
def Zkr (b0_1:List Int) (b0_2:Int) (b0_3:List C) (b0:List Int) (s:Unit):Option (Kq⊕Kr):=Zq (fun i s d=>Zf2 b0_1 b0_2 b0_3 b0 i  d) (fun s=>Zql b0_1 b0_2 b0_3 b0 ) 0 b0 s
theorem ZEZ (b0_1:List Int) (b0_2:Int) (b0_3:List C) (b0:List Int) (s:Unit) (hl:b0.length<9223372036854775807):Zc0 (0,b0,b0_1,b0_2,b0_3)=Zkr b0_1 b0_2 b0_3 b0 s:=by
 unfold Zc0 Zkr
 refine Zs b0 (ZE5 b0_1 b0_2 b0_3 b0) _ _ ?_ ?_ s (by unfold Zr;omega)
 ·intro i s d hi hd
  have e1:decide ((i:Int)<(b0.length:Int))=true:=dT0 (by omega)
  have e2:decide (0≤(i:Int))=true:=dT0 (by omega)
  have e3:Int.toNat (i:Int)=i:=tN0 i
  have e4:=Zu hi (Nat.le_of_lt hl)
  show ZbV ((i:Int)) (b0) (b0_1) (b0_2) (b0_3)=upd _ (Zf2 b0_1 b0_2 b0_3 b0 i  d)
  unfold ZbV Zf2
  simp only [e1,e2,e3,e4,hd,cond_true,cond_false,Zc,ZD,ZG,ZE,ZK,ZL,ZF]
 ·intro s
  have e1:decide ((b0.length:Int)<(b0.length:Int))=false:=dF0 (by omega)
  show ZbV ((b0.length:Int)) (b0) (b0_1) (b0_2) (b0_3)=_
  unfold ZbV Zql
  rw [e1]
  rfl
def Zf3 (b0:List Int) (b0_2:Int) (b0_3:List C) (b0_1:List Int) (i:Nat)  (d:Int):Option (Unit⊕(Ks⊕Kt)):=
 bif decide (d<1) then
  some (.inr (.inr (false,b0,b0_1,b0_2,b0_3)))
 else bif decide (d>16) then
  some (.inr (.inr (false,b0,b0_1,b0_2,b0_3)))
 else some (.inl ())
def Zqm (b0:List Int) (b0_2:Int) (b0_3:List C) (b0_1:List Int):Option (Ks⊕Kt):=
 some (.inl (b0,b0_1,b0_2,b0_3))
abbrev ZE6 (b0:List Int) (b0_2:Int) (b0_3:List C) (b0_1:List Int) (i:Nat) (s:Unit):Zar:=((i:Int),b0,b0_1,b0_2,b0_3)
def Zks (b0:List Int) (b0_2:Int) (b0_3:List C) (b0_1:List Int) (s:Unit):Option (Ks⊕Kt):=Zq (fun i s d=>Zf3 b0 b0_2 b0_3 b0_1 i  d) (fun s=>Zqm b0 b0_2 b0_3 b0_1 ) 0 b0_1 s
theorem ZE0 (b0:List Int) (b0_2:Int) (b0_3:List C) (b0_1:List Int) (s:Unit) (hl:b0_1.length<9223372036854775807):Zc1 (0,b0,b0_1,b0_2,b0_3)=Zks b0 b0_2 b0_3 b0_1 s:=by
 unfold Zc1 Zks
 refine Zs b0_1 (ZE6 b0 b0_2 b0_3 b0_1) _ _ ?_ ?_ s (by unfold Zr;omega)
 ·intro i s d hi hd
  have e1:decide ((i:Int)<(b0_1.length:Int))=true:=dT0 (by omega)
  have e2:decide (0≤(i:Int))=true:=dT0 (by omega)
  have e3:Int.toNat (i:Int)=i:=tN0 i
  have e4:=Zu hi (Nat.le_of_lt hl)
  show ZbW ((i:Int)) (b0) (b0_1) (b0_2) (b0_3)=upd _ (Zf3 b0 b0_2 b0_3 b0_1 i  d)
  unfold ZbW Zf3
  simp only [e1,e2,e3,e4,hd,cond_true,cond_false,Zc,ZD,ZG,ZE,ZK,ZL,ZF]
 ·intro s
  have e1:decide ((b0_1.length:Int)<(b0_1.length:Int))=false:=dF0 (by omega)
  show ZbW ((b0_1.length:Int)) (b0) (b0_1) (b0_2) (b0_3)=_
  unfold ZbW Zqm
  rw [e1]
  rfl
def Zf4 (s5:Int) (b0 b0_1:List Int) (b0_2:Int) (b0_3:List C) (b1:Int) (b1_1:List A) (i:Nat)  (d:A):Option (Unit⊕(Ku⊕Kv)):=
 Za (ZlU ((b0,b0_1,b0_2,b0_3),(b1,b1_1),d,())) (none) fun d15=>
  bif !d15 then
  some (.inr (.inr (false,s5,b0,b0_1,b0_2,b0_3)))
 else some (.inl ())
def Zqn (s5:Int) (b0 b0_1:List Int) (b0_2:Int) (b0_3:List C) (b1:Int) (b1_1:List A):Option (Ku⊕Kv):=
 some (.inl (s5,b0,b0_1,b0_2,b0_3))
abbrev ZE7 (s5:Int) (b0 b0_1:List Int) (b0_2:Int) (b0_3:List C) (b1:Int) (b1_1:List A) (i:Nat) (s:Unit):Zas:=(s5,(b1_1.length:Int),(i:Int),b0,b0_1,b0_2,b0_3,b1,b1_1)
def Zkt (s5:Int) (b0 b0_1:List Int) (b0_2:Int) (b0_3:List C) (b1:Int) (b1_1:List A) (s:Unit):Option (Ku⊕Kv):=Zq (fun i s d=>Zf4 s5 b0 b0_1 b0_2 b0_3 b1 b1_1 i  d) (fun s=>Zqn s5 b0 b0_1 b0_2 b0_3 b1 b1_1 ) 0 b1_1 s
theorem ZE1 (s5:Int) (b0 b0_1:List Int) (b0_2:Int) (b0_3:List C) (b1:Int) (b1_1:List A) (s:Unit) (hl:b1_1.length<9223372036854775807):Zan (s5,(b1_1.length:Int),0,b0,b0_1,b0_2,b0_3,b1,b1_1)=Zkt s5 b0 b0_1 b0_2 b0_3 b1 b1_1 s:=by
 unfold Zan Zkt
 refine Zs b1_1 (ZE7 s5 b0 b0_1 b0_2 b0_3 b1 b1_1) _ _ ?_ ?_ s (by unfold Zr;omega)
 ·intro i s d hi hd
  have e1:decide ((i:Int)<(b1_1.length:Int))=true:=dT0 (by omega)
  have e2:decide (0≤(i:Int))=true:=dT0 (by omega)
  have e3:Int.toNat (i:Int)=i:=tN0 i
  have e4:=Zu hi (Nat.le_of_lt hl)
  show ZbY (s5) ((b1_1.length:Int)) ((i:Int)) (b0) (b0_1) (b0_2) (b0_3) (b1) (b1_1)=upd _ (Zf4 s5 b0 b0_1 b0_2 b0_3 b1 b1_1 i  d)
  unfold ZbY Zf4
  simp only [e1,e2,e3,e4,hd,cond_true,cond_false,Zc,ZD,ZG,ZE,ZK,ZL,ZF]
 ·intro s
  have e1:decide ((b1_1.length:Int)<(b1_1.length:Int))=false:=dF0 (by omega)
  show ZbY (s5) ((b1_1.length:Int)) ((b1_1.length:Int)) (b0) (b0_1) (b0_2) (b0_3) (b1) (b1_1)=_
  unfold ZbY Zqn
  rw [e1]
  rfl
def ZCW (a0:I):Option Bool:=bif a0.1==1&&a0.2==0 then some true else bif decide (a0.1≤a0.2) then Za (Zj (a0.1,())) none fun d2=>bif d2 then Za (Zj (a0.2,())) none fun d3=>some d3 else some false else some false
def Zg1 (x:I×Unit):Option Bool:=ZCW x.1
theorem Zms {X Y:Type} {step:X→Option (X⊕Y)}:∀ (n m:Nat) (x:X) (y:Y),n≤m→Zn step n x=some y→Zn step m x=some y
 | 0,_,_,_,_,e=>nomatch e
 | n+1,m,x,y,h,e=>by
  obtain ⟨m,rfl⟩:∃ k,m=k+1:=⟨m - 1,by omega⟩
  rw [Zn] at e ⊢
  cases hs:step x with
  | none=>rw [hs] at e;cases e
  | some r=>
   rw [hs] at e
   cases r with
   | inl x'=>exact Zms n m x' y (by omega) e
   | inr y'=>exact e
theorem Qc (n:Int):Zvh n=some (fitB n):=by
 unfold Zvh fitB
 cases decide (n≥-2147483648)<;>rfl
theorem ZKI (x:I):ZCW x=some (isB x):=by
 unfold ZCW Zj isB
 simp only [Qc,Zc]
 cases (x.1==1&&x.2==0)
 ·cases decide (x.1≤x.2)
  ·rfl
  ·cases fitB x.1<;>rfl
 ·rfl
def inB (k n:Int):Bool:=decide (k≥0)&&decide (k<n)
theorem Jq (k n:Int):ZCX k n=some (inB k n):=by
 unfold ZCX inB
 cases decide (k≥0)<;>rfl
theorem ZYI:Zt 0 1=some false:=by kernel_rfl
theorem ZYJ:Zt 0 2=some false:=by kernel_rfl
theorem ZYK:Zt 0 3=some false:=by kernel_rfl
theorem ZYL:Zt 0 4=some false:=by kernel_rfl
theorem ZYM:Zt 1 1=some true:=by kernel_rfl
theorem ZYN:Zt 1 2=some false:=by kernel_rfl
theorem ZYO:Zt 1 3=some false:=by kernel_rfl
theorem ZYP:Zt 1 4=some false:=by kernel_rfl
theorem ZYQ:Zt 2 1=some true:=by kernel_rfl
theorem ZYR:Zt 2 2=some true:=by kernel_rfl
theorem ZYS:Zt 2 3=some false:=by kernel_rfl
theorem ZYT:Zt 2 4=some false:=by kernel_rfl
theorem ZYU:Zt 3 1=some true:=by kernel_rfl
theorem ZYV:Zt 3 2=some false:=by kernel_rfl
theorem ZYW:Zt 3 3=some false:=by kernel_rfl
theorem ZYX:Zt 3 4=some false:=by kernel_rfl
theorem ZYY:Zt 4 1=some true:=by kernel_rfl
theorem ZYZ:Zt 4 2=some true:=by kernel_rfl
theorem ZY0:Zt 4 3=some true:=by kernel_rfl
theorem ZY1:Zt 4 4=some false:=by kernel_rfl
theorem ZY2:Zt 5 1=some true:=by kernel_rfl
theorem ZY3:Zt 5 2=some false:=by kernel_rfl
theorem ZY4:Zt 5 3=some false:=by kernel_rfl
theorem ZY5:Zt 5 4=some true:=by kernel_rfl
theorem ZY6:Zt 6 1=some false:=by kernel_rfl
theorem ZY7:Zt 6 2=some true:=by kernel_rfl
theorem ZY8:Zt 6 3=some false:=by kernel_rfl
theorem ZY9:Zt 6 4=some true:=by kernel_rfl
theorem ZZa:Zt 7 1=some true:=by kernel_rfl
theorem ZZb:Zt 7 2=some true:=by kernel_rfl
theorem ZZc:Zt 7 3=some false:=by kernel_rfl
theorem ZZd:Zt 7 4=some true:=by kernel_rfl
theorem ZZe:Zt 8 1=some false:=by kernel_rfl
theorem ZZf:Zt 8 2=some true:=by kernel_rfl
theorem ZZg:Zt 8 3=some true:=by kernel_rfl
theorem ZZh:Zt 8 4=some true:=by kernel_rfl
theorem ZZi:Zt 9 1=some false:=by kernel_rfl
theorem ZZj:Zt 9 2=some false:=by kernel_rfl
theorem ZZk:Zt 9 3=some false:=by kernel_rfl
theorem ZZl:Zt 9 4=some true:=by kernel_rfl
theorem ZWm:Zt 10 1=some false:=by kernel_rfl
theorem ZWn:Zt 10 2=some false:=by kernel_rfl
theorem ZWo:Zt 10 3=some false:=by kernel_rfl
theorem ZWp:Zt 10 4=some true:=by kernel_rfl
theorem ZWq:Zt 11 1=some false:=by kernel_rfl
theorem ZWr:Zt 11 2=some true:=by kernel_rfl
theorem ZWs:Zt 11 3=some true:=by kernel_rfl
theorem ZWt:Zt 11 4=some false:=by kernel_rfl
theorem ZWu:Zt 12 1=some false:=by kernel_rfl
theorem ZWv:Zt 12 2=some false:=by kernel_rfl
theorem ZWw:Zt 12 3=some false:=by kernel_rfl
theorem ZWx:Zt 12 4=some false:=by kernel_rfl
theorem ZWy:Zt 13 1=some false:=by kernel_rfl
theorem ZWz:Zt 13 2=some false:=by kernel_rfl
theorem ZWA:Zt 13 3=some false:=by kernel_rfl
theorem ZWB:Zt 13 4=some false:=by kernel_rfl
theorem ZWC:Zt 14 1=some false:=by kernel_rfl
theorem ZWD:Zt 14 2=some false:=by kernel_rfl
theorem ZWE:Zt 14 3=some false:=by kernel_rfl
theorem ZWF:Zt 14 4=some false:=by kernel_rfl
def usesB (k f:Int):Bool:=if f=1 then k==1||k==2||k==3||k==4||k==5||k==7 else if f=2 then k==2||k==4||k==6||k==7||k==8||k==11 else if f=3 then k==4||k==8||k==11 else k==5||k==6||k==7||k==8||k==9||k==10
theorem ZPu (k f:Int) (hk:0≤k∧k≤14) (hf:1≤f∧f≤4):Zt k f=some (usesB k f):=by
 have h1:k=0∨k=1∨k=2∨k=3∨k=4∨k=5∨k=6∨k=7∨k=8∨k=9∨k=10∨k=11∨k=12∨k=13∨k=14:=by omega
 have h2:f=1∨f=2∨f=3∨f=4:=by omega
 rcases h1 with rfl | rfl | rfl | rfl | rfl | rfl | rfl | rfl | rfl | rfl | rfl | rfl | rfl | rfl | rfl<;>rcases h2 with rfl | rfl | rfl | rfl
 ·exact ZYI
 ·exact ZYJ
 ·exact ZYK
 ·exact ZYL
 ·exact ZYM
 ·exact ZYN
 ·exact ZYO
 ·exact ZYP
 ·exact ZYQ
 ·exact ZYR
 ·exact ZYS
 ·exact ZYT
 ·exact ZYU
 ·exact ZYV
 ·exact ZYW
 ·exact ZYX
 ·exact ZYY
 ·exact ZYZ
 ·exact ZY0
 ·exact ZY1
 ·exact ZY2
 ·exact ZY3
 ·exact ZY4
 ·exact ZY5
 ·exact ZY6
 ·exact ZY7
 ·exact ZY8
 ·exact ZY9
 ·exact ZZa
 ·exact ZZb
 ·exact ZZc
 ·exact ZZd
 ·exact ZZe
 ·exact ZZf
 ·exact ZZg
 ·exact ZZh
 ·exact ZZi
 ·exact ZZj
 ·exact ZZk
 ·exact ZZl
 ·exact ZWm
 ·exact ZWn
 ·exact ZWo
 ·exact ZWp
 ·exact ZWq
 ·exact ZWr
 ·exact ZWs
 ·exact ZWt
 ·exact ZWu
 ·exact ZWv
 ·exact ZWw
 ·exact ZWx
 ·exact ZWy
 ·exact ZWz
 ·exact ZWA
 ·exact ZWB
 ·exact ZWC
 ·exact ZWD
 ·exact ZWE
 ·exact ZWF
def hasV (k f v bd:Int):Bool:=if usesB k f=true then inB v bd else v==0
theorem Zx (k f v bd:Int) (hk:0≤k∧k≤14) (hf:1≤f∧f≤4):ZyF k f v bd=some (hasV k f v bd):=by
 unfold ZyF ZoC Zi hasV
 simp only [ZPu k f hk hf,Jq,Zc]
 cases usesB k f<;>rfl
def gBd (u:U) (k:Int):Int:=if k=5∨k=6 then (u.1.length:Int) else if k=7∨k=8 then (u.2.1.length:Int) else u.2.2.1
structure actOK (u:U) (c:C) (a:A):Prop where
 k1:1≤a.1
 k2:a.1≤14
 n:fitB a.2.2.2.2.2.1=true
 n0:a.1≠1→a.2.2.2.2.2.1=0
 nx:0≤a.2.2.2.2.2.2.2.1∧a.2.2.2.2.2.2.2.1<(c.2.length:Int)
 el:0≤a.2.2.2.2.2.2.2.2∧a.2.2.2.2.2.2.2.2<(c.2.length:Int)
 el0:a.1≠11→a.2.2.2.2.2.2.2.2=0
 op4:a.1=4→1≤a.2.2.2.2.2.2.1∧a.2.2.2.2.2.2.1≤5
 op11:a.1=11→1≤a.2.2.2.2.2.2.1∧a.2.2.2.2.2.2.1≤6
 op0:a.1≠4→a.1≠11→a.2.2.2.2.2.2.1=0
 h1:hasV a.1 1 a.2.1 c.1=true
 h2:hasV a.1 2 a.2.2.1 c.1=true
 h3:hasV a.1 3 a.2.2.2.1 c.1=true
 h4:hasV a.1 4 a.2.2.2.2.1 (gBd u a.1)=true
theorem ZZy (a0:U) (a1:C) (T X Y G N op nx el:Int):ZQ a0 a1 (1,T,X,Y,G,N,op,nx,el) =
 Za (Zj (N,())) (none) fun d4=>
  bif !d4 then
  some false
 else Za (Zi (nx,(↑(List.length a1.2):Int),())) (none) fun d5=>
  bif !d5 then
  some false
 else Za (Zi (el,(↑(List.length a1.2):Int),())) (none) fun d6=>
  bif !d6 then
  some false
 else bif el !=0 then
  some false
 else bif op !=0 then
  some false
 else Za (Zb (1,1,T,a1.1,())) (none) fun d7=>
  bif d7 then
  Za (Zb (1,2,X,0,())) (none) fun d8=>
  bif d8 then
  Za (Zb (1,3,Y,0,())) (none) fun d9=>
  bif d9 then
  Za (Zb (1,4,G,0,())) (none) fun d10=>
  some d10
 else some false
 else some false
 else some false:=by kernel_rfl
theorem ZZz (a0:U) (a1:C) (T X Y G N op nx el:Int):ZQ a0 a1 (2,T,X,Y,G,N,op,nx,el) =
 bif N !=0 then
  some false
 else Za (Zj (N,())) (none) fun d4=>
  bif !d4 then
  some false
 else Za (Zi (nx,(↑(List.length a1.2):Int),())) (none) fun d5=>
  bif !d5 then
  some false
 else Za (Zi (el,(↑(List.length a1.2):Int),())) (none) fun d6=>
  bif !d6 then
  some false
 else bif el !=0 then
  some false
 else bif op !=0 then
  some false
 else Za (Zb (2,1,T,a1.1,())) (none) fun d7=>
  bif d7 then
  Za (Zb (2,2,X,a1.1,())) (none) fun d8=>
  bif d8 then
  Za (Zb (2,3,Y,0,())) (none) fun d9=>
  bif d9 then
  Za (Zb (2,4,G,0,())) (none) fun d10=>
  some d10
 else some false
 else some false
 else some false:=by kernel_rfl
theorem ZZA (a0:U) (a1:C) (T X Y G N op nx el:Int):ZQ a0 a1 (3,T,X,Y,G,N,op,nx,el) =
 bif N !=0 then
  some false
 else Za (Zj (N,())) (none) fun d4=>
  bif !d4 then
  some false
 else Za (Zi (nx,(↑(List.length a1.2):Int),())) (none) fun d5=>
  bif !d5 then
  some false
 else Za (Zi (el,(↑(List.length a1.2):Int),())) (none) fun d6=>
  bif !d6 then
  some false
 else bif el !=0 then
  some false
 else bif op !=0 then
  some false
 else Za (Zb (3,1,T,a1.1,())) (none) fun d7=>
  bif d7 then
  Za (Zb (3,2,X,0,())) (none) fun d8=>
  bif d8 then
  Za (Zb (3,3,Y,0,())) (none) fun d9=>
  bif d9 then
  Za (Zb (3,4,G,0,())) (none) fun d10=>
  some d10
 else some false
 else some false
 else some false:=by kernel_rfl
theorem ZZB (a0:U) (a1:C) (T X Y G N op nx el:Int):ZQ a0 a1 (4,T,X,Y,G,N,op,nx,el) =
 bif N !=0 then
  some false
 else Za (Zj (N,())) (none) fun d4=>
  bif !d4 then
  some false
 else Za (Zi (nx,(↑(List.length a1.2):Int),())) (none) fun d5=>
  bif !d5 then
  some false
 else Za (Zi (el,(↑(List.length a1.2):Int),())) (none) fun d6=>
  bif !d6 then
  some false
 else bif el !=0 then
  some false
 else bif decide (op<1) then
  some false
 else bif decide (op≥6) then
  some false
 else Za (Zb (4,1,T,a1.1,())) (none) fun d7=>
  bif d7 then
  Za (Zb (4,2,X,a1.1,())) (none) fun d8=>
  bif d8 then
  Za (Zb (4,3,Y,a1.1,())) (none) fun d9=>
  bif d9 then
  Za (Zb (4,4,G,0,())) (none) fun d10=>
  some d10
 else some false
 else some false
 else some false:=by kernel_rfl
theorem ZZC (a0:U) (a1:C) (T X Y G N op nx el:Int):ZQ a0 a1 (5,T,X,Y,G,N,op,nx,el) =
 bif N !=0 then
  some false
 else Za (Zj (N,())) (none) fun d4=>
  bif !d4 then
  some false
 else Za (Zi (nx,(↑(List.length a1.2):Int),())) (none) fun d5=>
  bif !d5 then
  some false
 else Za (Zi (el,(↑(List.length a1.2):Int),())) (none) fun d6=>
  bif !d6 then
  some false
 else bif el !=0 then
  some false
 else bif op !=0 then
  some false
 else Za (Zb (5,1,T,a1.1,())) (none) fun d7=>
  bif d7 then
  Za (Zb (5,2,X,0,())) (none) fun d8=>
  bif d8 then
  Za (Zb (5,3,Y,0,())) (none) fun d9=>
  bif d9 then
  Za (Zb (5,4,G,(↑(List.length a0.1):Int),())) (none) fun d10=>
  some d10
 else some false
 else some false
 else some false:=by kernel_rfl
theorem ZZD (a0:U) (a1:C) (T X Y G N op nx el:Int):ZQ a0 a1 (6,T,X,Y,G,N,op,nx,el) =
 bif N !=0 then
  some false
 else Za (Zj (N,())) (none) fun d4=>
  bif !d4 then
  some false
 else Za (Zi (nx,(↑(List.length a1.2):Int),())) (none) fun d5=>
  bif !d5 then
  some false
 else Za (Zi (el,(↑(List.length a1.2):Int),())) (none) fun d6=>
  bif !d6 then
  some false
 else bif el !=0 then
  some false
 else bif op !=0 then
  some false
 else Za (Zb (6,1,T,0,())) (none) fun d7=>
  bif d7 then
  Za (Zb (6,2,X,a1.1,())) (none) fun d8=>
  bif d8 then
  Za (Zb (6,3,Y,0,())) (none) fun d9=>
  bif d9 then
  Za (Zb (6,4,G,(↑(List.length a0.1):Int),())) (none) fun d10=>
  some d10
 else some false
 else some false
 else some false:=by kernel_rfl
theorem ZZE (a0:U) (a1:C) (T X Y G N op nx el:Int):ZQ a0 a1 (7,T,X,Y,G,N,op,nx,el) =
 bif N !=0 then
  some false
 else Za (Zj (N,())) (none) fun d4=>
  bif !d4 then
  some false
 else Za (Zi (nx,(↑(List.length a1.2):Int),())) (none) fun d5=>
  bif !d5 then
  some false
 else Za (Zi (el,(↑(List.length a1.2):Int),())) (none) fun d6=>
  bif !d6 then
  some false
 else bif el !=0 then
  some false
 else bif op !=0 then
  some false
 else Za (Zb (7,1,T,a1.1,())) (none) fun d7=>
  bif d7 then
  Za (Zb (7,2,X,a1.1,())) (none) fun d8=>
  bif d8 then
  Za (Zb (7,3,Y,0,())) (none) fun d9=>
  bif d9 then
  Za (Zb (7,4,G,(↑(List.length a0.2.1):Int),())) (none) fun d10=>
  some d10
 else some false
 else some false
 else some false:=by kernel_rfl
theorem ZZF (a0:U) (a1:C) (T X Y G N op nx el:Int):ZQ a0 a1 (8,T,X,Y,G,N,op,nx,el) =
 bif N !=0 then
  some false
 else Za (Zj (N,())) (none) fun d4=>
  bif !d4 then
  some false
 else Za (Zi (nx,(↑(List.length a1.2):Int),())) (none) fun d5=>
  bif !d5 then
  some false
 else Za (Zi (el,(↑(List.length a1.2):Int),())) (none) fun d6=>
  bif !d6 then
  some false
 else bif el !=0 then
  some false
 else bif op !=0 then
  some false
 else Za (Zb (8,1,T,0,())) (none) fun d7=>
  bif d7 then
  Za (Zb (8,2,X,a1.1,())) (none) fun d8=>
  bif d8 then
  Za (Zb (8,3,Y,a1.1,())) (none) fun d9=>
  bif d9 then
  Za (Zb (8,4,G,(↑(List.length a0.2.1):Int),())) (none) fun d10=>
  some d10
 else some false
 else some false
 else some false:=by kernel_rfl
theorem ZZG (a0:U) (a1:C) (T X Y G N op nx el:Int):ZQ a0 a1 (9,T,X,Y,G,N,op,nx,el) =
 bif N !=0 then
  some false
 else Za (Zj (N,())) (none) fun d4=>
  bif !d4 then
  some false
 else Za (Zi (nx,(↑(List.length a1.2):Int),())) (none) fun d5=>
  bif !d5 then
  some false
 else Za (Zi (el,(↑(List.length a1.2):Int),())) (none) fun d6=>
  bif !d6 then
  some false
 else bif el !=0 then
  some false
 else bif op !=0 then
  some false
 else Za (Zb (9,1,T,0,())) (none) fun d7=>
  bif d7 then
  Za (Zb (9,2,X,0,())) (none) fun d8=>
  bif d8 then
  Za (Zb (9,3,Y,0,())) (none) fun d9=>
  bif d9 then
  Za (Zb (9,4,G,a0.2.2.1,())) (none) fun d10=>
  some d10
 else some false
 else some false
 else some false:=by kernel_rfl
theorem ZWT (a0:U) (a1:C) (T X Y G N op nx el:Int):ZQ a0 a1 (10,T,X,Y,G,N,op,nx,el) =
 bif N !=0 then
  some false
 else Za (Zj (N,())) (none) fun d4=>
  bif !d4 then
  some false
 else Za (Zi (nx,(↑(List.length a1.2):Int),())) (none) fun d5=>
  bif !d5 then
  some false
 else Za (Zi (el,(↑(List.length a1.2):Int),())) (none) fun d6=>
  bif !d6 then
  some false
 else bif el !=0 then
  some false
 else bif op !=0 then
  some false
 else Za (Zb (10,1,T,0,())) (none) fun d7=>
  bif d7 then
  Za (Zb (10,2,X,0,())) (none) fun d8=>
  bif d8 then
  Za (Zb (10,3,Y,0,())) (none) fun d9=>
  bif d9 then
  Za (Zb (10,4,G,a0.2.2.1,())) (none) fun d10=>
  some d10
 else some false
 else some false
 else some false:=by kernel_rfl
theorem ZWU (a0:U) (a1:C) (T X Y G N op nx el:Int):ZQ a0 a1 (11,T,X,Y,G,N,op,nx,el) =
 bif N !=0 then
  some false
 else Za (Zj (N,())) (none) fun d4=>
  bif !d4 then
  some false
 else Za (Zi (nx,(↑(List.length a1.2):Int),())) (none) fun d5=>
  bif !d5 then
  some false
 else Za (Zi (el,(↑(List.length a1.2):Int),())) (none) fun d6=>
  bif !d6 then
  some false
 else bif decide (op<1) then
  some false
 else bif decide (op≥7) then
  some false
 else Za (Zb (11,1,T,0,())) (none) fun d7=>
  bif d7 then
  Za (Zb (11,2,X,a1.1,())) (none) fun d8=>
  bif d8 then
  Za (Zb (11,3,Y,a1.1,())) (none) fun d9=>
  bif d9 then
  Za (Zb (11,4,G,0,())) (none) fun d10=>
  some d10
 else some false
 else some false
 else some false:=by kernel_rfl
theorem ZWV (a0:U) (a1:C) (T X Y G N op nx el:Int):ZQ a0 a1 (12,T,X,Y,G,N,op,nx,el) =
 bif N !=0 then
  some false
 else Za (Zj (N,())) (none) fun d4=>
  bif !d4 then
  some false
 else Za (Zi (nx,(↑(List.length a1.2):Int),())) (none) fun d5=>
  bif !d5 then
  some false
 else Za (Zi (el,(↑(List.length a1.2):Int),())) (none) fun d6=>
  bif !d6 then
  some false
 else bif el !=0 then
  some false
 else bif op !=0 then
  some false
 else Za (Zb (12,1,T,0,())) (none) fun d7=>
  bif d7 then
  Za (Zb (12,2,X,0,())) (none) fun d8=>
  bif d8 then
  Za (Zb (12,3,Y,0,())) (none) fun d9=>
  bif d9 then
  Za (Zb (12,4,G,0,())) (none) fun d10=>
  some d10
 else some false
 else some false
 else some false:=by kernel_rfl
theorem ZWW (a0:U) (a1:C) (T X Y G N op nx el:Int):ZQ a0 a1 (13,T,X,Y,G,N,op,nx,el) =
 bif N !=0 then
  some false
 else Za (Zj (N,())) (none) fun d4=>
  bif !d4 then
  some false
 else Za (Zi (nx,(↑(List.length a1.2):Int),())) (none) fun d5=>
  bif !d5 then
  some false
 else Za (Zi (el,(↑(List.length a1.2):Int),())) (none) fun d6=>
  bif !d6 then
  some false
 else bif el !=0 then
  some false
 else bif op !=0 then
  some false
 else Za (Zb (13,1,T,0,())) (none) fun d7=>
  bif d7 then
  Za (Zb (13,2,X,0,())) (none) fun d8=>
  bif d8 then
  Za (Zb (13,3,Y,0,())) (none) fun d9=>
  bif d9 then
  Za (Zb (13,4,G,0,())) (none) fun d10=>
  some d10
 else some false
 else some false
 else some false:=by kernel_rfl
theorem ZWX (a0:U) (a1:C) (T X Y G N op nx el:Int):ZQ a0 a1 (14,T,X,Y,G,N,op,nx,el) =
 bif N !=0 then
  some false
 else Za (Zj (N,())) (none) fun d4=>
  bif !d4 then
  some false
 else Za (Zi (nx,(↑(List.length a1.2):Int),())) (none) fun d5=>
  bif !d5 then
  some false
 else Za (Zi (el,(↑(List.length a1.2):Int),())) (none) fun d6=>
  bif !d6 then
  some false
 else bif el !=0 then
  some false
 else bif op !=0 then
  some false
 else Za (Zb (14,1,T,0,())) (none) fun d7=>
  bif d7 then
  Za (Zb (14,2,X,0,())) (none) fun d8=>
  bif d8 then
  Za (Zb (14,3,Y,0,())) (none) fun d9=>
  bif d9 then
  Za (Zb (14,4,G,0,())) (none) fun d10=>
  some d10
 else some false
 else some false
 else some false:=by kernel_rfl
theorem ZTR (u:U) (c:C) (T X Y G N op nx el:Int):∃ b,ZQ u c (1,T,X,Y,G,N,op,nx,el)=some b∧(b=true→actOK u c (1,T,X,Y,G,N,op,nx,el)):=by
 rw [ZZy]
 simp only [Zj,Qc,Zi,Jq,Zb,Zx _ _ _ _ (show (0:Int)≤1∧(1:Int)≤14 by decide) (show (1:Int)≤1∧(1:Int)≤4 by decide),Zx _ _ _ _ (show (0:Int)≤1∧(1:Int)≤14 by decide) (show (1:Int)≤2∧(2:Int)≤4 by decide),Zx _ _ _ _ (show (0:Int)≤1∧(1:Int)≤14 by decide) (show (1:Int)≤3∧(3:Int)≤4 by decide),Zx _ _ _ _ (show (0:Int)≤1∧(1:Int)≤14 by decide) (show (1:Int)≤4∧(4:Int)≤4 by decide),Zc,cond_eq_ite]
 (repeat' split)<;>(refine ⟨_,rfl,fun hb=>?_⟩)<;>first | (cases hb;done) | skip
 all_goals (constructor<;>simp_all [inB,hasV,usesB,gBd]<;>omega)
theorem ZTS (u:U) (c:C) (T X Y G N op nx el:Int):∃ b,ZQ u c (2,T,X,Y,G,N,op,nx,el)=some b∧(b=true→actOK u c (2,T,X,Y,G,N,op,nx,el)):=by
 rw [ZZz]
 simp only [Zj,Qc,Zi,Jq,Zb,Zx _ _ _ _ (show (0:Int)≤2∧(2:Int)≤14 by decide) (show (1:Int)≤1∧(1:Int)≤4 by decide),Zx _ _ _ _ (show (0:Int)≤2∧(2:Int)≤14 by decide) (show (1:Int)≤2∧(2:Int)≤4 by decide),Zx _ _ _ _ (show (0:Int)≤2∧(2:Int)≤14 by decide) (show (1:Int)≤3∧(3:Int)≤4 by decide),Zx _ _ _ _ (show (0:Int)≤2∧(2:Int)≤14 by decide) (show (1:Int)≤4∧(4:Int)≤4 by decide),Zc,cond_eq_ite]
 (repeat' split)<;>(refine ⟨_,rfl,fun hb=>?_⟩)<;>first | (cases hb;done) | skip
 all_goals (constructor<;>simp_all [inB,hasV,usesB,gBd]<;>omega)
theorem ZTT (u:U) (c:C) (T X Y G N op nx el:Int):∃ b,ZQ u c (3,T,X,Y,G,N,op,nx,el)=some b∧(b=true→actOK u c (3,T,X,Y,G,N,op,nx,el)):=by
 rw [ZZA]
 simp only [Zj,Qc,Zi,Jq,Zb,Zx _ _ _ _ (show (0:Int)≤3∧(3:Int)≤14 by decide) (show (1:Int)≤1∧(1:Int)≤4 by decide),Zx _ _ _ _ (show (0:Int)≤3∧(3:Int)≤14 by decide) (show (1:Int)≤2∧(2:Int)≤4 by decide),Zx _ _ _ _ (show (0:Int)≤3∧(3:Int)≤14 by decide) (show (1:Int)≤3∧(3:Int)≤4 by decide),Zx _ _ _ _ (show (0:Int)≤3∧(3:Int)≤14 by decide) (show (1:Int)≤4∧(4:Int)≤4 by decide),Zc,cond_eq_ite]
 (repeat' split)<;>(refine ⟨_,rfl,fun hb=>?_⟩)<;>first | (cases hb;done) | skip
 all_goals (constructor<;>simp_all [inB,hasV,usesB,gBd]<;>omega)
theorem ZTU (u:U) (c:C) (T X Y G N op nx el:Int):∃ b,ZQ u c (4,T,X,Y,G,N,op,nx,el)=some b∧(b=true→actOK u c (4,T,X,Y,G,N,op,nx,el)):=by
 rw [ZZB]
 simp only [Zj,Qc,Zi,Jq,Zb,Zx _ _ _ _ (show (0:Int)≤4∧(4:Int)≤14 by decide) (show (1:Int)≤1∧(1:Int)≤4 by decide),Zx _ _ _ _ (show (0:Int)≤4∧(4:Int)≤14 by decide) (show (1:Int)≤2∧(2:Int)≤4 by decide),Zx _ _ _ _ (show (0:Int)≤4∧(4:Int)≤14 by decide) (show (1:Int)≤3∧(3:Int)≤4 by decide),Zx _ _ _ _ (show (0:Int)≤4∧(4:Int)≤14 by decide) (show (1:Int)≤4∧(4:Int)≤4 by decide),Zc,cond_eq_ite]
 (repeat' split)<;>(refine ⟨_,rfl,fun hb=>?_⟩)<;>first | (cases hb;done) | skip
 all_goals (constructor<;>simp_all [inB,hasV,usesB,gBd]<;>omega)
theorem ZTV (u:U) (c:C) (T X Y G N op nx el:Int):∃ b,ZQ u c (5,T,X,Y,G,N,op,nx,el)=some b∧(b=true→actOK u c (5,T,X,Y,G,N,op,nx,el)):=by
 rw [ZZC]
 simp only [Zj,Qc,Zi,Jq,Zb,Zx _ _ _ _ (show (0:Int)≤5∧(5:Int)≤14 by decide) (show (1:Int)≤1∧(1:Int)≤4 by decide),Zx _ _ _ _ (show (0:Int)≤5∧(5:Int)≤14 by decide) (show (1:Int)≤2∧(2:Int)≤4 by decide),Zx _ _ _ _ (show (0:Int)≤5∧(5:Int)≤14 by decide) (show (1:Int)≤3∧(3:Int)≤4 by decide),Zx _ _ _ _ (show (0:Int)≤5∧(5:Int)≤14 by decide) (show (1:Int)≤4∧(4:Int)≤4 by decide),Zc,cond_eq_ite]
 (repeat' split)<;>(refine ⟨_,rfl,fun hb=>?_⟩)<;>first | (cases hb;done) | skip
 all_goals (constructor<;>simp_all [inB,hasV,usesB,gBd]<;>omega)
theorem ZTW (u:U) (c:C) (T X Y G N op nx el:Int):∃ b,ZQ u c (6,T,X,Y,G,N,op,nx,el)=some b∧(b=true→actOK u c (6,T,X,Y,G,N,op,nx,el)):=by
 rw [ZZD]
 simp only [Zj,Qc,Zi,Jq,Zb,Zx _ _ _ _ (show (0:Int)≤6∧(6:Int)≤14 by decide) (show (1:Int)≤1∧(1:Int)≤4 by decide),Zx _ _ _ _ (show (0:Int)≤6∧(6:Int)≤14 by decide) (show (1:Int)≤2∧(2:Int)≤4 by decide),Zx _ _ _ _ (show (0:Int)≤6∧(6:Int)≤14 by decide) (show (1:Int)≤3∧(3:Int)≤4 by decide),Zx _ _ _ _ (show (0:Int)≤6∧(6:Int)≤14 by decide) (show (1:Int)≤4∧(4:Int)≤4 by decide),Zc,cond_eq_ite]
 (repeat' split)<;>(refine ⟨_,rfl,fun hb=>?_⟩)<;>first | (cases hb;done) | skip
 all_goals (constructor<;>simp_all [inB,hasV,usesB,gBd]<;>omega)
theorem ZTX (u:U) (c:C) (T X Y G N op nx el:Int):∃ b,ZQ u c (7,T,X,Y,G,N,op,nx,el)=some b∧(b=true→actOK u c (7,T,X,Y,G,N,op,nx,el)):=by
 rw [ZZE]
 simp only [Zj,Qc,Zi,Jq,Zb,Zx _ _ _ _ (show (0:Int)≤7∧(7:Int)≤14 by decide) (show (1:Int)≤1∧(1:Int)≤4 by decide),Zx _ _ _ _ (show (0:Int)≤7∧(7:Int)≤14 by decide) (show (1:Int)≤2∧(2:Int)≤4 by decide),Zx _ _ _ _ (show (0:Int)≤7∧(7:Int)≤14 by decide) (show (1:Int)≤3∧(3:Int)≤4 by decide),Zx _ _ _ _ (show (0:Int)≤7∧(7:Int)≤14 by decide) (show (1:Int)≤4∧(4:Int)≤4 by decide),Zc,cond_eq_ite]
 (repeat' split)<;>(refine ⟨_,rfl,fun hb=>?_⟩)<;>first | (cases hb;done) | skip
 all_goals (constructor<;>simp_all [inB,hasV,usesB,gBd]<;>omega)
theorem ZTY (u:U) (c:C) (T X Y G N op nx el:Int):∃ b,ZQ u c (8,T,X,Y,G,N,op,nx,el)=some b∧(b=true→actOK u c (8,T,X,Y,G,N,op,nx,el)):=by
 rw [ZZF]
 simp only [Zj,Qc,Zi,Jq,Zb,Zx _ _ _ _ (show (0:Int)≤8∧(8:Int)≤14 by decide) (show (1:Int)≤1∧(1:Int)≤4 by decide),Zx _ _ _ _ (show (0:Int)≤8∧(8:Int)≤14 by decide) (show (1:Int)≤2∧(2:Int)≤4 by decide),Zx _ _ _ _ (show (0:Int)≤8∧(8:Int)≤14 by decide) (show (1:Int)≤3∧(3:Int)≤4 by decide),Zx _ _ _ _ (show (0:Int)≤8∧(8:Int)≤14 by decide) (show (1:Int)≤4∧(4:Int)≤4 by decide),Zc,cond_eq_ite]
 (repeat' split)<;>(refine ⟨_,rfl,fun hb=>?_⟩)<;>first | (cases hb;done) | skip
 all_goals (constructor<;>simp_all [inB,hasV,usesB,gBd]<;>omega)
theorem ZTZ (u:U) (c:C) (T X Y G N op nx el:Int):∃ b,ZQ u c (9,T,X,Y,G,N,op,nx,el)=some b∧(b=true→actOK u c (9,T,X,Y,G,N,op,nx,el)):=by
 rw [ZZG]
 simp only [Zj,Qc,Zi,Jq,Zb,Zx _ _ _ _ (show (0:Int)≤9∧(9:Int)≤14 by decide) (show (1:Int)≤1∧(1:Int)≤4 by decide),Zx _ _ _ _ (show (0:Int)≤9∧(9:Int)≤14 by decide) (show (1:Int)≤2∧(2:Int)≤4 by decide),Zx _ _ _ _ (show (0:Int)≤9∧(9:Int)≤14 by decide) (show (1:Int)≤3∧(3:Int)≤4 by decide),Zx _ _ _ _ (show (0:Int)≤9∧(9:Int)≤14 by decide) (show (1:Int)≤4∧(4:Int)≤4 by decide),Zc,cond_eq_ite]
 (repeat' split)<;>(refine ⟨_,rfl,fun hb=>?_⟩)<;>first | (cases hb;done) | skip
 all_goals (constructor<;>simp_all [inB,hasV,usesB,gBd]<;>omega)
theorem ZSd (u:U) (c:C) (T X Y G N op nx el:Int):∃ b,ZQ u c (10,T,X,Y,G,N,op,nx,el)=some b∧(b=true→actOK u c (10,T,X,Y,G,N,op,nx,el)):=by
 rw [ZWT]
 simp only [Zj,Qc,Zi,Jq,Zb,Zx _ _ _ _ (show (0:Int)≤10∧(10:Int)≤14 by decide) (show (1:Int)≤1∧(1:Int)≤4 by decide),Zx _ _ _ _ (show (0:Int)≤10∧(10:Int)≤14 by decide) (show (1:Int)≤2∧(2:Int)≤4 by decide),Zx _ _ _ _ (show (0:Int)≤10∧(10:Int)≤14 by decide) (show (1:Int)≤3∧(3:Int)≤4 by decide),Zx _ _ _ _ (show (0:Int)≤10∧(10:Int)≤14 by decide) (show (1:Int)≤4∧(4:Int)≤4 by decide),Zc,cond_eq_ite]
 (repeat' split)<;>(refine ⟨_,rfl,fun hb=>?_⟩)<;>first | (cases hb;done) | skip
 all_goals (constructor<;>simp_all [inB,hasV,usesB,gBd]<;>omega)
theorem ZSe (u:U) (c:C) (T X Y G N op nx el:Int):∃ b,ZQ u c (11,T,X,Y,G,N,op,nx,el)=some b∧(b=true→actOK u c (11,T,X,Y,G,N,op,nx,el)):=by
 rw [ZWU]
 simp only [Zj,Qc,Zi,Jq,Zb,Zx _ _ _ _ (show (0:Int)≤11∧(11:Int)≤14 by decide) (show (1:Int)≤1∧(1:Int)≤4 by decide),Zx _ _ _ _ (show (0:Int)≤11∧(11:Int)≤14 by decide) (show (1:Int)≤2∧(2:Int)≤4 by decide),Zx _ _ _ _ (show (0:Int)≤11∧(11:Int)≤14 by decide) (show (1:Int)≤3∧(3:Int)≤4 by decide),Zx _ _ _ _ (show (0:Int)≤11∧(11:Int)≤14 by decide) (show (1:Int)≤4∧(4:Int)≤4 by decide),Zc,cond_eq_ite]
 (repeat' split)<;>(refine ⟨_,rfl,fun hb=>?_⟩)<;>first | (cases hb;done) | skip
 all_goals (constructor<;>simp_all [inB,hasV,usesB,gBd]<;>omega)
theorem ZSf (u:U) (c:C) (T X Y G N op nx el:Int):∃ b,ZQ u c (12,T,X,Y,G,N,op,nx,el)=some b∧(b=true→actOK u c (12,T,X,Y,G,N,op,nx,el)):=by
 rw [ZWV]
 simp only [Zj,Qc,Zi,Jq,Zb,Zx _ _ _ _ (show (0:Int)≤12∧(12:Int)≤14 by decide) (show (1:Int)≤1∧(1:Int)≤4 by decide),Zx _ _ _ _ (show (0:Int)≤12∧(12:Int)≤14 by decide) (show (1:Int)≤2∧(2:Int)≤4 by decide),Zx _ _ _ _ (show (0:Int)≤12∧(12:Int)≤14 by decide) (show (1:Int)≤3∧(3:Int)≤4 by decide),Zx _ _ _ _ (show (0:Int)≤12∧(12:Int)≤14 by decide) (show (1:Int)≤4∧(4:Int)≤4 by decide),Zc,cond_eq_ite]
 (repeat' split)<;>(refine ⟨_,rfl,fun hb=>?_⟩)<;>first | (cases hb;done) | skip
 all_goals (constructor<;>simp_all [inB,hasV,usesB,gBd]<;>omega)
theorem ZSg (u:U) (c:C) (T X Y G N op nx el:Int):∃ b,ZQ u c (13,T,X,Y,G,N,op,nx,el)=some b∧(b=true→actOK u c (13,T,X,Y,G,N,op,nx,el)):=by
 rw [ZWW]
 simp only [Zj,Qc,Zi,Jq,Zb,Zx _ _ _ _ (show (0:Int)≤13∧(13:Int)≤14 by decide) (show (1:Int)≤1∧(1:Int)≤4 by decide),Zx _ _ _ _ (show (0:Int)≤13∧(13:Int)≤14 by decide) (show (1:Int)≤2∧(2:Int)≤4 by decide),Zx _ _ _ _ (show (0:Int)≤13∧(13:Int)≤14 by decide) (show (1:Int)≤3∧(3:Int)≤4 by decide),Zx _ _ _ _ (show (0:Int)≤13∧(13:Int)≤14 by decide) (show (1:Int)≤4∧(4:Int)≤4 by decide),Zc,cond_eq_ite]
 (repeat' split)<;>(refine ⟨_,rfl,fun hb=>?_⟩)<;>first | (cases hb;done) | skip
 all_goals (constructor<;>simp_all [inB,hasV,usesB,gBd]<;>omega)
theorem ZSh (u:U) (c:C) (T X Y G N op nx el:Int):∃ b,ZQ u c (14,T,X,Y,G,N,op,nx,el)=some b∧(b=true→actOK u c (14,T,X,Y,G,N,op,nx,el)):=by
 rw [ZWX]
 simp only [Zj,Qc,Zi,Jq,Zb,Zx _ _ _ _ (show (0:Int)≤14∧(14:Int)≤14 by decide) (show (1:Int)≤1∧(1:Int)≤4 by decide),Zx _ _ _ _ (show (0:Int)≤14∧(14:Int)≤14 by decide) (show (1:Int)≤2∧(2:Int)≤4 by decide),Zx _ _ _ _ (show (0:Int)≤14∧(14:Int)≤14 by decide) (show (1:Int)≤3∧(3:Int)≤4 by decide),Zx _ _ _ _ (show (0:Int)≤14∧(14:Int)≤14 by decide) (show (1:Int)≤4∧(4:Int)≤4 by decide),Zc,cond_eq_ite]
 (repeat' split)<;>(refine ⟨_,rfl,fun hb=>?_⟩)<;>first | (cases hb;done) | skip
 all_goals (constructor<;>simp_all [inB,hasV,usesB,gBd]<;>omega)
theorem ZWY (u:U) (c:C) (a:A) (h:¬ (1≤a.1∧a.1≤14)):ZQ u c a=some false:=by
 unfold ZQ
 have f:∀ k:Int,1≤k→k≤14→(a.1==k)=false:=fun k h1 h2=>by
  rw [beq_eq_false_iff_ne];omega
 simp only [f 1 (by decide) (by decide),f 2 (by decide) (by decide),f 3 (by decide) (by decide),f 4 (by decide) (by decide),f 5 (by decide) (by decide),f 6 (by decide) (by decide),f 7 (by decide) (by decide),f 8 (by decide) (by decide),f 9 (by decide) (by decide),f 10 (by decide) (by decide),f 11 (by decide) (by decide),f 12 (by decide) (by decide),f 13 (by decide) (by decide),f 14 (by decide) (by decide),cond_false]
theorem ZHZ (u:U) (c:C) (a:A):∃ b,ZQ u c a=some b∧(b=true→actOK u c a):=by
 by_cases h:1≤a.1∧a.1≤14
 ·obtain ⟨k,T,X,Y,G,N,op,nx,el⟩:=a
  have h1:k=1∨k=2∨k=3∨k=4∨k=5∨k=6∨k=7∨k=8∨k=9∨k=10∨k=11∨k=12∨k=13∨k=14:=by simp only at h;omega
  rcases h1 with rfl | rfl | rfl | rfl | rfl | rfl | rfl | rfl | rfl | rfl | rfl | rfl | rfl | rfl
  ·exact ZTR ..
  ·exact ZTS ..
  ·exact ZTT ..
  ·exact ZTU ..
  ·exact ZTV ..
  ·exact ZTW ..
  ·exact ZTX ..
  ·exact ZTY ..
  ·exact ZTZ ..
  ·exact ZSd ..
  ·exact ZSe ..
  ·exact ZSf ..
  ·exact ZSg ..
  ·exact ZSh ..
 ·exact ⟨false,ZWY u c a h,fun k=>nomatch k⟩
theorem VG {α Y:Type} {f:Nat→Unit→α→Option (Unit⊕Y)} {fin:Unit→Option Y} {p:Nat→α→Bool} {o:Y}:∀ (l:List α) (i:Nat),(∀ j d,l[j]? = some d→f (i+j) () d=bif p (i+j) d then some (.inl ()) else some (.inr o))→
  Zq f fin i l ()=bif allIx p i l then fin () else some o
 | [],i,_=>rfl
 | d::r,i,h=>by
  have k:=VG (fin:=fin) r (i+1) fun j d hd=>by
   have:=h (j+1) d hd
   rwa [show i+(j+1)=i+1+j by omega] at this
  have h0:=h 0 d rfl
  rw [Nat.add_zero] at h0
  simp only [Zq,allIx,h0]
  cases p i d
  ·rfl
  ·exact k
theorem Zle {α:Type} {p:Nat→α→Bool}:∀ {l:List α} {i:Nat},allIx p i l=true↔∀ j d,l[j]? = some d→p (i+j) d=true
 | [],i=>by simp [allIx]
 | d::r,i=>by
  rw [allIx,Bool.and_eq_true,Zle]
  constructor
  ·rintro ⟨h,k⟩ j e hj
   cases j with
   | zero=>cases hj;exact h
   | succ j=>have:=k j e hj;rwa [show i+1+j=i+(j+1) by omega] at this
  ·intro k
   refine ⟨by have:=k 0 d rfl;rwa [Nat.add_zero] at this,fun j e hj=>?_⟩
   have:=k (j+1) e hj
   rwa [show i+(j+1)=i+1+j by omega] at this
theorem ZKe {α:Type} {p:α→Bool} {l:List α} (h:allIx (fun _ d=>p d) 0 l=true):∀ d∈l,p d=true:=by
 rw [ZoT] at h
 exact List.all_eq_true.1 h
def actB (u:U) (c:C) (a:A):Bool:=(ZQ u c a).getD false
theorem ZP6 (u:U) (c:C) (a:A):ZQ u c a=some (actB u c a):=by
 obtain ⟨b,h,_⟩:=ZHZ u c a
 unfold actB
 rw [h];rfl
theorem ZVo {u:U} {c:C} {a:A} (h:actB u c a=true):actOK u c a:=by
 obtain ⟨b,h1,h2⟩:=ZHZ u c a
 rw [ZP6] at h1
 cases h1
 exact h2 h
def codeB (u:U) (c:C):Bool:=inB c.1 41 && !decide ((c.2.length:Int)<1) && !decide ((c.2.length:Int)>60)&&(c.2[c.2.length - 1]?).elim false (fun a=>a.1==14)&&allIx (fun _ a=>actB u c a) 0 c.2
theorem l6 (s5:Int) (u:U) (c:C) (hl:c.2.length<9223372036854775807):Zan (s5,(c.2.length:Int),0,u.1,u.2.1,u.2.2.1,u.2.2.2,c.1,c.2) =
  bif allIx (fun _ a=>actB u c a) 0 c.2 then some (.inl (s5,u.1,u.2.1,u.2.2.1,u.2.2.2)) else some (.inr (false,s5,u.1,u.2.1,u.2.2.1,u.2.2.2)):=by
 rw [ZE1 s5 u.1 u.2.1 u.2.2.1 u.2.2.2 c.1 c.2 () hl]
 unfold Zkt
 rw [VG (p:=fun _ a=>actB u c a) (o:=.inr (false,s5,u.1,u.2.1,u.2.2.1,u.2.2.2)) c.2 0 fun j d hd=>?_]
 ·rfl
 ·unfold Zf4 ZlU
  simp only [ZP6,Zc]
  cases actB u c d<;>rfl
theorem l4 (u:U) (hl:∀ c∈u.2.2.2,c.2.length<9223372036854775807) (hn:u.2.2.2.length<9223372036854775807):Zc2 (0,u.1,u.2.1,u.2.2.1,u.2.2.2)=bif allIx (fun _ c=>codeB u c) 0 u.2.2.2 then some (.inl ()) else some (.inr false):=by
 unfold Zc2
 refine (Zs u.2.2.2 (fun i (_:Unit)=>(((i:Int),u.1,u.2.1,u.2.2.1,u.2.2.2):Int×List Int×List Int×Int×List C)) (fun i _ c=>bif codeB u c then some (.inl ()) else some (.inr (.inr false))) (fun _=>some (.inl ())) ?_ ?_ () (by unfold Zr;omega)).trans ?_
 ·intro i s d hi hd
  have hm:=hl d (mG0 hd)
  have e1:decide ((i:Int)<(u.2.2.2.length:Int))=true:=dT0 (by omega)
  have e2:decide (0≤(i:Int))=true:=dT0 (by omega)
  have e3:Int.toNat (i:Int)=i:=tN0 i
  have e4:=Zu hi (Nat.le_of_lt hn)
  show ZbX (i:Int) u.1 u.2.1 u.2.2.1 u.2.2.2=upd _ (bif codeB u d then some (.inl ()) else some (.inr (.inr false)))
  unfold ZbX Zi
  simp only [e1,e2,e3,hd,cond_true,Zc,Jq]
  have q:=l6 (i:Int) u d hm
  unfold codeB
  cases inB d.1 41
  ·rfl
  by_cases h1:(d.2.length:Int)<1
  ·rw [dT0 h1];rfl
  by_cases h2:(d.2.length:Int)>60
  ·rw [dF0 h1,dT0 h2];rfl
  rw [dF0 h1,dF0 h2]
  have e5:IntKind.i64.wrap ((d.2.length:Int) - 1)=((d.2.length - 1:Nat):Int):=by rw [ZjP (by omega) (by omega)];omega
  rw [e5]
  have e6:decide (0≤((d.2.length - 1:Nat):Int))=true:=dT0 (by omega)
  rw [e6,tN0]
  obtain ⟨a,ha⟩:∃ a,d.2[d.2.length - 1]? = some a:=⟨d.2[d.2.length - 1]'(by omega),List.getElem?_eq_getElem _⟩
  simp only [cond_true,cond_false,Bool.not_true,Bool.not_false,Bool.true_and,ha,Zc,Option.elim_some]
  cases h3:a.1==14
  ·rw [show (a.1 !=14)=true by simp [bne,h3]];rfl
  ·rw [show (a.1 !=14)=false by simp [bne,h3]]
   simp only [cond_false,Bool.true_and]
   have q2:Zan ((i:Int),(d.2.length:Int),0,u.1,u.2.1,u.2.2.1,u.2.2.2,d)=_:=q
   rw [q2]
   cases allIx (fun _ a=>actB u d a) 0 d.2
   ·rfl
   ·simp only [cond_true,Zc,Sum.elim_inl,e4];rfl
 ·intro s
  show ZbX (u.2.2.2.length:Int) u.1 u.2.1 u.2.2.1 u.2.2.2=_
  unfold ZbX
  rw [show decide ((u.2.2.2.length:Int)<(u.2.2.2.length:Int))=false from dF0 (by omega)]
  rfl
 ·rw [VG (p:=fun _ c=>codeB u c) (o:=.inr false) u.2.2.2 0 fun j d hd=>rfl]
theorem l0 (u:U) (hn:u.1.length<9223372036854775807):Zc0 (0,u)=bif u.1.all fitB then some (.inl u) else some (.inr (false,u)):=by
 have:=ZEZ u.2.1 u.2.2.1 u.2.2.2 u.1 () hn
 refine this.trans ?_
 unfold Zkr
 rw [VG (p:=fun _ a=>fitB a) (o:=.inr (false,u.1,u.2.1,u.2.2.1,u.2.2.2)) u.1 0 fun j d hd=>?_,ZoT]
 ·rfl
 ·unfold Zf2 Zj
  simp only [Qc,Zc]
  cases fitB d<;>rfl
theorem l2 (u:U) (hn:u.2.1.length<9223372036854775807):Zc1 (0,u)=bif u.2.1.all (fun n=>!decide (n<1) && !decide (n>16)) then some (.inl u) else some (.inr (false,u)):=by
 have:=ZE0 u.1 u.2.2.1 u.2.2.2 u.2.1 () hn
 refine this.trans ?_
 unfold Zks
 rw [VG (p:=fun _ n=>!decide (n<1) && !decide (n>16)) (o:=.inr (false,u.1,u.2.1,u.2.2.1,u.2.2.2)) u.2.1 0 fun j d hd=>?_,ZoT]
 ·rfl
 ·unfold Zf3
  cases decide (d<1)
  ·cases decide (d>16)<;>rfl
  ·rfl
structure codeOK (u:U) (c:C):Prop where
 v:0≤c.1∧c.1≤40
 n:1≤c.2.length∧c.2.length≤60
 e:∃ a,c.2[c.2.length - 1]? = some a∧a.1=14
 a:∀ a∈c.2,actOK u c a
structure unitOK (u:U):Prop where
 g:u.1.length≤6
 a:u.2.1.length≤3
 m:0≤u.2.2.1∧u.2.2.1≤6
 t:1≤u.2.2.2.length∧u.2.2.2.length≤4
 gs:∀ n∈u.1,fitB n=true
 ars:∀ n∈u.2.1,1≤n∧n≤16
 ts:∀ c∈u.2.2.2,codeOK u c
theorem ZT6 {u:U} {c:C} (h:codeB u c=true):codeOK u c:=by
 unfold codeB at h
 simp only [Bool.and_eq_true,Bool.not_eq_true',decide_eq_false_iff_not,inB,decide_eq_true_eq] at h
 obtain ⟨⟨⟨⟨h1,h2⟩,h3⟩,h4⟩,h5⟩:=h
 refine ⟨by omega,by omega,?_,fun a ha=>ZVo (ZKe h5 a ha)⟩
 cases q:c.2[c.2.length - 1]? with
 | none=>rw [q] at h4;cases h4
 | some a=>rw [q] at h4;exact ⟨a,rfl,by simpa using h4⟩
def sizeU (u:U):Prop:=u.1.length<9223372036854775807∧u.2.1.length<9223372036854775807∧u.2.2.2.length<9223372036854775807∧∀ c∈u.2.2.2,c.2.length<9223372036854775807
theorem ZSZ (u:U) (hs:sizeU u):∃ b,ZtQ u=some b∧(b=true→unitOK u):=by
 obtain ⟨s1,s2,s3,s4⟩:=hs
 unfold ZtQ Zi
 simp only [Jq,Zc,l0 u s1]
 by_cases h1:(u.1.length:Int)>6
 ·rw [dT0 h1];exact ⟨_,rfl,fun k=>nomatch k⟩
 by_cases h2:(u.2.1.length:Int)>3
 ·rw [dF0 h1,dT0 h2];exact ⟨_,rfl,fun k=>nomatch k⟩
 cases h3:inB u.2.2.1 7
 ·rw [dF0 h1,dF0 h2];exact ⟨_,rfl,fun k=>nomatch k⟩
 by_cases h4:(u.2.2.2.length:Int)<1
 ·rw [dF0 h1,dF0 h2,dT0 h4];exact ⟨_,rfl,fun k=>nomatch k⟩
 by_cases h5:(u.2.2.2.length:Int)>4
 ·rw [dF0 h1,dF0 h2,dF0 h4,dT0 h5];exact ⟨_,rfl,fun k=>nomatch k⟩
 rw [dF0 h1,dF0 h2,dF0 h4,dF0 h5]
 simp only [cond_true,cond_false,Bool.not_true,Bool.not_false]
 cases h6:u.1.all fitB
 ·exact ⟨_,rfl,fun k=>nomatch k⟩
 simp only [cond_true,Zc,Sum.elim_inl,l2 u s2]
 cases h7:u.2.1.all fun n=>!decide (n<1) && !decide (n>16)
 ·exact ⟨_,rfl,fun k=>nomatch k⟩
 simp only [cond_true,Zc,Sum.elim_inl]
 have q:=l4 u s4 s3
 have q2:Zc2 (0,u)=_:=q
 rw [q2]
 cases h8:allIx (fun _ c=>codeB u c) 0 u.2.2.2
 ·exact ⟨_,rfl,fun k=>nomatch k⟩
 refine ⟨_,rfl,fun _=>?_⟩
 simp only [inB,Bool.and_eq_true,decide_eq_true_eq] at h3
 refine ⟨by omega,by omega,by omega,by omega,List.all_eq_true.1 h6,fun n hn=>?_,fun c hc=>ZT6 (ZKe h8 c hc)⟩
 have:=List.all_eq_true.1 h7 n hn
 simp only [Bool.and_eq_true,Bool.not_eq_true',decide_eq_false_iff_not] at this
 omega
abbrev Ht:=(Int×Int×Int×(List Int)×(List Int)×Int×(List C))
abbrev JD:=((List Int)×(List Int)×Int×(List C))
abbrev JF:=(Bool×(List Int)×(List Int)×Int×(List C))
def W7 (s1 s5 s6:Int) (b0 b0_1:List Int) (b0_2:Int) (b0_3:List C):Option ((Int×Int×Int×(List Int)×(List Int)×Int×(List C))⊕(((List Int)×(List Int)×Int×(List C))⊕(Bool×(List Int)×(List Int)×Int×(List C)))):=bif decide (s6<(b0_3.length:Int)) then bif decide (0≤s6) then Za b0_3[s6.toNat]? none fun d9=>bif decide (IntKind.i64.wrap (s5+(List.length d9.2:Int))>s1) then some (.inr (.inr (true,b0,b0_1,b0_2,b0_3))) else some (.inl (s1,IntKind.i64.wrap (s5+(List.length d9.2:Int)),IntKind.i64.wrap (s6+1),b0,b0_1,b0_2,b0_3)) else none else some (.inr (.inl (b0,b0_1,b0_2,b0_3)))
def ZnI:Ht→Option (Ht⊕(JD⊕JF)):=fun (a,b,c,d,e,f,g)=>W7 a b c d e f g
def ZaU (x:Ht):Option (JD⊕JF):=Zn ZnI Zr x
def Zve (a0:U) (a1:Int):Option Bool:=bif decide ((List.length a0.2.2.2:Int)>4) then some true else bif decide ((List.length a0.1:Int)>10) then some true else bif decide ((List.length a0.2.1:Int)>10) then some true else Za (ZaU (a1,0,0,a0)) none fun d4=>Sum.elim (fun e5=>Za (ZtF (e5,())) none fun d6=>some !d6) (fun e5=>some e5.1) d4
def ZoA (x:U×(Int×Unit)):Option Bool:=Zve x.1 x.2.1
def YG (s1:Int) (b0 b0_1:List Int) (b0_2:Int) (b0_3:List C) (i:Nat) (s5:Int) (d:C):Option (Int⊕(JD⊕JF)):=
 bif decide (IntKind.i64.wrap (s5+(↑(List.length d.2):Int))>s1) then
  some (.inr (.inr (true,b0,b0_1,b0_2,b0_3)))
 else some (.inl (IntKind.i64.wrap (s5+(↑(List.length d.2):Int))))
def Zdx (s1:Int) (b0 b0_1:List Int) (b0_2:Int) (b0_3:List C) (s5:Int):Option (JD⊕JF):=
 some (.inl (b0,b0_1,b0_2,b0_3))
abbrev ZBP (s1:Int) (b0 b0_1:List Int) (b0_2:Int) (b0_3:List C) (i:Nat) (s:Int):Ht:=(s1,s,(i:Int),b0,b0_1,b0_2,b0_3)
def ZiG (s1:Int) (b0 b0_1:List Int) (b0_2:Int) (b0_3:List C) (s:Int):Option (JD⊕JF):=Zq (fun i s d=>YG s1 b0 b0_1 b0_2 b0_3 i s d) (fun s=>Zdx s1 b0 b0_1 b0_2 b0_3 s) 0 b0_3 s
theorem ZBE (s1:Int) (b0 b0_1:List Int) (b0_2:Int) (b0_3:List C) (s:Int) (hl:b0_3.length<9223372036854775807):ZaU (s1,s,0,b0,b0_1,b0_2,b0_3)=ZiG s1 b0 b0_1 b0_2 b0_3 s:=by
 unfold ZaU ZiG
 refine Zs b0_3 (ZBP s1 b0 b0_1 b0_2 b0_3) _ _ ?_ ?_ s (by unfold Zr;omega)
 ·intro i s d hi hd
  have e1:decide ((i:Int)<(b0_3.length:Int))=true:=dT0 (by omega)
  have e2:decide (0≤(i:Int))=true:=dT0 (by omega)
  have e3:Int.toNat (i:Int)=i:=tN0 i
  have e4:=Zu hi (Nat.le_of_lt hl)
  show W7 (s1) (s) ((i:Int)) (b0) (b0_1) (b0_2) (b0_3)=upd _ (YG s1 b0 b0_1 b0_2 b0_3 i s d)
  unfold W7 YG
  simp only [e1,e2,e3,e4,hd,cond_true,cond_false,Zc,ZD,ZG,ZE,ZK,ZL,ZF]
 ·intro s
  have e1:decide ((b0_3.length:Int)<(b0_3.length:Int))=false:=dF0 (by omega)
  show W7 (s1) (s) ((b0_3.length:Int)) (b0) (b0_1) (b0_2) (b0_3)=_
  unfold W7 Zdx
  rw [e1]
  rfl
def Zvg (a0:En):Option Int:=bif a0.2.1 then some 1 else some 0
def Zky (x:En×Unit):Option Int:=Zvg x.1
abbrev Vx:=(Int×(List Int)×(List Int))
abbrev ZaD:=Unit
abbrev ZaE:=Int
def Zlu (s7:Int) (b0 b1:List Int):Option ((Int×(List Int)×(List Int))⊕(Unit⊕Int)):=bif decide (s7<4) then bif decide (0≤s7) then Za b0[s7.toNat]? none fun d5=>Za b0[s7.toNat]? none fun d6=>bif decide (0≤s7) then Za b1[s7.toNat]? none fun d7=>Za b1[s7.toNat]? none fun d8=>bif decide (d6<d8) then some (.inr (.inr (-1))) else bif decide (0≤s7) then Za b0[s7.toNat]? none fun d9=>Za b0[s7.toNat]? none fun d10=>bif decide (0≤s7) then Za b1[s7.toNat]? none fun d11=>Za b1[s7.toNat]? none fun d12=>bif decide (d10>d12) then some (.inr (.inr 1)) else some (.inl (IntKind.i64.wrap (s7+1),b0,b1)) else none else none else none else none else some (.inr (.inl PUnit.unit))
def Km:Vx→Option (Vx⊕(ZaD⊕ZaE)):=fun (a,b,c)=>Zlu a b c
def Zb9 (x:Vx):Option (ZaD⊕ZaE):=Zn Km Zr x
def Zp6 (a0 a1:En):Option Int:=Za (Zky (a0,())) none fun d4=>Za (Zky (a1,())) none fun d5=>Za (Zb9 (0,[a0.1,d4,a0.2.2.1,a0.2.2.2.1],[a1.1,d5,a1.2.2.1,a1.2.2.2.1])) none fun d6=>Sum.elim (fun e7=>some 0) (fun e7=>some e7) d6
def QW (x:En×(En×Unit)):Option Int:=Zp6 x.1 x.2.1
abbrev Wr:=((List En)×Int)
abbrev J4:=Unit
abbrev J5:=Bool
def Za8 (s0:List En) (s3:Int):Option (((List En)×Int)⊕(Unit⊕Bool)):=bif decide (s3<(s0.length:Int)) then bif decide (0≤s3) then Za s0[s3.toNat]? none fun d4=>Za (Zg1 (d4.2.2.2.2,())) none fun d5=>bif !d5 then some (.inr (.inr false)) else bif decide (0≤s3) then Za s0[s3.toNat]? none fun d6=>bif decide (d6.2.2.2.2.1>d6.2.2.2.2.2) then some (.inr (.inr false)) else bif decide (0≤s3) then Za s0[s3.toNat]? none fun d7=>bif decide (d7.2.2.2.1<0) then some (.inr (.inr false)) else bif decide (0≤s3) then Za s0[s3.toNat]? none fun d8=>bif decide (d8.2.2.2.1≥2147483648) then some (.inr (.inr false)) else bif decide (s3>0) then bif decide (0≤IntKind.i64.wrap (s3 - 1)) then Za s0[(IntKind.i64.wrap (s3 - 1)).toNat]? none fun d9=>bif decide (0≤s3) then Za s0[s3.toNat]? none fun d10=>Za (QW (d9,d10,())) none fun d11=>bif decide (d11≥0) then some (.inr (.inr false)) else some (.inl (s0,IntKind.i64.wrap (s3+1))) else none else none else some (.inl (s0,IntKind.i64.wrap (s3+1))) else none else none else none else none else some (.inr (.inl PUnit.unit))
def ZpN (x:Wr):Option (Wr⊕(J4⊕J5)):=Za8 x.1 x.2
def ZfZ (x:Wr):Option (J4⊕J5):=Zn ZpN Zr x
def ZyA (a0:List En):Option Bool:=Za (ZfZ (a0,0)) none fun d3=>Sum.elim (fun e4=>some true) (fun e4=>some e4) d3
def Zrc (x:(List En)×Unit):Option Bool:=ZyA x.1
def ZeP  (s0:(List En)) (i:Nat)  (d:En):Option (Unit⊕(J4⊕J5)):=
 Za (Zg1 (d.2.2.2.2,())) (none) fun d5=>
  bif !d5 then
  some (.inr (.inr false))
 else bif decide (d.2.2.2.2.1>d.2.2.2.2.2) then
  some (.inr (.inr false))
 else bif decide (d.2.2.2.1<0) then
  some (.inr (.inr false))
 else bif decide (d.2.2.2.1≥2147483648) then
  some (.inr (.inr false))
 else bif decide ((i:Int)>0) then
  bif decide (0≤IntKind.i64.wrap ((i:Int) - 1)) then
  Za s0[(IntKind.i64.wrap ((i:Int) - 1)).toNat]? (none) fun d9=>
  Za (QW (d9,d,())) (none) fun d11=>
  bif decide (d11≥0) then
  some (.inr (.inr false))
 else some (.inl ())
 else none
 else some (.inl ())
def ZoZ  (s0:(List En)):Option (J4⊕J5):=
 some (.inl PUnit.unit)
abbrev ZDH  (s0:(List En)) (i:Nat) (s:Unit):Wr:=(s0,(i:Int))
def ZjL  (s0:(List En)) (s:Unit):Option (J4⊕J5):=Zq (fun i s d=>ZeP  s0 i  d) (fun s=>ZoZ  s0 ) 0 s0 s
theorem ZDB  (s0:(List En)) (s:Unit) (hl:s0.length<9223372036854775807):ZfZ (s0,0)=ZjL  s0 s:=by
 unfold ZfZ ZjL
 refine Zs s0 (ZDH  s0) _ _ ?_ ?_ s (by unfold Zr;omega)
 ·intro i s d hi hd
  have e1:decide ((i:Int)<(s0.length:Int))=true:=dT0 (by omega)
  have e2:decide (0≤(i:Int))=true:=dT0 (by omega)
  have e3:Int.toNat (i:Int)=i:=tN0 i
  have e4:=Zu hi (Nat.le_of_lt hl)
  show Za8 (s0) ((i:Int))=upd _ (ZeP  s0 i  d)
  unfold Za8 ZeP
  simp only [e1,e2,e3,e4,hd,cond_true,cond_false,Zc,ZD,ZG,ZE,ZK,ZL,ZF]
 ·intro s
  have e1:decide ((s0.length:Int)<(s0.length:Int))=false:=dF0 (by omega)
  show Za8 (s0) ((s0.length:Int))=_
  unfold Za8 ZoZ
  rw [e1]
  rfl
def ZkR (a0:U) (a1:Int) (a2:List En):Option Bool:=Za (ZoA (a0,45,())) none fun d4=>bif !d4 then bif decide (a1≥0) then bif decide (a1<(List.length a0.2.2.2:Int)) then bif decide ((a2.length:Int)≤20) then Za (Zrc (a2,())) none fun d5=>some d5 else some false else some false else some false else some false
end
end Go.Proofs.YtbdcblpjemmipaaGreat.Ex
