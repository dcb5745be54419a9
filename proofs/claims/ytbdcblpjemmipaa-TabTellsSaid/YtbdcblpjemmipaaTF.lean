/- A part of the proofs of the laws of tables: TF. -/
import Derived.Test.YtbdcblpjemmipaaTD
import Derived.Test.YtbdcblpjemmipaaTC
import Derived.Test.YtbdcblpjemmipaaRows
import Derived.Test.YtbdcblpjemmipaaTE
import Derived.Test.YtbdcblpjemmipaaTA
namespace Go.Proofs.Ytbdcblpjemmipaa.Ex
set_option linter.unusedSectionVars false
set_option linter.unusedVariables false

inductive Sh where
  | undef | nil | int (k : IntKind) | bool | str | sl (e : Ty) | sln (e : Ty) | dat (t : Ty)
  | ptr (id off : Nat) | row (id : Nat) | eptr (id sz i off : Nat)
  | view (cs : List Sh) (off : Nat) | clo (f : Nat) (first caps : List Sh) | agg (cs : List Sh) | tup (vs : List Sh)

inductive BSh where
  | box (cs : List Sh)
  | row (e : Ty)

section
variable [RT]

mutual
def ShD : Sh → Type
  | .undef => Unit
  | .nil => Unit
  | .int _ => Int
  | .bool => Bool
  | .str => ByteArray
  | .sl e => List (D e)
  | .sln e => List (D e)
  | .dat t => D t
  | .ptr _ _ => Unit
  | .row _ => Unit
  | .eptr _ _ _ _ => Unit
  | .view cs _ => ShDs cs
  | .clo _ a b => ShDs a × ShDs b
  | .agg cs => ShDs cs
  | .tup cs => ShDs cs
def ShDs : List Sh → Type
  | [] => Unit
  | s :: r => ShD s × ShDs r
end

mutual
def mk : (s : Sh) → ShD s → AV
  | .undef, _ => .undef
  | .nil, _ => .nil
  | .int k, n => .int k n
  | .bool, b => .bool b
  | .str, s => .str s
  | .sl e, l => .sl e l
  | .sln e, l => .sl e l
  | .dat t, d => pack t (expand t d)
  | .ptr id off, _ => .ptr id off
  | .row id, _ => .row id
  | .eptr id sz i off, _ => .eptr id sz i off
  | .view cs off, d => .view (mks cs d) off
  | .clo f a b, d => .clo f (mks a d.1) (mks b d.2)
  | .agg cs, d => .agg (mks cs d)
  | .tup cs, d => .tup (mks cs d)
def mks : (s : List Sh) → ShDs s → List AV
  | [], _ => []
  | s :: r, d => mk s d.1 :: mks r d.2
end

def rdInt (k : IntKind) : AV → Option Int
  | .int k' n => if k = k' then some n else none
  | _ => none
def rdBool : AV → Option Bool
  | .bool b => some b
  | _ => none
def datCells (t : Ty) : AV → Option (List AV)
  | .agg cs => bif isSt t then some cs else none
  | .undef => none
  | .tup _ => none
  | v => bif isSt t then none else some [v]
def rdStr : AV → Option ByteArray
  | .str b => some b
  | _ => none
def rdSl (e : Ty) : AV → Option (List (D e))
  | .sl e' l => castL e' e l
  | _ => none
def rdSln (e : Ty) : AV → Option (List (D e))
  | .sl e' l => castL e' e l
  | .nil => some []
  | _ => none
def isUndef : AV → Bool
  | .undef => true
  | _ => false
def isNil : AV → Bool
  | .nil => true
  | _ => false
def isPtr (id off : Nat) : AV → Bool
  | .ptr i o => i.beq id && o.beq off
  | _ => false
def isRow (id : Nat) : AV → Bool
  | .row i => i.beq id
  | _ => false
def isEptr (id sz j off : Nat) : AV → Bool
  | .eptr i s k o => i.beq id && s.beq sz && k.beq j && o.beq off
  | _ => false
def fit (b : Bool) : Option Unit := bif b then some () else none
def viewOf (off : Nat) : AV → Option (List AV)
  | .view cs o => bif o.beq off then some cs else none
  | _ => none
def cloOf (f : Nat) : AV → Option (List AV × List AV)
  | .clo g a b => bif Nat.beq g f then some (a, b) else none
  | _ => none
def aggOf : AV → Option (List AV)
  | .agg cs => some cs
  | _ => none
def tupOf : AV → Option (List AV)
  | .tup cs => some cs
  | _ => none

mutual
def rd : (s : Sh) → AV → Option (ShD s)
  | .undef, v => fit (isUndef v)
  | .nil, v => fit (isNil v)
  | .int k, v => rdInt k v
  | .bool, v => rdBool v
  | .str, v => rdStr v
  | .sl e, v => rdSl e v
  | .sln e, v => rdSln e v
  | .dat t, v => (datCells t v).bind fun cs => collapse t cs
  | .ptr id off, v => fit (isPtr id off v)
  | .row id, v => fit (isRow id v)
  | .eptr id sz i off, v => fit (isEptr id sz i off v)
  | .view cs off, v => (viewOf off v).bind fun vs => rds cs vs
  | .clo f a b, v => (cloOf f v).bind fun p => (rds a p.1).bind fun x => (rds b p.2).map fun y => (x, y)
  | .agg cs, v => (aggOf v).bind fun vs => rds cs vs
  | .tup cs, v => (tupOf v).bind fun vs => rds cs vs
def rds : (s : List Sh) → List AV → Option (ShDs s)
  | [], vs => match vs with
    | [] => some ()
    | _ :: _ => none
  | s :: r, vs => match vs with
    | [] => none
    | v :: w => (rd s v).bind fun x => (rds r w).map fun y => (x, y)
end

mutual
/-- Without data that may be written in several ways. -/
def strict : Sh → Bool
  | .undef => true
  | .nil => true
  | .int _ => true
  | .bool => true
  | .str => true
  | .sl _ => true
  | .sln _ => false
  | .dat _ => false
  | .ptr _ _ => true
  | .row _ => true
  | .eptr _ _ _ _ => true
  | .view cs _ => stricts cs
  | .clo _ a b => stricts a && stricts b
  | .agg cs => stricts cs
  | .tup cs => stricts cs
def stricts : List Sh → Bool
  | [] => true
  | s :: r => strict s && stricts r
end

mutual
/-- Without names. -/
def free : Sh → Bool
  | .undef => true
  | .nil => true
  | .int _ => true
  | .bool => true
  | .str => true
  | .sl _ => true
  | .sln _ => true
  | .dat _ => true
  | .ptr _ _ => false
  | .row _ => false
  | .eptr _ _ _ _ => false
  | .view cs _ => frees cs
  | .clo _ a b => frees a && frees b
  | .agg cs => frees cs
  | .tup cs => frees cs
def frees : List Sh → Bool
  | [] => true
  | s :: r => free s && frees r
end

theorem fit_some {b : Bool} {u : Unit} (e : fit b = some u) : b = true := by
  cases b
  · cases e
  · rfl

mutual
theorem rd_some : ∀ (s : Sh) (v : AV) (d : ShD s), strict s = true → rd s v = some d → v = mk s d
  | .undef, v, d, _, e => by
    have := fit_some e
    cases v <;> first | rfl | cases this
  | .nil, v, d, _, e => by
    have := fit_some e
    cases v <;> first | rfl | cases this
  | .int k, v, d, _, e => by
    simp only [rd] at e
    cases v <;> simp only [rdInt] at e <;> first | cases e | skip
    split at e
    · rename_i h; subst h; cases e; rfl
    · cases e
  | .bool, v, d, _, e => by
    simp only [rd] at e
    cases v <;> simp only [rdBool] at e <;> first | (cases e; rfl) | cases e
  | .str, v, d, _, e => by
    simp only [rd] at e
    cases v <;> simp only [rdStr] at e <;> first | (cases e; rfl) | cases e
  | .sl t, v, d, _, e => by
    simp only [rd] at e
    cases v <;> simp only [rdSl] at e <;> first | cases e | skip
    obtain ⟨rfl, h⟩ := castL_eq e
    simp only at h
    subst h
    rfl
  | .dat t, v, d, h, e => nomatch h
  | .sln t, v, d, h, e => nomatch h
  | .ptr id off, v, d, _, e => by
    have := fit_some e
    cases v <;> simp only [isPtr] at this <;> first | cases this | skip
    simp only [Bool.and_eq_true] at this
    rw [nb_iff.1 this.1, nb_iff.1 this.2]; rfl
  | .row id, v, d, _, e => by
    have := fit_some e
    cases v <;> simp only [isRow] at this <;> first | cases this | skip
    rw [nb_iff.1 this]; rfl
  | .eptr id sz i off, v, d, _, e => by
    have := fit_some e
    cases v <;> simp only [isEptr] at this <;> first | cases this | skip
    simp only [Bool.and_eq_true] at this
    rw [nb_iff.1 this.1.1.1, nb_iff.1 this.1.1.2, nb_iff.1 this.1.2, nb_iff.1 this.2]; rfl
  | .view cs off, v, d, h, e => by
    simp only [rd] at e
    obtain ⟨vs, e1, e2⟩ := Option.bind_eq_some_iff.1 e
    cases v <;> simp only [viewOf] at e1 <;> first | cases e1 | skip
    rename_i c o
    cases ho : Nat.beq o off <;> rw [ho] at e1
    · cases e1
    · cases e1
      rw [nb_iff.1 ho, rds_some cs _ d h e2]; rfl
  | .clo f a b, v, d, h, e => by
    simp only [rd] at e
    obtain ⟨p, e1, e2⟩ := Option.bind_eq_some_iff.1 e
    obtain ⟨x, e3, e4⟩ := Option.bind_eq_some_iff.1 e2
    obtain ⟨y, e5, e6⟩ := Option.map_eq_some_iff.1 e4
    simp only [strict, Bool.and_eq_true] at h
    cases v <;> simp only [cloOf] at e1 <;> first | cases e1 | skip
    rename_i g c1 c2
    cases ho : Nat.beq g f <;> rw [ho] at e1
    · cases e1
    · cases e1
      subst e6
      simp only at e3 e5
      rw [nb_iff.1 ho, rds_some a _ x h.1 e3, rds_some b _ y h.2 e5]; rfl
  | .agg cs, v, d, h, e => by
    simp only [rd] at e
    obtain ⟨vs, e1, e2⟩ := Option.bind_eq_some_iff.1 e
    cases v <;> simp only [aggOf] at e1 <;> first | cases e1 | skip
    rw [rds_some cs _ d h e2]; rfl
  | .tup cs, v, d, h, e => by
    simp only [rd] at e
    obtain ⟨vs, e1, e2⟩ := Option.bind_eq_some_iff.1 e
    cases v <;> simp only [tupOf] at e1 <;> first | cases e1 | skip
    rw [rds_some cs _ d h e2]; rfl
theorem rds_some : ∀ (s : List Sh) (vs : List AV) (d : ShDs s), stricts s = true → rds s vs = some d → vs = mks s d
  | [], vs, d, _, e => by
    cases vs
    · rfl
    · cases e
  | s :: r, vs, d, h, e => by
    simp only [stricts, Bool.and_eq_true] at h
    cases vs with
    | nil => cases e
    | cons v w =>
      simp only [rds] at e
      obtain ⟨x, e1, e2⟩ := Option.bind_eq_some_iff.1 e
      obtain ⟨y, e3, e4⟩ := Option.map_eq_some_iff.1 e2
      subst e4
      rw [rd_some s v x h.1 e1, rds_some r w y h.2 e3]; rfl
end

theorem datCells_cells {t : Ty} {v : AV} {cs : List AV} (e : datCells t v = some cs) : cellsOf v = some cs := by
  unfold datCells at e
  split at e
  · cases h : isSt t <;> rw [h] at e <;> cases e; rfl
  · cases e
  · cases e
  · rename_i v h1 h2 h3
    cases h : isSt t <;> rw [h] at e <;> cases e
    unfold cellsOf
    split <;> simp_all
theorem dat_rep {hdr : Nat → Value} {S : Stb} {t : Ty} {v : AV} {u : Value} {d : D t} (h : VRep hdr S v u) (e : (datCells t v).bind (fun cs => collapse t cs) = some d) : VRep hdr S (pack t (expand t d)) u := by
  obtain ⟨cs, e1, e2⟩ := Option.bind_eq_some_iff.1 e
  have hc := cellsOf_rep h (datCells_cells e1)
  have hd := collapse_rep hc e2
  have hx := pack_rep t (hd.expand (hdr := hdr))
  suffices packV t u.cells.toList = u by rwa [this] at hx
  cases h with
  | agg cs vs hr =>
    cases q : isSt t <;> simp only [datCells, q] at e1
    · cases e1
    · simp [packV, q, Value.cells]
  | undef => cases e1
  | tup => cases e1
  | sl e l v h =>
    cases q : isSt t <;> simp only [datCells, q] at e1
    · cases h <;> simp [packV, q, Value.cells]
    · cases e1
  | _ =>
    cases q : isSt t <;> simp only [datCells, q] at e1
    · simp [packV, q, Value.cells]
    · cases e1

mutual
theorem rd_rep {hdr : Nat → Value} {S : Stb} : ∀ (s : Sh) (v : AV) (d : ShD s) (u : Value), rd s v = some d → VRep hdr S v u → VRep hdr S (mk s d) u
  | .dat t, v, d, u, e, h => dat_rep h e
  | .sln t, v, d, u, e, h => by
    simp only [rd] at e
    cases v <;> simp only [rdSln] at e <;> first | cases e | skip
    · cases h with | nil ao => exact .sl _ _ _ (.slNil _ ao 0)
    · obtain ⟨rfl, hh⟩ := castL_eq e
      simp only at hh
      subst hh
      exact h
  | .undef, v, d, u, e, h => by have := rd_some .undef v d rfl e; rwa [← this]
  | .nil, v, d, u, e, h => by have := rd_some .nil v d rfl e; rwa [← this]
  | .int k, v, d, u, e, h => by have := rd_some (.int k) v d rfl e; rwa [← this]
  | .bool, v, d, u, e, h => by have := rd_some .bool v d rfl e; rwa [← this]
  | .str, v, d, u, e, h => by have := rd_some .str v d rfl e; rwa [← this]
  | .sl t, v, d, u, e, h => by have := rd_some (.sl t) v d rfl e; rwa [← this]
  | .ptr a b, v, d, u, e, h => by have := rd_some (.ptr a b) v d rfl e; rwa [← this]
  | .row a, v, d, u, e, h => by have := rd_some (.row a) v d rfl e; rwa [← this]
  | .eptr a b c g, v, d, u, e, h => by have := rd_some (.eptr a b c g) v d rfl e; rwa [← this]
  | .view cs off, v, d, u, e, h => by
    simp only [rd] at e
    obtain ⟨vs, e1, e2⟩ := Option.bind_eq_some_iff.1 e
    cases v <;> simp only [viewOf] at e1 <;> first | cases e1 | skip
    rename_i c o
    cases ho : Nat.beq o off <;> rw [ho] at e1
    · cases e1
    · cases e1
      obtain rfl := nb_iff.1 ho
      cases h with | view _ us _ b o2 cells hS hc hr => exact .view _ us _ b o2 cells hS hc (rds_rep cs _ d us e2 hr)
  | .clo f a b, v, d, u, e, h => by
    simp only [rd] at e
    obtain ⟨p, e1, e2⟩ := Option.bind_eq_some_iff.1 e
    obtain ⟨x, e3, e4⟩ := Option.bind_eq_some_iff.1 e2
    obtain ⟨y, e5, e6⟩ := Option.map_eq_some_iff.1 e4
    cases v <;> simp only [cloOf] at e1 <;> first | cases e1 | skip
    rename_i g c1 c2
    cases ho : Nat.beq g f <;> rw [ho] at e1
    · cases e1
    · cases e1
      subst e6
      obtain rfl := nb_iff.1 ho
      cases h with | clo _ _ _ fs cs h1 h2 => exact .clo _ _ _ fs cs (rds_rep a _ x fs e3 h1) (rds_rep b _ y cs e5 h2)
  | .agg cs, v, d, u, e, h => by
    simp only [rd] at e
    obtain ⟨vs, e1, e2⟩ := Option.bind_eq_some_iff.1 e
    cases v <;> simp only [aggOf] at e1 <;> first | cases e1 | skip
    cases h with | agg _ us hr => exact .agg _ us (rds_rep cs _ d us e2 hr)
  | .tup cs, v, d, u, e, h => by
    simp only [rd] at e
    obtain ⟨vs, e1, e2⟩ := Option.bind_eq_some_iff.1 e
    cases v <;> simp only [tupOf] at e1 <;> first | cases e1 | skip
    cases h with | tup _ us hr => exact .tup _ us (rds_rep cs _ d us e2 hr)
theorem rds_rep {hdr : Nat → Value} {S : Stb} : ∀ (s : List Sh) (vs : List AV) (d : ShDs s) (us : List Value), rds s vs = some d → VReps hdr S vs us → VReps hdr S (mks s d) us
  | [], vs, d, us, e, h => by
    cases vs
    · exact h
    · cases e
  | s :: r, vs, d, us, e, h => by
    cases h with
    | nil => cases e
    | cons v u w us h1 h2 =>
      simp only [rds] at e
      obtain ⟨x, e1, e2⟩ := Option.bind_eq_some_iff.1 e
      obtain ⟨y, e3, e4⟩ := Option.map_eq_some_iff.1 e2
      subst e4
      exact .cons _ _ _ _ (rd_rep s v x u e1 h1) (rds_rep r w y us e3 h2)
end

mutual
theorem mk_ids : ∀ (s : Sh) (d : ShD s), free s = true → (mk s d).ids = []
  | .dat t, d, _ => pack_ids0 t d
  | .sln t, d, _ => rfl
  | .undef, d, _ => rfl
  | .nil, d, _ => rfl
  | .int k, d, _ => rfl
  | .bool, d, _ => rfl
  | .str, d, _ => rfl
  | .sl t, d, _ => rfl
  | .ptr a b, d, h => nomatch h
  | .row a, d, h => nomatch h
  | .eptr a b c g, d, h => nomatch h
  | .view cs off, d, h => by simp only [mk, AV.ids]; exact mks_ids cs d h
  | .clo f a b, d, h => by
    simp only [free, Bool.and_eq_true] at h
    simp only [mk, AV.ids, mks_ids a d.1 h.1, mks_ids b d.2 h.2]; rfl
  | .agg cs, d, h => by simp only [mk, AV.ids]; exact mks_ids cs d h
  | .tup cs, d, h => by simp only [mk, AV.ids]; exact mks_ids cs d h
theorem mks_ids : ∀ (s : List Sh) (d : ShDs s), frees s = true → AV.idsL (mks s d) = []
  | [], d, _ => rfl
  | s :: r, d, h => by
    simp only [frees, Bool.and_eq_true] at h
    simp only [mks, AV.idsL, mk_ids s d.1 h.1, mks_ids r d.2 h.2]; rfl
end

theorem take1_ids : ∀ (t : Ty) (cs : List AV) (x : D t × List AV), take1 t cs = some x → AV.idsL cs = AV.idsL x.2
  | .int k, cs, x, e => by
    simp only [take1, tInt] at e
    split at e
    · split at e
      · cases e; rfl
      · cases e
    · cases e
  | .bool, cs, x, e => by
    simp only [take1, tBool] at e
    split at e
    · cases e; rfl
    · cases e
  | .str, cs, x, e => by
    simp only [take1, tStr] at e
    split at e
    · cases e; rfl
    · cases e
  | .sl t, cs, x, e => by
    simp only [take1, tSl] at e
    split at e
    · obtain ⟨y, _, e2⟩ := Option.bind_eq_some_iff.1 e
      cases e2; rfl
    · cases e; rfl
    · cases e
  | .mu n, cs, x, e => nomatch e
  | .st f, cs, x, e => take1_ids f cs x e
  | .pair a b, cs, x, e => by
    simp only [take1] at e
    obtain ⟨y, e1, e2⟩ := Option.bind_eq_some_iff.1 e
    obtain ⟨z, e3, e4⟩ := Option.bind_eq_some_iff.1 e2
    cases e4
    exact (take1_ids a cs y e1).trans (take1_ids b y.2 z e3)
theorem collapse_ids {t : Ty} {cs : List AV} {d : D t} (e : collapse t cs = some d) : AV.idsL cs = [] := by
  unfold collapse at e
  split at e
  · rename_i d' h
    exact take1_ids t cs _ h
  · cases e
theorem dat_ids {t : Ty} {v : AV} {d : D t} (e : (datCells t v).bind (fun cs => collapse t cs) = some d) : v.ids = [] := by
  obtain ⟨cs, e1, e2⟩ := Option.bind_eq_some_iff.1 e
  have hc : AV.idsL cs = [] := collapse_ids e2
  unfold datCells at e1
  split at e1
  · cases h : isSt t <;> rw [h] at e1 <;> cases e1; simpa [AV.ids] using hc
  · cases e1
  · cases e1
  · cases h : isSt t <;> rw [h] at e1 <;> cases e1
    simpa [AV.idsL] using hc

mutual
theorem rd_ids : ∀ (s : Sh) (v : AV) (d : ShD s), free s = true → rd s v = some d → v.ids = []
  | .dat t, v, d, _, e => dat_ids e
  | .sln t, v, d, _, e => by
    simp only [rd] at e
    cases v <;> simp only [rdSln] at e <;> first | rfl | (cases e; rfl) | cases e
  | .undef, v, d, _, e => by have := rd_some .undef v d rfl e; rw [this]; rfl
  | .nil, v, d, _, e => by have := rd_some .nil v d rfl e; rw [this]; rfl
  | .int k, v, d, _, e => by have := rd_some (.int k) v d rfl e; rw [this]; rfl
  | .bool, v, d, _, e => by have := rd_some .bool v d rfl e; rw [this]; rfl
  | .str, v, d, _, e => by have := rd_some .str v d rfl e; rw [this]; rfl
  | .sl t, v, d, _, e => by have := rd_some (.sl t) v d rfl e; rw [this]; rfl
  | .ptr a b, v, d, h, e => nomatch h
  | .row a, v, d, h, e => nomatch h
  | .eptr a b c g, v, d, h, e => nomatch h
  | .view cs off, v, d, h, e => by
    simp only [rd] at e
    obtain ⟨vs, e1, e2⟩ := Option.bind_eq_some_iff.1 e
    cases v <;> simp only [viewOf] at e1 <;> first | cases e1 | skip
    rename_i c o
    cases ho : Nat.beq o off <;> rw [ho] at e1
    · cases e1
    · cases e1
      simpa [AV.ids] using rds_ids cs _ d h e2
  | .clo f a b, v, d, h, e => by
    simp only [rd] at e
    obtain ⟨p, e1, e2⟩ := Option.bind_eq_some_iff.1 e
    obtain ⟨x, e3, e4⟩ := Option.bind_eq_some_iff.1 e2
    obtain ⟨y, e5, e6⟩ := Option.map_eq_some_iff.1 e4
    simp only [free, Bool.and_eq_true] at h
    cases v <;> simp only [cloOf] at e1 <;> first | cases e1 | skip
    rename_i g c1 c2
    cases ho : Nat.beq g f <;> rw [ho] at e1
    · cases e1
    · cases e1
      simp only at e3 e5
      simp only [AV.ids, rds_ids a _ x h.1 e3, rds_ids b _ y h.2 e5]; rfl
  | .agg cs, v, d, h, e => by
    simp only [rd] at e
    obtain ⟨vs, e1, e2⟩ := Option.bind_eq_some_iff.1 e
    cases v <;> simp only [aggOf] at e1 <;> first | cases e1 | skip
    simpa [AV.ids] using rds_ids cs _ d h e2
  | .tup cs, v, d, h, e => by
    simp only [rd] at e
    obtain ⟨vs, e1, e2⟩ := Option.bind_eq_some_iff.1 e
    cases v <;> simp only [tupOf] at e1 <;> first | cases e1 | skip
    simpa [AV.ids] using rds_ids cs _ d h e2
theorem rds_ids : ∀ (s : List Sh) (vs : List AV) (d : ShDs s), frees s = true → rds s vs = some d → AV.idsL vs = []
  | [], vs, d, _, e => by
    cases vs
    · rfl
    · cases e
  | s :: r, vs, d, h, e => by
    simp only [frees, Bool.and_eq_true] at h
    cases vs with
    | nil => cases e
    | cons v w =>
      simp only [rds] at e
      obtain ⟨x, e1, e2⟩ := Option.bind_eq_some_iff.1 e
      obtain ⟨y, e3, e4⟩ := Option.map_eq_some_iff.1 e2
      simp only [AV.idsL, rd_ids s v x h.1 e1, rds_ids r w y h.2 e3]; rfl
end
end
end Go.Proofs.Ytbdcblpjemmipaa.Ex

namespace Go.Proofs.Ytbdcblpjemmipaa.Ex
set_option linter.unusedSectionVars false
set_option linter.unusedVariables false
section
variable [RT] {P : Program} {cx : Ctx} {cal : FuncId → List AV → Prog AV}

def BShD : BSh → Type
  | .box cs => ShDs cs
  | .row e => List (D e)
def mkB : (s : BSh) → BShD s → Blk
  | .box cs, d => .box (mks cs d)
  | .row e, d => .row e d
def rdRow (e : Ty) : Blk → Option (List (D e))
  | .row e' l => castL e' e l
  | _ => none
def rdBox : Blk → Option (List AV)
  | .box cs => some cs
  | _ => none
def rdB : (s : BSh) → Blk → Option (BShD s)
  | .box cs, b => (rdBox b).bind fun vs => rds cs vs
  | .row e, b => rdRow e b
def TShD : List (Nat × Sh) → Type
  | [] => Unit
  | s :: r => ShD s.2 × TShD r
def mkT : (s : List (Nat × Sh)) → TShD s → Tm
  | [], _ => []
  | s :: r, d => (s.1, mk s.2 d.1) :: mkT r d.2
def rdT : (s : List (Nat × Sh)) → Tm → Option (TShD s)
  | [], T => match T with
    | [] => some ()
    | _ :: _ => none
  | s :: r, T => match T with
    | [] => none
    | x :: T => bif x.1.beq s.1 then (rd s.2 x.2).bind fun a => (rdT r T).map fun b => (a, b) else none
def HShD : List (Nat × BSh) → Type
  | [] => Unit
  | s :: r => BShD s.2 × HShD r
def mkH : (s : List (Nat × BSh)) → HShD s → List (Nat × Blk)
  | [], _ => []
  | s :: r, d => (s.1, mkB s.2 d.1) :: mkH r d.2
def rdH : (s : List (Nat × BSh)) → List (Nat × Blk) → Option (HShD s)
  | [], T => match T with
    | [] => some ()
    | _ :: _ => none
  | s :: r, T => match T with
    | [] => none
    | x :: T => bif x.1.beq s.1 then (rdB s.2 x.2).bind fun a => (rdH r T).map fun b => (a, b) else none

structure StS where
  T : List (Nat × Sh)
  H : List (Nat × BSh)
  c : Nat
def StD (s : StS) : Type := TShD s.T × HShD s.H
def rdS (s : StS) (T : Tm) (h : Hp) : Option (StD s) := (rdT s.T T).bind fun a => (rdH s.H h.blks).bind fun b => bif h.c.beq s.c then some (a, b) else none
def sT (s : StS) (d : StD s) : Tm := mkT s.T d.1
def sH (s : StS) (d : StD s) : Hp := ⟨mkH s.H d.2, s.c⟩
def strictT : List (Nat × Sh) → Bool
  | [] => true
  | s :: r => strict s.2 && strictT r
def strictB : BSh → Bool
  | .box cs => stricts cs
  | .row _ => true
def strictH : List (Nat × BSh) → Bool
  | [] => true
  | s :: r => strictB s.2 && strictH r
def strictS (s : StS) : Bool := strictT s.T && strictH s.H

theorem rdB_some {s : BSh} {b : Blk} {d : BShD s} (hs : strictB s = true) (e : rdB s b = some d) : b = mkB s d := by
  cases s with
  | box cs =>
    simp only [rdB] at e
    obtain ⟨vs, e1, e2⟩ := Option.bind_eq_some_iff.1 e
    cases b <;> simp only [rdBox] at e1 <;> cases e1
    rw [rds_some cs _ d hs e2]; rfl
  | row t =>
    simp only [rdB] at e
    cases b <;> simp only [rdRow] at e <;> first | cases e | skip
    obtain ⟨rfl, h⟩ := castL_eq e
    simp only at h
    subst h
    rfl
theorem rdT_some : ∀ {s : List (Nat × Sh)} {T : Tm} {d : TShD s}, strictT s = true → rdT s T = some d → T = mkT s d
  | [], T, d, _, e => by
    cases T
    · rfl
    · cases e
  | s :: r, T, d, h, e => by
    simp only [strictT, Bool.and_eq_true] at h
    cases T with
    | nil => cases e
    | cons x T =>
      simp only [rdT] at e
      cases hb : Nat.beq x.1 s.1 <;> rw [hb] at e
      · cases e
      · obtain ⟨a, e1, e2⟩ := Option.bind_eq_some_iff.1 e
        obtain ⟨b, e3, e4⟩ := Option.map_eq_some_iff.1 e2
        subst e4
        obtain ⟨n, v⟩ := x
        simp only at hb e1
        rw [nb_iff.1 hb, rd_some _ _ a h.1 e1, rdT_some h.2 e3]; rfl
theorem rdH_some : ∀ {s : List (Nat × BSh)} {T : List (Nat × Blk)} {d : HShD s}, strictH s = true → rdH s T = some d → T = mkH s d
  | [], T, d, _, e => by
    cases T
    · rfl
    · cases e
  | s :: r, T, d, h, e => by
    simp only [strictH, Bool.and_eq_true] at h
    cases T with
    | nil => cases e
    | cons x T =>
      simp only [rdH] at e
      cases hb : Nat.beq x.1 s.1 <;> rw [hb] at e
      · cases e
      · obtain ⟨a, e1, e2⟩ := Option.bind_eq_some_iff.1 e
        obtain ⟨b, e3, e4⟩ := Option.map_eq_some_iff.1 e2
        subst e4
        obtain ⟨n, v⟩ := x
        simp only at hb e1
        rw [nb_iff.1 hb, rdB_some h.1 e1, rdH_some h.2 e3]; rfl
theorem rdS_some {s : StS} {T : Tm} {h : Hp} {d : StD s} (hs : strictS s = true) (e : rdS s T h = some d) : T = sT s d ∧ h = sH s d := by
  unfold rdS at e
  simp only [strictS, Bool.and_eq_true] at hs
  obtain ⟨a, e1, e2⟩ := Option.bind_eq_some_iff.1 e
  obtain ⟨b, e3, e4⟩ := Option.bind_eq_some_iff.1 e2
  cases hb : Nat.beq h.c s.c <;> rw [hb] at e4
  · cases e4
  · cases e4
    refine ⟨rdT_some hs.1 e1, ?_⟩
    obtain ⟨bs, c⟩ := h
    simp only at e3 hb
    rw [rdH_some hs.2 e3, nb_iff.1 hb]; rfl

def iterK (base : Nat) (keep : Nat → List Nat) (f : Tm → Prog (Nat × Tm)) : Nat → Tm → Prog (Nat × Tm)
  | 0, _ => .fail
  | n + 1, T => (f T).bind fun e => .norm base (keep e.1) e.2 fun T' => match e.1 with
    | 0 => iterK base keep f n T'
    | _ => .ret (e.1, T')

theorem iterK_sound (hcx : TabOk P cx.tab) (hcmp : CmpsOk P cx.tab) (hcal : CalOk P cal) (hmd : P.follows .mixedOrders = true) {id n : Nat} {kp : List Nat} {keep : Nat → List Nat} {x : Code} {b : Nat}
    (hl : ∀ q ∈ loopsOf b x, ∀ p, cx.lps id q.1 = some p → SoundC P n (.loop q.2) p) (m : Nat) :
    SoundC P n (.loop x) fun base T => .norm base (keep 0) T fun T1 => iterK base keep (evC cx cal ⟨id, n, kp, base⟩ b x) m T1 := by
  intro tr ok hdr0 S0 h0 w0 a0 h T hdr S a w f e T' h' f' Q l hn ev hO hK
  obtain ⟨T1, h1, hdr1, rfl, l1, ev0⟩ := l.normed ev
  refine wp_loop_rounds m ?_
  clear l ev
  have ev := ev0
  clear ev0
  induction m generalizing h1 T1 hdr1 S a w f with
  | zero => exact (ex_fail ev).elim
  | succ m ih =>
    simp only [iterK] at ev
    obtain ⟨⟨e2, T2⟩, h2, f2, ev1, ev2⟩ := ex_bind_some ev
    rw [rounds_succ]
    refine evC_sound (h0 := h0) (a0 := a0) hcx hcmp hcal hmd (fx := ⟨id, n, kp, h0.c⟩) x b hl h1 T1 hdr1 S a w f e2 T2 h2 f2 _ rfl hn l1 ev1 (fun id k => (hO id k).less fun ht => by cases ht) fun hdr3 S3 a3 w3 l3 => ?_
    obtain ⟨T4, h4, hdr4, _, l4, e4⟩ := l3.normed ev2
    match e2, e4 with
    | 0, e4 => exact ih S3 a3 w3 f2 T4 h4 hdr4 l4 e4
    | 1, e4 => cases ex_ret e4; exact hK _ _ _ _ l4
    | k + 2, e4 => cases ex_ret e4; exact hK _ _ _ _ l4

def roundK {R : Type} (base : Nat) (keep : Nat → List Nat) (f : Tm → Prog (Nat × Tm)) (T : Tm) (h : Hp) (K : Nat → Tm → Hp → Option R) : Option R :=
  run ((f T).bind fun e => .norm base (keep e.1) e.2 fun T' => .ret (e.1, T')) false h ⟨[], []⟩ fun r h _ => K r.1 r.2 h

theorem roundK_eq {R : Type} (base : Nat) (keep : Nat → List Nat) (f : Tm → Prog (Nat × Tm)) (T : Tm) (h : Hp) (K : Nat → Tm → Hp → Option R) :
    roundK base keep f T h K = (roundK base keep f T h fun c T h => some (c, T, h)).bind fun r => K r.1 r.2.1 r.2.2 := by
  unfold roundK
  rw [run_ex]
  conv => rhs; rw [run_ex]
  rw [Option.bind_assoc]
  rfl

theorem iterK_go (base : Nat) (keep : Nat → List Nat) (f : Tm → Prog (Nat × Tm)) (n : Nat) (T : Tm) (h : Hp) :
    go (iterK base keep f (n + 1) T) h = roundK base keep f T h fun e T' h' => match e with
      | 0 => go (iterK base keep f n T') h'
      | _ => some ((e, T'), h') := by
  unfold go roundK
  rw [iterK, run_bind, run_bind]
  congr 1
  funext e h1 f1
  simp only [run]
  cases (nodupN (normOrder base (keep e.1) e.2 h1.blks) && leB base h1.c)
  · rfl
  · simp only [cond_false, cond_true]
    obtain ⟨e1, T1⟩ := e
    cases e1 with
    | zero => exact run_foot _ _ _ _ (fun a h => some (a, h))
    | succ n => rfl

theorem loopK_sound (hcx : TabOk P cx.tab) (hcmp : CmpsOk P cx.tab) (hcal : CalOk P cal) (hmd : P.follows .mixedOrders = true) {id n : Nat} {kp : List Nat} {keep : Nat → List Nat} {x : Code} {b : Nat}
    (hl : ∀ q ∈ loopsOf b x, ∀ p, cx.lps id q.1 = some p → SoundC P n (.loop q.2) p) {q : Nat → Tm → Prog (Nat × Tm)}
    (hG : ∀ base T h r h', go (q base T) h = some (r, h') → ∃ m, go (iterK base keep (evC cx cal ⟨id, n, kp, base⟩ b x) m T) h = some (r, h')) :
    SoundC P n (.loop x) fun base T => .norm base (keep 0) T (q base) := by
  refine SoundC.weaken fun base T tr h f r h' f' e => ?_
  obtain ⟨rfl, hn, e1⟩ := ex_norm e
  have e2 := e1
  unfold ex at e2
  rw [run_ex] at e2
  have e3 : go (q base (keepT (renOf base (normOrder base (keep 0) T h.blks)) T (keep 0))) ⟨extB base (renOf base (normOrder base (keep 0) T h.blks)) h.blks ++ newB (renOf base (normOrder base (keep 0) T h.blks)) h.blks base (normOrder base (keep 0) T h.blks), base + (normOrder base (keep 0) T h.blks).length⟩ = some (r, h') := by
    unfold go
    rw [run_foot _ _ ⟨[], []⟩ f (fun a h => some (a, h)), run_ex, e1]; rfl
  obtain ⟨m, e4⟩ := hG _ _ _ _ _ e3
  obtain ⟨f2, e5⟩ := go_ex e4 f
  refine ⟨_, f2, iterK_sound (keep := keep) (kp := kp) hcx hcmp hcal hmd hl m, ?_⟩
  unfold ex at e ⊢
  simp only [run, cond_false] at e ⊢
  cases q : (nodupN (normOrder base (keep 0) T h.blks) && leB base h.c) <;> rw [q] at e
  · cases e
  · simp only [cond_true]
    exact e5

def iterO {X Y : Type} (step : X → Option (X ⊕ Y)) : Nat → X → Option Y
  | 0, _ => none
  | n + 1, x => match step x with
    | some (.inl x') => iterO step n x'
    | some (.inr y) => some y
    | none => none

def rdO {X Y : Type} (get : Tm → Hp → Option X) (getY : Nat → Tm → Hp → Option Y) (c : Nat) (T : Tm) (h : Hp) : Option (X ⊕ Y) :=
  bif c.beq 0 then (get T h).map .inl else (getY c T h).map .inr

theorem iterO_go {X Y : Type} {base : Nat} {keep : Nat → List Nat} {F : Tm → Prog (Nat × Tm)} {putT : X → Tm} {putH : X → Hp} {get : Tm → Hp → Option X} {getY : Nat → Tm → Hp → Option Y} {outY : Y → (Nat × Tm) × Hp}
    (hget : ∀ T h x, get T h = some x → T = putT x ∧ h = putH x) (hY : ∀ c T h y, getY c T h = some y → ((c, T), h) = outY y) {step : X → Option (X ⊕ Y)}
    (hs : ∀ x, roundK base keep F (putT x) (putH x) (rdO get getY) = step x) : ∀ (n : Nat) (x : X) (y : Y), iterO step n x = some y → go (iterK base keep F n (putT x)) (putH x) = some (outY y)
  | 0, x, y, e => nomatch e
  | n + 1, x, y, e => by
    rw [iterK_go, roundK_eq]
    have h1 := hs x
    rw [roundK_eq] at h1
    rw [iterO] at e
    cases hr : roundK base keep F (putT x) (putH x) fun c T h => some (c, T, h) with
    | none => rw [hr] at h1; rw [← h1] at e; cases e
    | some r =>
      obtain ⟨c, T, h⟩ := r
      rw [hr] at h1
      simp only [Option.bind_some] at h1 ⊢
      cases c with
      | zero =>
        simp only [rdO, show Nat.beq 0 0 = true from rfl, cond_true] at h1
        cases hg : get T h with
        | none => rw [hg] at h1; rw [← h1] at e; cases e
        | some x' =>
          rw [hg] at h1
          rw [← h1] at e
          obtain ⟨rfl, rfl⟩ := hget T h x' hg
          exact iterO_go hget hY hs n x' y e
      | succ c =>
        simp only [rdO, show Nat.beq (c + 1) 0 = false from rfl, cond_false] at h1
        cases hg : getY (c + 1) T h with
        | none => rw [hg] at h1; rw [← h1] at e; cases e
        | some y' =>
          rw [hg] at h1
          rw [← h1] at e
          cases e
          rw [← hY _ _ _ _ hg]; rfl

def getE {Y : Type} (code : Nat) (s : StS) (flat : StD s → Y) (c : Nat) (T : Tm) (h : Hp) : Option Y := bif c.beq code then (rdS s T h).map flat else none
def getOr {A B : Type} (g1 : Nat → Tm → Hp → Option A) (g2 : Nat → Tm → Hp → Option B) (c : Nat) (T : Tm) (h : Hp) : Option (A ⊕ B) := match g1 c T h with
  | some a => some (.inl a)
  | none => (g2 c T h).map .inr
def outE {Y : Type} (code : Nat) (s : StS) (un : Y → StD s) (y : Y) : (Nat × Tm) × Hp := ((code, sT s (un y)), sH s (un y))
def altE {Y : Type} (code : Nat) (s : StS) (un : Y → StD s) (y : Y) : Prog (Nat × Tm) := .glob (fun _ => some (outE code s un y)) .ret
theorem getE_ok {Y : Type} {code : Nat} {s : StS} {flat : StD s → Y} {un : Y → StD s} (hs : strictS s = true) (hu : ∀ d, un (flat d) = d) (c : Nat) (T : Tm) (h : Hp) (y : Y) (e : getE code s flat c T h = some y) : ((c, T), h) = outE code s un y := by
  unfold getE at e
  cases hb : Nat.beq c code <;> rw [hb] at e
  · cases e
  · obtain ⟨d, e1, rfl⟩ := Option.map_eq_some_iff.1 e
    obtain ⟨rfl, rfl⟩ := rdS_some hs e1
    unfold outE
    rw [hu, nb_iff.1 hb]
theorem getOr_ok {A B : Type} {g1 : Nat → Tm → Hp → Option A} {g2 : Nat → Tm → Hp → Option B} {o1 : A → (Nat × Tm) × Hp} {o2 : B → (Nat × Tm) × Hp} (h1 : ∀ c T h y, g1 c T h = some y → ((c, T), h) = o1 y) (h2 : ∀ c T h y, g2 c T h = some y → ((c, T), h) = o2 y)
    (c : Nat) (T : Tm) (h : Hp) (y : A ⊕ B) (e : getOr g1 g2 c T h = some y) : ((c, T), h) = Sum.elim o1 o2 y := by
  unfold getOr at e
  split at e
  · rename_i a ha; cases e; exact h1 _ _ _ _ ha
  · obtain ⟨b, e1, rfl⟩ := Option.map_eq_some_iff.1 e
    exact h2 _ _ _ _ e1
def AltOk {Y : Type} (alt : Y → Prog (Nat × Tm)) (out : Y → (Nat × Tm) × Hp) : Prop := ∀ y h r, go (alt y) h = some r → r = out y
theorem altE_ok {Y : Type} (code : Nat) (s : StS) (un : Y → StD s) : AltOk (altE code s un) (outE code s un) := by
  intro y h r e
  unfold go altE at e
  simp only [run, cond_false, Option.bind_some] at e
  exact (Option.some.inj e).symm
theorem altOr_ok {A B : Type} {a1 : A → Prog (Nat × Tm)} {a2 : B → Prog (Nat × Tm)} {o1 : A → (Nat × Tm) × Hp} {o2 : B → (Nat × Tm) × Hp} (h1 : AltOk a1 o1) (h2 : AltOk a2 o2) : AltOk (fun y => .alt y a1 a2) (Sum.elim o1 o2) := by
  intro y h r e
  unfold go at e
  simp only [run] at e
  cases y with
  | inl a => exact h1 a h r e
  | inr a => exact h2 a h r e

def varP {X Y : Type} (base0 : Nat) (get : Tm → Hp → Option X) (L : X → Option Y) (alt : Y → Prog (Nat × Tm)) (next : Nat → Tm → Prog (Nat × Tm)) (base : Nat) (T : Tm) : Prog (Nat × Tm) :=
  bif base.beq base0 then .glob (fun h => some (get T h, h)) fun o => match o with
    | some x => .opt (L x) alt
    | none => next base T
  else next base T
def VarOk (keep : Nat → List Nat) (F : Nat → Tm → Prog (Nat × Tm)) (q : Nat → Tm → Prog (Nat × Tm)) : Prop :=
  ∀ base T h r h', go (q base T) h = some (r, h') → ∃ m, go (iterK base keep (F base) m T) h = some (r, h')
theorem VarOk.fail (keep : Nat → List Nat) (F : Nat → Tm → Prog (Nat × Tm)) : VarOk keep F fun _ _ => .fail := fun _ _ _ _ _ e => nomatch e
theorem varP_ok {X Y : Type} {base0 : Nat} {keep : Nat → List Nat} {F : Nat → Tm → Prog (Nat × Tm)} {s : StS} {flat : StD s → X} {un : X → StD s} (hss : strictS s = true) (hu : ∀ d, un (flat d) = d)
    {getY : Nat → Tm → Hp → Option Y} {outY : Y → (Nat × Tm) × Hp} (hY : ∀ c T h y, getY c T h = some y → ((c, T), h) = outY y) {step : X → Option (X ⊕ Y)}
    (hs : ∀ x, roundK base0 keep (F base0) (sT s (un x)) (sH s (un x)) (rdO (fun T h => (rdS s T h).map flat) getY) = step x) {L : X → Option Y} (hL : ∀ x y, L x = some y → ∃ n, iterO step n x = some y)
    {alt : Y → Prog (Nat × Tm)} (ha : AltOk alt outY) {next : Nat → Tm → Prog (Nat × Tm)} (hn : VarOk keep F next) : VarOk keep F (varP base0 (fun T h => (rdS s T h).map flat) L alt next) := by
  have hget : ∀ T h x, (rdS s T h).map flat = some x → T = sT s (un x) ∧ h = sH s (un x) := fun T h x e => by
    obtain ⟨d, e1, rfl⟩ := Option.map_eq_some_iff.1 e
    rw [hu]; exact rdS_some hss e1
  intro base T h r h' e
  unfold varP at e
  cases hb : Nat.beq base base0 <;> rw [hb] at e
  · exact hn base T h r h' e
  · obtain rfl := nb_iff.1 hb
    unfold go at e
    simp only [cond_true, run, cond_false, Option.bind_some] at e
    cases hg : (rdS s T h).map flat with
    | none => rw [hg] at e; exact hn base T h r h' e
    | some x =>
      rw [hg] at e
      simp only [run] at e
      obtain ⟨y, e1, e2⟩ := Option.bind_eq_some_iff.1 e
      obtain ⟨rfl, rfl⟩ := hget T h x hg
      obtain ⟨n, e3⟩ := hL x y e1
      refine ⟨n, ?_⟩
      rw [iterO_go hget hY hs n x y e3]
      congr 1
      exact (ha y _ _ e2).symm
end
end Go.Proofs.Ytbdcblpjemmipaa.Ex

namespace Go.Proofs.Ytbdcblpjemmipaa.Ex
set_option linter.unusedSectionVars false
set_option linter.unusedVariables false
section
def upd {σ X Y : Type} (mk : σ → X) (o : Option (σ ⊕ Y)) : Option (X ⊕ Y) := o.map (Sum.map mk id)
theorem upd_none {σ X Y : Type} (mk : σ → X) : upd (Y := Y) mk none = none := rfl
theorem upd_inl {σ X Y : Type} (mk : σ → X) (s : σ) : upd (Y := Y) mk (some (.inl s)) = some (.inl (mk s)) := rfl
theorem upd_inr {σ X Y : Type} (mk : σ → X) (y : Y) : upd mk (some (.inr y)) = some (.inr y) := rfl
theorem upd_cond {σ X Y : Type} (mk : σ → X) (b : Bool) (p q : Option (σ ⊕ Y)) : upd mk (bif b then p else q) = bif b then upd mk p else upd mk q := by cases b <;> rfl
theorem upd_optC {σ X Y A : Type} (mk : σ → X) (o : Option A) (n : Option (σ ⊕ Y)) (s : A → Option (σ ⊕ Y)) : upd mk (optC o n s) = optC o (upd mk n) fun a => upd mk (s a) := by cases o <;> rfl
theorem upd_elim {σ X Y A B : Type} (mk : σ → X) (o : A ⊕ B) (f : A → Option (σ ⊕ Y)) (g : B → Option (σ ⊕ Y)) : upd mk (Sum.elim f g o) = Sum.elim (fun a => upd mk (f a)) (fun a => upd mk (g a)) o := by cases o <;> rfl
theorem optC_some {A B : Type} (a : A) (n : B) (s : A → B) : optC (some a) n s = s a := rfl
def rangeO {σ α Y : Type} (f : Nat → σ → α → Option (σ ⊕ Y)) (fin : σ → Option Y) : Nat → List α → σ → Option Y
  | _, [], s => fin s
  | i, d :: r, s => match f i s d with
    | some (.inl s') => rangeO f fin (i + 1) r s'
    | some (.inr y) => some y
    | none => none
variable [RT]
theorem iterO_range {X Y σ α : Type} {step : X → Option (X ⊕ Y)} (l : List α) (mk : Nat → σ → X) (f : Nat → σ → α → Option (σ ⊕ Y)) (fin : σ → Option Y)
    (h1 : ∀ i s d, i < l.length → l[i]? = some d → step (mk i s) = upd (mk (i + 1)) (f i s d)) (h2 : ∀ s, step (mk l.length s) = (fin s).map .inr) :
    ∀ (r : List α) (i : Nat) (s : σ) (n : Nat), l.drop i = r → i ≤ l.length → r.length < n → iterO step n (mk i s) = rangeO f fin i r s
  | [], i, s, n, h, hi, hn => by
    have : i = l.length := by
      have := congrArg List.length h
      simp at this
      omega
    subst this
    obtain ⟨n, rfl⟩ : ∃ m, n = m + 1 := ⟨n - 1, by omega⟩
    rw [iterO, h2, rangeO]
    cases fin s <;> rfl
  | d :: r, i, s, n, h, hi, hn => by
    have hlt : i < l.length := by
      have := congrArg List.length h
      simp at this
      omega
    have hd : l[i]? = some d := by
      have := congrArg (fun q => q[0]?) h
      simpa using this
    obtain ⟨n, rfl⟩ : ∃ m, n = m + 1 := ⟨n - 1, by omega⟩
    rw [iterO, h1 i s d hlt hd, rangeO]
    cases hf : f i s d with
    | none => rfl
    | some x =>
      cases x with
      | inl s' =>
        simp only [upd, Option.map_some, Sum.map_inl]
        refine iterO_range l mk f fin h1 h2 r (i + 1) s' n ?_ hlt ?_
        · rw [← List.drop_drop, h]; rfl
        · simp only [List.length_cons] at hn; omega
      | inr y => rfl
theorem iterO_range0 {X Y σ α : Type} {step : X → Option (X ⊕ Y)} (l : List α) (mk : Nat → σ → X) (f : Nat → σ → α → Option (σ ⊕ Y)) (fin : σ → Option Y)
    (h1 : ∀ i s d, i < l.length → l[i]? = some d → step (mk i s) = upd (mk (i + 1)) (f i s d)) (h2 : ∀ s, step (mk l.length s) = (fin s).map .inr) (s : σ) {n : Nat} (hn : l.length < n) :
    iterO step n (mk 0 s) = rangeO f fin 0 l s := iterO_range l mk f fin h1 h2 l 0 s n rfl (Nat.zero_le _) hn
theorem wrap_next {i n : Nat} (h : i < n) (hn : n ≤ 9223372036854775807) : IntKind.i64.wrap ((i : Int) + 1) = ((i + 1 : Nat) : Int) := by
  have : IntKind.i64.wrap ((i : Int) + 1) = ((i : Int) + 1 + 9223372036854775808) % 18446744073709551616 - 9223372036854775808 := by
    simp [IntKind.wrap, IntKind.signed, IntKind.bits]
    split <;> omega
  rw [this]; omega
theorem wrap_fits {x : Int} (h1 : -9223372036854775808 ≤ x) (h2 : x ≤ 9223372036854775807) : IntKind.i64.wrap x = x := by
  have : IntKind.i64.wrap x = (x + 9223372036854775808) % 18446744073709551616 - 9223372036854775808 := by
    simp [IntKind.wrap, IntKind.signed, IntKind.bits]
    split <;> omega
  rw [this]; omega
end
end Go.Proofs.Ytbdcblpjemmipaa.Ex

namespace Go.Proofs.Ytbdcblpjemmipaa.Ex
open Go.Proofs Go.Proofs.Ytbdcblpjemmipaa
instance rt0 : RT := {
  C := fun _ => Bool
  body := fun _ => .bool
  unf := fun _ x => x
  fld := fun _ x => x
  uf := fun _ _ => rfl
  fu := fun _ _ => rfl }
def tab : List (TypeId × TInfo) := [
  (3, ⟨(.int .i64), 8, 0, [], false⟩),
  (4, ⟨.bool, 1, 0, [], false⟩),
  (5, ⟨(.int .u8), 1, 0, [], false⟩),
  (9, ⟨.str, 16, 0, [], false⟩),
  (12, ⟨(.int .u64), 8, 0, [], false⟩),
  (22, ⟨(.sl (.st (.pair (.int .i64) (.pair .bool (.pair (.int .i64) (.pair (.int .i64) (.st (.pair (.int .i64) (.int .i64))))))))), 24, 36, [], false⟩),
  (24, ⟨(.st (.pair (.int .i64) (.int .i64))), 16, 0, [(0, 1), (1, 1)], true⟩),
  (25, ⟨(.st (.pair (.int .i64) (.int .i64))), 16, 0, [(0, 1), (1, 1)], true⟩),
  (27, ⟨(.int .u64), 8, 0, [], false⟩),
  (35, ⟨(.st (.pair (.int .i64) (.pair .bool (.pair (.int .i64) (.pair (.int .i64) (.st (.pair (.int .i64) (.int .i64)))))))), 48, 0, [(0, 1), (1, 1), (2, 1), (3, 1), (4, 2)], true⟩),
  (36, ⟨(.st (.pair (.int .i64) (.pair .bool (.pair (.int .i64) (.pair (.int .i64) (.st (.pair (.int .i64) (.int .i64)))))))), 48, 0, [(0, 1), (1, 1), (2, 1), (3, 1), (4, 2)], true⟩),
  (40, ⟨(.sl (.int .i64)), 24, 3, [], false⟩),
  (43, ⟨(.sl (.sl (.st (.pair (.int .i64) (.pair .bool (.pair (.int .i64) (.pair (.int .i64) (.st (.pair (.int .i64) (.int .i64)))))))))), 24, 22, [], false⟩),
  (46, ⟨(.sl (.st (.pair (.int .i64) (.sl (.st (.pair (.int .i64) (.pair (.int .i64) (.pair (.int .i64) (.pair (.int .i64) (.pair (.int .i64) (.pair (.int .i64) (.pair (.int .i64) (.pair (.int .i64) (.int .i64)))))))))))))), 24, 55, [], false⟩),
  (47, ⟨(.st (.pair (.sl (.int .i64)) (.pair (.sl (.int .i64)) (.pair (.int .i64) (.sl (.st (.pair (.int .i64) (.sl (.st (.pair (.int .i64) (.pair (.int .i64) (.pair (.int .i64) (.pair (.int .i64) (.pair (.int .i64) (.pair (.int .i64) (.pair (.int .i64) (.pair (.int .i64) (.int .i64)))))))))))))))))), 80, 0, [(0, 1), (1, 1), (2, 1), (3, 1)], false⟩),
  (48, ⟨(.st (.pair (.sl (.int .i64)) (.pair (.sl (.int .i64)) (.pair (.int .i64) (.sl (.st (.pair (.int .i64) (.sl (.st (.pair (.int .i64) (.pair (.int .i64) (.pair (.int .i64) (.pair (.int .i64) (.pair (.int .i64) (.pair (.int .i64) (.pair (.int .i64) (.pair (.int .i64) (.int .i64)))))))))))))))))), 80, 0, [(0, 1), (1, 1), (2, 1), (3, 1)], false⟩),
  (49, ⟨(.sl (.st (.pair (.int .i64) (.int .i64)))), 24, 25, [], false⟩),
  (50, ⟨(.st (.pair .bool (.pair (.sl (.st (.pair (.int .i64) (.int .i64)))) (.pair (.sl (.st (.pair (.int .i64) (.int .i64)))) (.pair (.sl (.st (.pair (.int .i64) (.int .i64)))) (.pair (.int .i64) (.int .i64))))))), 96, 0, [(0, 1), (1, 1), (2, 1), (3, 1), (4, 1), (5, 1)], false⟩),
  (51, ⟨(.st (.pair .bool (.pair (.sl (.st (.pair (.int .i64) (.int .i64)))) (.pair (.sl (.st (.pair (.int .i64) (.int .i64)))) (.pair (.sl (.st (.pair (.int .i64) (.int .i64)))) (.pair (.int .i64) (.int .i64))))))), 96, 0, [(0, 1), (1, 1), (2, 1), (3, 1), (4, 1), (5, 1)], false⟩),
  (53, ⟨(.sl (.st (.pair (.int .i64) (.pair (.int .i64) (.pair (.int .i64) (.pair (.int .i64) (.pair (.int .i64) (.pair (.int .i64) (.pair (.int .i64) (.pair (.int .i64) (.int .i64))))))))))), 24, 80, [], false⟩),
  (54, ⟨(.st (.pair (.int .i64) (.sl (.st (.pair (.int .i64) (.pair (.int .i64) (.pair (.int .i64) (.pair (.int .i64) (.pair (.int .i64) (.pair (.int .i64) (.pair (.int .i64) (.pair (.int .i64) (.int .i64))))))))))))), 32, 0, [(0, 1), (1, 1)], false⟩),
  (55, ⟨(.st (.pair (.int .i64) (.sl (.st (.pair (.int .i64) (.pair (.int .i64) (.pair (.int .i64) (.pair (.int .i64) (.pair (.int .i64) (.pair (.int .i64) (.pair (.int .i64) (.pair (.int .i64) (.int .i64))))))))))))), 32, 0, [(0, 1), (1, 1)], false⟩),
  (57, ⟨(.sl (.int .i64)), 24, 72, [], false⟩),
  (58, ⟨(.sl (.st (.pair (.int .i64) (.pair (.int .i64) (.pair .bool (.pair (.int .i64) (.pair .bool (.int .i64)))))))), 24, 102, [], false⟩),
  (59, ⟨(.st (.pair (.st (.pair .bool (.pair (.sl (.st (.pair (.int .i64) (.int .i64)))) (.pair (.sl (.st (.pair (.int .i64) (.int .i64)))) (.pair (.sl (.st (.pair (.int .i64) (.int .i64)))) (.pair (.int .i64) (.int .i64))))))) (.pair (.st (.pair .bool (.pair (.sl (.st (.pair (.int .i64) (.int .i64)))) (.pair (.sl (.st (.pair (.int .i64) (.int .i64)))) (.pair (.sl (.st (.pair (.int .i64) (.int .i64)))) (.pair (.int .i64) (.int .i64))))))) (.pair (.sl (.int .i64)) (.pair (.sl (.st (.pair (.int .i64) (.pair .bool (.pair (.int .i64) (.pair (.int .i64) (.st (.pair (.int .i64) (.int .i64))))))))) (.sl (.st (.pair (.int .i64) (.pair (.int .i64) (.pair .bool (.pair (.int .i64) (.pair .bool (.int .i64))))))))))))), 264, 0, [(0, 6), (6, 6), (12, 1), (13, 1), (14, 1)], false⟩),
  (60, ⟨(.st (.pair (.st (.pair .bool (.pair (.sl (.st (.pair (.int .i64) (.int .i64)))) (.pair (.sl (.st (.pair (.int .i64) (.int .i64)))) (.pair (.sl (.st (.pair (.int .i64) (.int .i64)))) (.pair (.int .i64) (.int .i64))))))) (.pair (.st (.pair .bool (.pair (.sl (.st (.pair (.int .i64) (.int .i64)))) (.pair (.sl (.st (.pair (.int .i64) (.int .i64)))) (.pair (.sl (.st (.pair (.int .i64) (.int .i64)))) (.pair (.int .i64) (.int .i64))))))) (.pair (.sl (.int .i64)) (.pair (.sl (.st (.pair (.int .i64) (.pair .bool (.pair (.int .i64) (.pair (.int .i64) (.st (.pair (.int .i64) (.int .i64))))))))) (.sl (.st (.pair (.int .i64) (.pair (.int .i64) (.pair .bool (.pair (.int .i64) (.pair .bool (.int .i64))))))))))))), 264, 0, [(0, 6), (6, 6), (12, 1), (13, 1), (14, 1)], false⟩),
  (62, ⟨(.st (.pair (.st (.pair .bool (.pair (.sl (.st (.pair (.int .i64) (.int .i64)))) (.pair (.sl (.st (.pair (.int .i64) (.int .i64)))) (.pair (.sl (.st (.pair (.int .i64) (.int .i64)))) (.pair (.int .i64) (.int .i64))))))) (.pair (.st (.pair .bool (.pair (.sl (.st (.pair (.int .i64) (.int .i64)))) (.pair (.sl (.st (.pair (.int .i64) (.int .i64)))) (.pair (.sl (.st (.pair (.int .i64) (.int .i64)))) (.pair (.int .i64) (.int .i64))))))) (.pair (.sl (.int .i64)) (.pair (.sl (.st (.pair (.int .i64) (.pair .bool (.pair (.int .i64) (.pair (.int .i64) (.st (.pair (.int .i64) (.int .i64))))))))) (.sl (.st (.pair (.int .i64) (.pair (.int .i64) (.pair .bool (.pair (.int .i64) (.pair .bool (.int .i64))))))))))))), 264, 0, [(0, 6), (6, 6), (12, 1), (13, 1), (14, 1)], false⟩),
  (71, ⟨(.sl (.sl (.int .i64))), 24, 40, [], false⟩),
  (72, ⟨(.int .i64), 8, 0, [], false⟩),
  (73, ⟨(.st (.pair (.int .i64) (.pair (.int .i64) (.int .i64)))), 24, 0, [(0, 1), (1, 1), (2, 1)], true⟩),
  (74, ⟨(.st (.pair (.int .i64) (.pair (.int .i64) (.int .i64)))), 24, 0, [(0, 1), (1, 1), (2, 1)], true⟩),
  (75, ⟨(.st (.pair (.st (.pair (.sl (.int .i64)) (.pair (.sl (.int .i64)) (.pair (.int .i64) (.sl (.st (.pair (.int .i64) (.sl (.st (.pair (.int .i64) (.pair (.int .i64) (.pair (.int .i64) (.pair (.int .i64) (.pair (.int .i64) (.pair (.int .i64) (.pair (.int .i64) (.pair (.int .i64) (.int .i64)))))))))))))))))) (.pair (.sl (.int .i64)) (.pair (.sl (.sl (.int .i64))) (.pair (.sl (.int .i64)) (.pair (.sl (.sl (.int .i64))) (.pair (.sl (.int .i64)) (.pair (.st (.pair (.int .i64) (.pair (.int .i64) (.int .i64)))) .bool)))))))), 232, 0, [(0, 4), (4, 1), (5, 1), (6, 1), (7, 1), (8, 1), (9, 3), (12, 1)], false⟩),
  (76, ⟨(.st (.pair (.st (.pair (.sl (.int .i64)) (.pair (.sl (.int .i64)) (.pair (.int .i64) (.sl (.st (.pair (.int .i64) (.sl (.st (.pair (.int .i64) (.pair (.int .i64) (.pair (.int .i64) (.pair (.int .i64) (.pair (.int .i64) (.pair (.int .i64) (.pair (.int .i64) (.pair (.int .i64) (.int .i64)))))))))))))))))) (.pair (.sl (.int .i64)) (.pair (.sl (.sl (.int .i64))) (.pair (.sl (.int .i64)) (.pair (.sl (.sl (.int .i64))) (.pair (.sl (.int .i64)) (.pair (.st (.pair (.int .i64) (.pair (.int .i64) (.int .i64)))) .bool)))))))), 232, 0, [(0, 4), (4, 1), (5, 1), (6, 1), (7, 1), (8, 1), (9, 3), (12, 1)], false⟩),
  (79, ⟨(.st (.pair (.int .i64) (.pair (.int .i64) (.pair (.int .i64) (.pair (.int .i64) (.pair (.int .i64) (.pair (.int .i64) (.pair (.int .i64) (.pair (.int .i64) (.int .i64)))))))))), 72, 0, [(0, 1), (1, 1), (2, 1), (3, 1), (4, 1), (5, 1), (6, 1), (7, 1), (8, 1)], true⟩),
  (80, ⟨(.st (.pair (.int .i64) (.pair (.int .i64) (.pair (.int .i64) (.pair (.int .i64) (.pair (.int .i64) (.pair (.int .i64) (.pair (.int .i64) (.pair (.int .i64) (.int .i64)))))))))), 72, 0, [(0, 1), (1, 1), (2, 1), (3, 1), (4, 1), (5, 1), (6, 1), (7, 1), (8, 1)], true⟩),
  (101, ⟨(.st (.pair (.int .i64) (.pair (.int .i64) (.pair .bool (.pair (.int .i64) (.pair .bool (.int .i64))))))), 48, 0, [(0, 1), (1, 1), (2, 1), (3, 1), (4, 1), (5, 1)], true⟩),
  (102, ⟨(.st (.pair (.int .i64) (.pair (.int .i64) (.pair .bool (.pair (.int .i64) (.pair .bool (.int .i64))))))), 48, 0, [(0, 1), (1, 1), (2, 1), (3, 1), (4, 1), (5, 1)], true⟩),
  (104, ⟨(.st (.pair (.st (.pair (.int .i64) (.pair (.int .i64) (.pair (.int .i64) (.pair (.int .i64) (.pair (.int .i64) (.pair (.int .i64) (.pair (.int .i64) (.pair (.int .i64) (.int .i64)))))))))) (.pair (.st (.pair (.sl (.int .i64)) (.pair (.sl (.int .i64)) (.pair (.int .i64) (.sl (.st (.pair (.int .i64) (.sl (.st (.pair (.int .i64) (.pair (.int .i64) (.pair (.int .i64) (.pair (.int .i64) (.pair (.int .i64) (.pair (.int .i64) (.pair (.int .i64) (.pair (.int .i64) (.int .i64)))))))))))))))))) (.pair (.int .i64) (.pair (.int .i64) (.pair (.st (.pair .bool (.pair (.sl (.st (.pair (.int .i64) (.int .i64)))) (.pair (.sl (.st (.pair (.int .i64) (.int .i64)))) (.pair (.sl (.st (.pair (.int .i64) (.int .i64)))) (.pair (.int .i64) (.int .i64))))))) (.pair (.sl (.st (.pair (.int .i64) (.pair .bool (.pair (.int .i64) (.pair (.int .i64) (.st (.pair (.int .i64) (.int .i64))))))))) (.st (.pair (.st (.pair .bool (.pair (.sl (.st (.pair (.int .i64) (.int .i64)))) (.pair (.sl (.st (.pair (.int .i64) (.int .i64)))) (.pair (.sl (.st (.pair (.int .i64) (.int .i64)))) (.pair (.int .i64) (.int .i64))))))) (.pair (.st (.pair .bool (.pair (.sl (.st (.pair (.int .i64) (.int .i64)))) (.pair (.sl (.st (.pair (.int .i64) (.int .i64)))) (.pair (.sl (.st (.pair (.int .i64) (.int .i64)))) (.pair (.int .i64) (.int .i64))))))) (.pair (.sl (.int .i64)) (.pair (.sl (.st (.pair (.int .i64) (.pair .bool (.pair (.int .i64) (.pair (.int .i64) (.st (.pair (.int .i64) (.int .i64))))))))) (.sl (.st (.pair (.int .i64) (.pair (.int .i64) (.pair .bool (.pair (.int .i64) (.pair .bool (.int .i64)))))))))))))))))))), 552, 0, [(0, 9), (9, 4), (13, 1), (14, 1), (15, 6), (21, 1), (22, 15)], false⟩),
  (105, ⟨(.st (.pair (.st (.pair (.int .i64) (.pair (.int .i64) (.pair (.int .i64) (.pair (.int .i64) (.pair (.int .i64) (.pair (.int .i64) (.pair (.int .i64) (.pair (.int .i64) (.int .i64)))))))))) (.pair (.st (.pair (.sl (.int .i64)) (.pair (.sl (.int .i64)) (.pair (.int .i64) (.sl (.st (.pair (.int .i64) (.sl (.st (.pair (.int .i64) (.pair (.int .i64) (.pair (.int .i64) (.pair (.int .i64) (.pair (.int .i64) (.pair (.int .i64) (.pair (.int .i64) (.pair (.int .i64) (.int .i64)))))))))))))))))) (.pair (.int .i64) (.pair (.int .i64) (.pair (.st (.pair .bool (.pair (.sl (.st (.pair (.int .i64) (.int .i64)))) (.pair (.sl (.st (.pair (.int .i64) (.int .i64)))) (.pair (.sl (.st (.pair (.int .i64) (.int .i64)))) (.pair (.int .i64) (.int .i64))))))) (.pair (.sl (.st (.pair (.int .i64) (.pair .bool (.pair (.int .i64) (.pair (.int .i64) (.st (.pair (.int .i64) (.int .i64))))))))) (.st (.pair (.st (.pair .bool (.pair (.sl (.st (.pair (.int .i64) (.int .i64)))) (.pair (.sl (.st (.pair (.int .i64) (.int .i64)))) (.pair (.sl (.st (.pair (.int .i64) (.int .i64)))) (.pair (.int .i64) (.int .i64))))))) (.pair (.st (.pair .bool (.pair (.sl (.st (.pair (.int .i64) (.int .i64)))) (.pair (.sl (.st (.pair (.int .i64) (.int .i64)))) (.pair (.sl (.st (.pair (.int .i64) (.int .i64)))) (.pair (.int .i64) (.int .i64))))))) (.pair (.sl (.int .i64)) (.pair (.sl (.st (.pair (.int .i64) (.pair .bool (.pair (.int .i64) (.pair (.int .i64) (.st (.pair (.int .i64) (.int .i64))))))))) (.sl (.st (.pair (.int .i64) (.pair (.int .i64) (.pair .bool (.pair (.int .i64) (.pair .bool (.int .i64)))))))))))))))))))), 552, 0, [(0, 9), (9, 4), (13, 1), (14, 1), (15, 6), (21, 1), (22, 15)], false⟩),
  (159, ⟨(.sl .str), 24, 9, [], false⟩)]
def keeps : Nat → List Nat
  | 3 => [0, 1, 5, 6, 38, 2, 3, 4, 16, 17, 15, 14]
  | 4 => [0, 10, 4, 14, 39, 3, 5, 6, 59, 7, 63, 74, 2]
  | 5 => [0, 1, 2, 18, 7, 8, 6]
  | 6 => [0, 1, 22, 7, 24, 8, 30, 5, 9, 54, 62, 6, 4]
  | 7 => [0, 1, 2, 3, 7, 42, 19, 46, 71, 4, 5, 6, 8, 18]
  | 8 => [0, 3, 6, 1, 9, 4, 2, 33, 47, 5, 74, 101, 12]
  | 9 => [0, 3, 8, 1, 11, 4, 2, 5, 64, 18, 71, 20, 76, 17, 19, 21, 107, 22, 135, 23, 144, 24, 174, 6, 201, 224, 7, 242, 247, 26, 25, 252, 265, 27, 28, 16]
  | 10 => [0, 4, 1, 3, 2, 30, 9, 8]
  | 11 => [0, 3, 4, 7, 1, 10, 5, 11, 6, 2, 50, 15, 16, 17, 18, 100, 19, 105, 21, 112, 20, 130, 14]
  | 12 => [3, 0, 7, 23, 2]
  | 13 => [0, 1, 2, 3, 4, 10]
  | 14 => [5, 0, 1, 2, 3, 4, 11, 12]
  | 15 => [0, 1, 2, 6, 3, 4, 9]
  | 16 => [0, 1, 2, 3, 4]
  | 17 => [0, 1, 4]
  | 18 => [1, 0]
  | 19 => [0, 1, 2]
  | 20 => [0, 1, 12, 11, 13, 10, 5, 7, 4]
  | 21 => [3, 0, 7, 57, 2]
  | 22 => [0, 1, 4]
  | 23 => [1, 0, 3, 4]
  | 24 => [2, 0, 1, 14, 13, 15, 12, 7, 9, 5, 6]
  | 25 => [0, 1, 10, 5, 14, 25, 4]
  | 26 => [0, 5, 1, 15, 23, 7, 33, 6, 8, 4]
  | 27 => [0, 1, 8, 7, 19, 10, 12, 43, 9, 11, 2, 6]
  | 28 => [12, 0, 18, 13, 1, 2, 3, 4, 46, 11, 10]
  | 29 => [14, 0, 18, 5, 27, 13, 1, 2, 3, 4, 12]
  | 30 => [5, 0, 11, 1, 7, 6, 38, 4]
  | 31 => [0, 2, 4, 1, 6, 3, 8]
  | 32 => [0, 1, 2, 3, 46, 5, 51, 64, 6, 69, 82, 4]
  | 33 => [0, 3, 5, 1, 2, 8, 4, 29, 11, 10]
  | 34 => [0, 3, 8, 16, 10, 5, 1, 2, 11, 30, 31, 12, 41, 54, 62, 67, 4, 88, 130, 139, 146, 151, 166, 170, 13, 177]
  | 35 => [0, 2, 8, 4, 16, 13, 5, 3, 1, 12]
  | 36 => [1, 2, 0, 3, 4, 6, 19, 11, 10]
  | 37 => [1, 2, 0]
  | 38 => [0, 1, 10, 5, 22, 4, 6, 54, 7, 75, 2, 3]
  | 39 => [0, 2, 1, 5, 4]
  | 40 => [6, 0, 13, 1, 24, 5, 4]
  | 41 => [0, 1, 8, 18, 7, 2, 10, 28, 9, 6]
  | 42 => [0, 3, 8, 2, 1, 5, 44, 11, 49, 4, 65, 12, 70, 13, 82, 101, 10]
  | 43 => [0, 1, 3, 7, 2, 10, 4, 15]
  | 44 => [0, 1, 2, 7, 3, 4]
  | 45 => [0, 19, 18, 20, 17, 15, 1, 2, 3, 4, 5, 49, 13, 12]
  | 46 => [0, 2]
  | 47 => [0, 2, 1, 3]
  | 48 => [0, 1, 4]
  | 49 => [0, 1, 2]
  | 50 => [0]
  | 51 => [0, 2]
  | 52 => [0, 4, 2]
  | 53 => [1, 4, 11, 0, 8, 20, 7, 2, 6]
  | 54 => [0, 1, 2, 3, 4]
  | 55 => [0, 9, 8, 10, 7, 5, 24, 3, 27, 2]
  | 56 => [0, 1, 2, 3, 7, 27, 5, 6, 38, 47, 4]
  | 57 => [0, 1, 10, 13, 12, 14, 5, 24, 4]
  | 58 => [0, 1, 4]
  | 59 => [0, 1, 2, 5, 4, 3]
  | 60 => [1, 0, 3, 4, 5]
  | 61 => [0, 1, 2, 3, 4]
  | 62 => [0, 1, 3, 4, 2, 5]
  | 63 => [0, 1, 4, 12, 3, 6, 16, 2, 26, 25, 27, 24, 11, 33, 7, 37, 8, 44, 9, 53, 60]
  | 64 => [1, 6, 0, 3, 19, 4, 5]
  | 65 => [0, 1, 4, 13, 3, 6, 16, 10, 2, 24, 11, 7, 8, 39, 9, 49, 55, 62]
  | 66 => [0, 1, 4]
  | 67 => [1, 0, 4]
  | 68 => [0, 2, 22, 6, 27, 5, 1, 41, 4]
  | 69 => [0, 2, 5, 3, 1, 56, 8, 7, 70, 85, 6]
  | 70 => [0, 1, 2, 3, 12, 4]
  | 71 => [0, 6, 7, 18, 34, 39, 43, 71, 75, 80, 84, 88, 113, 123]
  | 72 => [0, 2, 3, 1, 5, 6]
  | 73 => [0, 2]
  | 74 => [0]
  | 75 => [0, 1, 2, 3, 6, 29, 8, 7, 35, 5, 43, 4]
  | 76 => [0, 2, 3, 1, 7, 8, 5, 13, 12, 42, 11, 53, 69, 10, 78, 4]
  | 77 => [1, 2, 6, 5, 18, 9, 28, 8, 10, 11, 45, 3, 0, 12, 70]
  | 78 => [0, 1, 3, 2, 12, 5, 23, 4]
  | 79 => [0, 1, 2, 4, 3, 30, 7, 8, 40, 6]
  | 80 => [0, 3, 4, 6, 8, 10, 12, 14, 2]
  | 81 => [0, 1, 2, 17, 4, 6, 27, 5, 7, 40, 8, 58]
  | 82 => [0, 1, 36, 3, 41, 50, 4, 55, 71, 5, 76, 6, 7, 108, 8, 111, 122, 2]
  | 83 => [0, 1, 23, 4, 6, 73, 5]
  | 84 => [2, 0, 1, 6, 21, 22, 10, 30, 41, 3, 50, 12, 69, 11, 76, 90, 104, 129, 132, 171, 182, 191, 202, 210, 225, 228, 8, 9]
  | 85 => [0, 3, 1, 18, 7, 22, 35, 2, 6]
  | 86 => [0, 1, 2, 4]
  | 87 => [6, 0, 10, 5, 1, 4]
  | 88 => [5, 0, 9, 1, 20, 4]
  | 89 => [0]
  | 90 => [0, 1, 4]
  | 91 => [0, 8, 7, 9, 6, 5, 17, 3, 2]
  | 92 => [0, 1, 2]
  | 93 => [0, 1, 2, 7, 16, 8, 22, 31, 9, 68, 6]
  | 94 => [0, 1, 4, 2]
  | 95 => [0, 8, 7, 9, 1, 5, 16, 4]
  | 96 => [1, 0, 8, 9, 10, 17, 2, 11, 4, 31, 6, 7]
  | 97 => [0, 1, 2, 3, 4]
  | 98 => [0, 7, 6, 8, 5, 4, 16, 2]
  | 99 => [0, 1, 10, 5, 14, 25, 4]
  | 100 => [1, 0, 3]
  | 101 => [0, 9, 8, 10, 7, 5, 15, 3, 2]
  | 102 => [0]
  | 103 => [0, 3, 4, 2, 49]
  | 104 => [0, 1, 2]
  | 105 => [0, 2, 3]
  | 106 => [0, 2, 4, 3, 48, 67, 83, 5]
  | 107 => [0, 27, 2]
  | 108 => [0, 29, 2]
  | 109 => [1, 0, 46, 5, 6, 56, 4]
  | 110 => [0, 3, 4, 6, 8, 10, 12, 14, 2]
  | 111 => [1, 6, 0, 2]
  | 112 => [1, 2, 4, 5, 19, 6, 0, 22, 23, 9, 39, 55, 12, 13, 69, 79, 10, 11, 7, 8]
  | 113 => [0, 1, 2, 3, 4]
  | 114 => [5, 1, 9, 23, 0, 4]
  | 115 => [5, 1, 9, 23, 0, 4]
  | 116 => [1, 2, 4, 5, 15, 6, 7, 0, 20, 21, 8, 9, 41, 59, 79, 97, 103, 116]
  | 117 => [0, 1, 4]
  | 118 => [0, 1, 2, 4, 5, 20, 21, 7, 25, 29, 34, 3, 40, 46, 53, 60, 65, 69, 8, 110, 13, 132, 9, 10, 11, 12, 6]
  | 119 => [1, 2, 0, 24, 30, 31, 35, 40, 45, 50, 8, 57, 6, 7]
  | 120 => [0, 7, 8, 1, 2, 13, 18, 23, 28, 33, 6]
  | 121 => [1, 0, 8, 4]
  | 122 => [5, 6, 0, 4, 10, 3, 2]
  | 124 => [0, 1]
  | 125 => [0, 8, 7, 9, 6, 5, 3, 14, 2]
  | 126 => [0, 1, 5, 11, 6, 12, 13, 16, 19, 4]
  | 127 => [0, 3, 2]
  | 128 => [1, 5, 2, 17, 16, 18, 15, 10, 3, 9, 8]
  | 129 => [1, 2, 4, 5, 15, 6, 0, 18, 19, 9, 32, 45, 50, 7, 62, 8]
  | 130 => [2, 0, 1, 5]
  | 131 => [0, 4, 2]
  | 132 => [0, 1, 2, 3, 5, 26, 4]
  | 133 => [1, 13, 12, 14, 11, 7, 8, 0, 2, 6]
  | 134 => [0, 1, 4]
  | 135 => [0, 1, 4]
  | 136 => [1, 2, 4, 5, 0, 12, 15, 8, 9, 31, 45, 59, 75, 81, 6, 7, 102]
  | 137 => [0, 4]
  | 138 => [0, 1, 4, 5]
  | 139 => [0, 1, 3, 4, 2, 33, 8, 11, 62, 9, 10, 6, 7]
  | 140 => [0, 1, 3, 8, 22, 2, 9, 10, 6, 11, 40, 12, 13, 14, 7, 15, 4, 5]
  | 141 => [0, 1, 3, 15, 4, 2, 31, 5, 39, 6, 7]
  | 142 => [0, 1, 7, 4]
  | 143 => [0, 1, 3, 11, 2, 4, 21, 5, 28, 6]
  | 144 => [0, 1, 11, 2, 3, 8]
  | 145 => [0, 1]
  | 146 => [0, 2]
  | 147 => [0, 1, 2, 3, 4, 7, 6]
  | 148 => [0, 1, 4]
  | 149 => [0, 1, 17, 16, 18, 15, 3, 9, 10, 26, 2, 6, 11, 7, 4, 5]
  | 150 => [0, 1, 2, 4]
  | 151 => [0, 1, 3, 9, 4, 2, 26, 5, 6, 35]
  | 152 => [0, 1, 3, 5, 2, 11, 21, 4]
  | 153 => [0, 1, 7, 5, 17, 6, 24, 4]
  | 154 => [0, 2, 3, 9]
  | 155 => [0, 1, 4]
  | _ => []
noncomputable def inl : Nat → Option Func
  | 3 => some Try.f3
  | 4 => some Try.f4
  | 5 => some Try.f5
  | 6 => some Try.f6
  | 7 => some Try.f7
  | 8 => some Try.f8
  | 9 => some Try.f9
  | 10 => some Try.f10
  | 11 => some Try.f11
  | 12 => some Try.f12
  | 13 => some Try.f13
  | 14 => some Try.f14
  | 15 => some Try.f15
  | 16 => some Try.f16
  | 17 => some Try.f17
  | 18 => some Try.f18
  | 19 => some Try.f19
  | 20 => some Try.f20
  | 21 => some Try.f21
  | 22 => some Try.f22
  | 23 => some Try.f23
  | 24 => some Try.f24
  | 25 => some Try.f25
  | 26 => some Try.f26
  | 27 => some Try.f27
  | 28 => some Try.f28
  | 29 => some Try.f29
  | 30 => some Try.f30
  | 31 => some Try.f31
  | 32 => some Try.f32
  | 33 => some Try.f33
  | 34 => some Try.f34
  | 35 => some Try.f35
  | 36 => some Try.f36
  | 37 => some Try.f37
  | 38 => some Try.f38
  | 39 => some Try.f39
  | 40 => some Try.f40
  | 41 => some Try.f41
  | 42 => some Try.f42
  | 43 => some Try.f43
  | 44 => some Try.f44
  | 45 => some Try.f45
  | 46 => some Try.f46
  | 47 => some Try.f47
  | 48 => some Try.f48
  | 49 => some Try.f49
  | 50 => some Try.f50
  | 51 => some Try.f51
  | 52 => some Try.f52
  | 53 => some Try.f53
  | 54 => some Try.f54
  | 55 => some Try.f55
  | 56 => some Try.f56
  | 57 => some Try.f57
  | 58 => some Try.f58
  | 59 => some Try.f59
  | 60 => some Try.f60
  | 61 => some Try.f61
  | 62 => some Try.f62
  | 63 => some Try.f63
  | 64 => some Try.f64
  | 65 => some Try.f65
  | 66 => some Try.f66
  | 67 => some Try.f67
  | 68 => some Try.f68
  | 69 => some Try.f69
  | 70 => some Try.f70
  | 71 => some Try.f71
  | 72 => some Try.f72
  | 73 => some Try.f73
  | 74 => some Try.f74
  | 75 => some Try.f75
  | 76 => some Try.f76
  | 77 => some Try.f77
  | 78 => some Try.f78
  | 79 => some Try.f79
  | 80 => some Try.f80
  | 81 => some Try.f81
  | 82 => some Try.f82
  | 83 => some Try.f83
  | 84 => some Try.f84
  | 85 => some Try.f85
  | 86 => some Try.f86
  | 87 => some Try.f87
  | 88 => some Try.f88
  | 89 => some Try.f89
  | 90 => some Try.f90
  | 91 => some Try.f91
  | 92 => some Try.f92
  | 93 => some Try.f93
  | 94 => some Try.f94
  | 95 => some Try.f95
  | 96 => some Try.f96
  | 97 => some Try.f97
  | 98 => some Try.f98
  | 99 => some Try.f99
  | 100 => some Try.f100
  | 101 => some Try.f101
  | 102 => some Try.f102
  | 103 => some Try.f103
  | 104 => some Try.f104
  | 105 => some Try.f105
  | 106 => some Try.f106
  | 107 => some Try.f107
  | 108 => some Try.f108
  | 109 => some Try.f109
  | 110 => some Try.f110
  | 111 => some Try.f111
  | 112 => some Try.f112
  | 113 => some Try.f113
  | 114 => some Try.f114
  | 115 => some Try.f115
  | 116 => some Try.f116
  | 117 => some Try.f117
  | 118 => some Try.f118
  | 119 => some Try.f119
  | 120 => some Try.f120
  | 121 => some Try.f121
  | 122 => some Try.f122
  | 124 => some Try.f124
  | 125 => some Try.f125
  | 126 => some Try.f126
  | 127 => some Try.f127
  | 128 => some Try.f128
  | 129 => some Try.f129
  | 130 => some Try.f130
  | 131 => some Try.f131
  | 132 => some Try.f132
  | 133 => some Try.f133
  | 134 => some Try.f134
  | 135 => some Try.f135
  | 136 => some Try.f136
  | 137 => some Try.f137
  | 138 => some Try.f138
  | 139 => some Try.f139
  | 140 => some Try.f140
  | 141 => some Try.f141
  | 142 => some Try.f142
  | 143 => some Try.f143
  | 144 => some Try.f144
  | 145 => some Try.f145
  | 146 => some Try.f146
  | 147 => some Try.f147
  | 148 => some Try.f148
  | 149 => some Try.f149
  | 150 => some Try.f150
  | 151 => some Try.f151
  | 152 => some Try.f152
  | 153 => some Try.f153
  | 154 => some Try.f154
  | 155 => some Try.f155
  | _ => none
theorem tab_ok : tabB Try.prog tab = true := by kernel_rfl
theorem cmps_ok : cmpsB Try.prog tab = true := by kernel_rfl
theorem mixed : Try.prog.follows .mixedOrders = true := by kernel_rfl
theorem inl_ok : ∀ g fn, inl g = some fn → Try.prog.funcs[g]? = some fn ∧ (fn.name == "runtime.NumGoroutine") = false := by
  intro g fn h
  unfold inl at h
  split at h
  · cases h; exact ⟨Try.func3, by kernel_rfl⟩
  · cases h; exact ⟨Try.func4, by kernel_rfl⟩
  · cases h; exact ⟨Try.func5, by kernel_rfl⟩
  · cases h; exact ⟨Try.func6, by kernel_rfl⟩
  · cases h; exact ⟨Try.func7, by kernel_rfl⟩
  · cases h; exact ⟨Try.func8, by kernel_rfl⟩
  · cases h; exact ⟨Try.func9, by kernel_rfl⟩
  · cases h; exact ⟨Try.func10, by kernel_rfl⟩
  · cases h; exact ⟨Try.func11, by kernel_rfl⟩
  · cases h; exact ⟨Try.func12, by kernel_rfl⟩
  · cases h; exact ⟨Try.func13, by kernel_rfl⟩
  · cases h; exact ⟨Try.func14, by kernel_rfl⟩
  · cases h; exact ⟨Try.func15, by kernel_rfl⟩
  · cases h; exact ⟨Try.func16, by kernel_rfl⟩
  · cases h; exact ⟨Try.func17, by kernel_rfl⟩
  · cases h; exact ⟨Try.func18, by kernel_rfl⟩
  · cases h; exact ⟨Try.func19, by kernel_rfl⟩
  · cases h; exact ⟨Try.func20, by kernel_rfl⟩
  · cases h; exact ⟨Try.func21, by kernel_rfl⟩
  · cases h; exact ⟨Try.func22, by kernel_rfl⟩
  · cases h; exact ⟨Try.func23, by kernel_rfl⟩
  · cases h; exact ⟨Try.func24, by kernel_rfl⟩
  · cases h; exact ⟨Try.func25, by kernel_rfl⟩
  · cases h; exact ⟨Try.func26, by kernel_rfl⟩
  · cases h; exact ⟨Try.func27, by kernel_rfl⟩
  · cases h; exact ⟨Try.func28, by kernel_rfl⟩
  · cases h; exact ⟨Try.func29, by kernel_rfl⟩
  · cases h; exact ⟨Try.func30, by kernel_rfl⟩
  · cases h; exact ⟨Try.func31, by kernel_rfl⟩
  · cases h; exact ⟨Try.func32, by kernel_rfl⟩
  · cases h; exact ⟨Try.func33, by kernel_rfl⟩
  · cases h; exact ⟨Try.func34, by kernel_rfl⟩
  · cases h; exact ⟨Try.func35, by kernel_rfl⟩
  · cases h; exact ⟨Try.func36, by kernel_rfl⟩
  · cases h; exact ⟨Try.func37, by kernel_rfl⟩
  · cases h; exact ⟨Try.func38, by kernel_rfl⟩
  · cases h; exact ⟨Try.func39, by kernel_rfl⟩
  · cases h; exact ⟨Try.func40, by kernel_rfl⟩
  · cases h; exact ⟨Try.func41, by kernel_rfl⟩
  · cases h; exact ⟨Try.func42, by kernel_rfl⟩
  · cases h; exact ⟨Try.func43, by kernel_rfl⟩
  · cases h; exact ⟨Try.func44, by kernel_rfl⟩
  · cases h; exact ⟨Try.func45, by kernel_rfl⟩
  · cases h; exact ⟨Try.func46, by kernel_rfl⟩
  · cases h; exact ⟨Try.func47, by kernel_rfl⟩
  · cases h; exact ⟨Try.func48, by kernel_rfl⟩
  · cases h; exact ⟨Try.func49, by kernel_rfl⟩
  · cases h; exact ⟨Try.func50, by kernel_rfl⟩
  · cases h; exact ⟨Try.func51, by kernel_rfl⟩
  · cases h; exact ⟨Try.func52, by kernel_rfl⟩
  · cases h; exact ⟨Try.func53, by kernel_rfl⟩
  · cases h; exact ⟨Try.func54, by kernel_rfl⟩
  · cases h; exact ⟨Try.func55, by kernel_rfl⟩
  · cases h; exact ⟨Try.func56, by kernel_rfl⟩
  · cases h; exact ⟨Try.func57, by kernel_rfl⟩
  · cases h; exact ⟨Try.func58, by kernel_rfl⟩
  · cases h; exact ⟨Try.func59, by kernel_rfl⟩
  · cases h; exact ⟨Try.func60, by kernel_rfl⟩
  · cases h; exact ⟨Try.func61, by kernel_rfl⟩
  · cases h; exact ⟨Try.func62, by kernel_rfl⟩
  · cases h; exact ⟨Try.func63, by kernel_rfl⟩
  · cases h; exact ⟨Try.func64, by kernel_rfl⟩
  · cases h; exact ⟨Try.func65, by kernel_rfl⟩
  · cases h; exact ⟨Try.func66, by kernel_rfl⟩
  · cases h; exact ⟨Try.func67, by kernel_rfl⟩
  · cases h; exact ⟨Try.func68, by kernel_rfl⟩
  · cases h; exact ⟨Try.func69, by kernel_rfl⟩
  · cases h; exact ⟨Try.func70, by kernel_rfl⟩
  · cases h; exact ⟨Try.func71, by kernel_rfl⟩
  · cases h; exact ⟨Try.func72, by kernel_rfl⟩
  · cases h; exact ⟨Try.func73, by kernel_rfl⟩
  · cases h; exact ⟨Try.func74, by kernel_rfl⟩
  · cases h; exact ⟨Try.func75, by kernel_rfl⟩
  · cases h; exact ⟨Try.func76, by kernel_rfl⟩
  · cases h; exact ⟨Try.func77, by kernel_rfl⟩
  · cases h; exact ⟨Try.func78, by kernel_rfl⟩
  · cases h; exact ⟨Try.func79, by kernel_rfl⟩
  · cases h; exact ⟨Try.func80, by kernel_rfl⟩
  · cases h; exact ⟨Try.func81, by kernel_rfl⟩
  · cases h; exact ⟨Try.func82, by kernel_rfl⟩
  · cases h; exact ⟨Try.func83, by kernel_rfl⟩
  · cases h; exact ⟨Try.func84, by kernel_rfl⟩
  · cases h; exact ⟨Try.func85, by kernel_rfl⟩
  · cases h; exact ⟨Try.func86, by kernel_rfl⟩
  · cases h; exact ⟨Try.func87, by kernel_rfl⟩
  · cases h; exact ⟨Try.func88, by kernel_rfl⟩
  · cases h; exact ⟨Try.func89, by kernel_rfl⟩
  · cases h; exact ⟨Try.func90, by kernel_rfl⟩
  · cases h; exact ⟨Try.func91, by kernel_rfl⟩
  · cases h; exact ⟨Try.func92, by kernel_rfl⟩
  · cases h; exact ⟨Try.func93, by kernel_rfl⟩
  · cases h; exact ⟨Try.func94, by kernel_rfl⟩
  · cases h; exact ⟨Try.func95, by kernel_rfl⟩
  · cases h; exact ⟨Try.func96, by kernel_rfl⟩
  · cases h; exact ⟨Try.func97, by kernel_rfl⟩
  · cases h; exact ⟨Try.func98, by kernel_rfl⟩
  · cases h; exact ⟨Try.func99, by kernel_rfl⟩
  · cases h; exact ⟨Try.func100, by kernel_rfl⟩
  · cases h; exact ⟨Try.func101, by kernel_rfl⟩
  · cases h; exact ⟨Try.func102, by kernel_rfl⟩
  · cases h; exact ⟨Try.func103, by kernel_rfl⟩
  · cases h; exact ⟨Try.func104, by kernel_rfl⟩
  · cases h; exact ⟨Try.func105, by kernel_rfl⟩
  · cases h; exact ⟨Try.func106, by kernel_rfl⟩
  · cases h; exact ⟨Try.func107, by kernel_rfl⟩
  · cases h; exact ⟨Try.func108, by kernel_rfl⟩
  · cases h; exact ⟨Try.func109, by kernel_rfl⟩
  · cases h; exact ⟨Try.func110, by kernel_rfl⟩
  · cases h; exact ⟨Try.func111, by kernel_rfl⟩
  · cases h; exact ⟨Try.func112, by kernel_rfl⟩
  · cases h; exact ⟨Try.func113, by kernel_rfl⟩
  · cases h; exact ⟨Try.func114, by kernel_rfl⟩
  · cases h; exact ⟨Try.func115, by kernel_rfl⟩
  · cases h; exact ⟨Try.func116, by kernel_rfl⟩
  · cases h; exact ⟨Try.func117, by kernel_rfl⟩
  · cases h; exact ⟨Try.func118, by kernel_rfl⟩
  · cases h; exact ⟨Try.func119, by kernel_rfl⟩
  · cases h; exact ⟨Try.func120, by kernel_rfl⟩
  · cases h; exact ⟨Try.func121, by kernel_rfl⟩
  · cases h; exact ⟨Try.func122, by kernel_rfl⟩
  · cases h; exact ⟨Try.func124, by kernel_rfl⟩
  · cases h; exact ⟨Try.func125, by kernel_rfl⟩
  · cases h; exact ⟨Try.func126, by kernel_rfl⟩
  · cases h; exact ⟨Try.func127, by kernel_rfl⟩
  · cases h; exact ⟨Try.func128, by kernel_rfl⟩
  · cases h; exact ⟨Try.func129, by kernel_rfl⟩
  · cases h; exact ⟨Try.func130, by kernel_rfl⟩
  · cases h; exact ⟨Try.func131, by kernel_rfl⟩
  · cases h; exact ⟨Try.func132, by kernel_rfl⟩
  · cases h; exact ⟨Try.func133, by kernel_rfl⟩
  · cases h; exact ⟨Try.func134, by kernel_rfl⟩
  · cases h; exact ⟨Try.func135, by kernel_rfl⟩
  · cases h; exact ⟨Try.func136, by kernel_rfl⟩
  · cases h; exact ⟨Try.func137, by kernel_rfl⟩
  · cases h; exact ⟨Try.func138, by kernel_rfl⟩
  · cases h; exact ⟨Try.func139, by kernel_rfl⟩
  · cases h; exact ⟨Try.func140, by kernel_rfl⟩
  · cases h; exact ⟨Try.func141, by kernel_rfl⟩
  · cases h; exact ⟨Try.func142, by kernel_rfl⟩
  · cases h; exact ⟨Try.func143, by kernel_rfl⟩
  · cases h; exact ⟨Try.func144, by kernel_rfl⟩
  · cases h; exact ⟨Try.func145, by kernel_rfl⟩
  · cases h; exact ⟨Try.func146, by kernel_rfl⟩
  · cases h; exact ⟨Try.func147, by kernel_rfl⟩
  · cases h; exact ⟨Try.func148, by kernel_rfl⟩
  · cases h; exact ⟨Try.func149, by kernel_rfl⟩
  · cases h; exact ⟨Try.func150, by kernel_rfl⟩
  · cases h; exact ⟨Try.func151, by kernel_rfl⟩
  · cases h; exact ⟨Try.func152, by kernel_rfl⟩
  · cases h; exact ⟨Try.func153, by kernel_rfl⟩
  · cases h; exact ⟨Try.func154, by kernel_rfl⟩
  · cases h; exact ⟨Try.func155, by kernel_rfl⟩
  · cases h
end Go.Proofs.Ytbdcblpjemmipaa.Ex

namespace Go.Proofs.Ytbdcblpjemmipaa.Ex
set_option linter.unusedSectionVars false
set_option linter.unusedVariables false
section
variable [RT]

theorem capL_bind {α β : Type} : ∀ (vs : List AV) (k : List AV → Prog α) (f : α → Prog β), (capL vs k).bind f = capL vs fun r => (k r).bind f
  | [], _, _ => rfl
  | v :: r, k, f => by
    cases v with
    | ptr id off =>
      simp only [capL, Prog.bind]
      congr 1
      funext b
      cases b with
      | box cs =>
        simp only
        cases dataL cs
        · exact capL_bind r _ f
        · simp only [cond_true, Prog.bind]; congr 1; exact capL_bind r _ f
      | row e l => rfl
    | _ => simp only [capL]; exact capL_bind r _ f
theorem lookL_bind {α β : Type} : ∀ (vs : List AV) (k : List AV → Prog α) (f : α → Prog β), (lookL vs k).bind f = lookL vs fun r => (k r).bind f
  | [], _, _ => rfl
  | v :: r, k, f => by
    cases v with
    | row id =>
      simp only [lookL, Prog.bind]
      congr 1
      funext b
      cases b with
      | box cs => rfl
      | row e l => exact lookL_bind r _ f
    | _ => simp only [lookL]; exact lookL_bind r _ f
mutual
theorem frz_bind {α β : Type} (dl : Bool) : ∀ (v : AV) (k : AV → Prog α) (f : α → Prog β), (frz dl v k).bind f = frz dl v fun r => (k r).bind f
  | .row id, k, f => by
    simp only [frz, Prog.bind]
    congr 1
    funext b
    cases b with
    | box cs => rfl
    | row e l => cases dl <;> simp only [cond_true, cond_false, Prog.bind]
  | .agg cs, k, f => by simp only [frz]; exact frzL_bind dl cs _ f
  | .tup cs, k, f => by simp only [frz]; exact frzL_bind dl cs _ f
  | .clo g a b, k, f => by
    simp only [frz]
    cases dl
    · rfl
    · simp only [cond_true]; exact capL_bind b _ f
  | .undef, k, f => rfl
  | .int _ _, k, f => rfl
  | .bool _, k, f => rfl
  | .str _, k, f => rfl
  | .nil, k, f => rfl
  | .sl _ _, k, f => rfl
  | .ptr id off, k, f => by
    simp only [frz]
    cases dl
    · simp only [cond_false, Prog.bind]
      congr 1
      funext b
      cases b with
      | box cs =>
        simp only
        rw [lookL_bind]
        congr 1
        funext c
        cases dataL c <;> rfl
      | row e l => rfl
    · rfl
  | .eptr _ _ _ _, k, f => rfl
  | .sub id sz lo hi, k, f => by
    simp only [frz, Prog.bind]
    congr 1
    funext b
    cases b with
    | box cs => rfl
    | row e l =>
      dsimp only
      generalize Nat.beq sz (eTy e).size = q
      cases q <;> cases dl <;> simp only [cond_true, cond_false, Prog.bind]
  | .view _ _, k, f => rfl
theorem frzL_bind {α β : Type} (dl : Bool) : ∀ (vs : List AV) (k : List AV → Prog α) (f : α → Prog β), (frzL dl vs k).bind f = frzL dl vs fun r => (k r).bind f
  | [], _, _ => rfl
  | v :: r, k, f => by
    simp only [frzL]
    rw [frz_bind dl v]
    congr 1
    funext x
    exact frzL_bind dl r _ f
end

theorem capL_free {α : Type} : ∀ (vs : List AV) (k : List AV → Prog α), AV.idsL vs = [] → capL vs k = k vs
  | [], _, _ => rfl
  | v :: r, k, h => by
    simp only [AV.idsL, List.append_eq_nil_iff] at h
    cases v with
    | ptr id off => simp [AV.ids] at h
    | _ => simp only [capL]; exact capL_free r _ h.2
mutual
theorem frz_free {α : Type} (dl : Bool) : ∀ (v : AV) (k : AV → Prog α), v.ids = [] → frz dl v k = k v
  | .row id, k, h => by simp [AV.ids] at h
  | .agg cs, k, h => by simp only [frz]; exact frzL_free dl cs _ (by simpa [AV.ids] using h)
  | .tup cs, k, h => by simp only [frz]; exact frzL_free dl cs _ (by simpa [AV.ids] using h)
  | .clo g a b, k, h => by
    simp only [AV.ids, List.append_eq_nil_iff] at h
    simp only [frz]
    cases dl
    · rfl
    · simp only [cond_true]; exact capL_free b _ h.2
  | .undef, k, _ => rfl
  | .int _ _, k, _ => rfl
  | .bool _, k, _ => rfl
  | .str _, k, _ => rfl
  | .nil, k, _ => rfl
  | .sl _ _, k, _ => rfl
  | .ptr _ _, k, h => by simp [AV.ids] at h
  | .eptr _ _ _ _, k, _ => rfl
  | .sub _ _ _ _, k, h => by simp [AV.ids] at h
  | .view _ _, k, _ => rfl
theorem frzL_free {α : Type} (dl : Bool) : ∀ (vs : List AV) (k : List AV → Prog α), AV.idsL vs = [] → frzL dl vs k = k vs
  | [], _, _ => rfl
  | v :: r, k, h => by
    simp only [AV.idsL, List.append_eq_nil_iff] at h
    simp only [frzL]
    rw [frz_free dl v _ h.1, frzL_free dl r _ h.2]
end
mutual
theorem ren_free (ρ : Nat → Option Nat) : ∀ v : AV, v.ids = [] → v.ren ρ = v
  | .ptr id off, h => by simp [AV.ids] at h
  | .row id, h => by simp [AV.ids] at h
  | .eptr _ _ _ _, h => by simp [AV.ids] at h
  | .sub _ _ _ _, h => by simp [AV.ids] at h
  | .view cs off, h => by simp only [AV.ren]; rw [renL_free ρ cs (by simpa [AV.ids] using h)]
  | .clo f a b, h => by
    simp only [AV.ids, List.append_eq_nil_iff] at h
    simp only [AV.ren]; rw [renL_free ρ a h.1, renL_free ρ b h.2]
  | .agg cs, h => by simp only [AV.ren]; rw [renL_free ρ cs (by simpa [AV.ids] using h)]
  | .tup cs, h => by simp only [AV.ren]; rw [renL_free ρ cs (by simpa [AV.ids] using h)]
  | .undef, _ => rfl
  | .int _ _, _ => rfl
  | .bool _, _ => rfl
  | .str _, _ => rfl
  | .nil, _ => rfl
  | .sl _ _, _ => rfl
theorem renL_free (ρ : Nat → Option Nat) : ∀ vs : List AV, AV.idsL vs = [] → AV.renL ρ vs = vs
  | [], _ => rfl
  | v :: r, h => by
    simp only [AV.idsL, List.append_eq_nil_iff] at h
    simp only [AV.renL]; rw [ren_free ρ v h.1, renL_free ρ r h.2]
end

theorem ext0_ids : ∀ bs : List (Nat × Blk), extIds 0 bs = []
  | [] => rfl
  | (k, b) :: r => by simp only [extIds]; rw [show leB 0 k = true from leB_iff.2 (Nat.zero_le _), cond_true]; exact ext0_ids r
theorem ext0_blks (ρ : Nat → Option Nat) : ∀ bs : List (Nat × Blk), extB 0 ρ bs = []
  | [] => rfl
  | (k, b) :: r => by simp only [extB]; rw [show leB 0 k = true from leB_iff.2 (Nat.zero_le _), cond_true]; exact ext0_blks ρ r

theorem norm_none {α R : Type} (T : Tm) (keep : List Nat) (hT : idsT T keep = []) (k : Tm → Prog α) (h : Hp) (f : Foot) (K : α → Hp → Foot → Option R) :
    run (.norm 0 keep T k) false h f K = run (k (keepT (renOf 0 []) T keep)) false ⟨[], 0⟩ f K := by
  simp only [run, cond_false]
  have e : normOrder 0 keep T h.blks = [] := by
    unfold normOrder
    rw [hT, ext0_ids]
    rfl
  rw [e, show leB 0 h.c = true from leB_iff.2 (Nat.zero_le _)]
  simp only [nodupN, Bool.and_self, cond_true, ext0_blks]
  rfl

theorem finP_free {R : Type} (v : AV) (hv : v.ids = []) (h : Hp) (f : Foot) (K : AV → Hp → Foot → Option R) : run (finP true v) false h f K = K v ⟨[], 0⟩ f := by
  unfold finP
  rw [cond_true, frz_free true v _ hv, norm_none _ _ (by simp [idsT, getT, hv])]
  have : getT (keepT (renOf 0 []) [(0, v)] [0]) 0 = v := by
    show AV.ren _ v = v
    exact ren_free _ v hv
  rw [this]; rfl

def outP (rs : Sh) (v : AV) : Prog (ShD rs) := frz true v fun v' => .opt (rd rs v') fun d => .norm 0 [] [] fun _ => .ret d

def evG (q : List AV → Prog AV) (sh : List Sh) (rs : Sh) (x : ShDs sh) : Option (ShD rs) := run ((q (mks sh x)).bind (outP rs)) false ⟨[], 0⟩ ⟨[], []⟩ fun d _ _ => some d

def qIn (sh : List Sh) (q : List AV → Prog AV) (args : List AV) : Prog AV := .opt (rds sh args) fun x => q (mks sh x)
def qOut (rs : Sh) (q : List AV → Prog AV) (args : List AV) : Prog AV := (q args).bind fun v => frz true v fun v' => .opt (rd rs v') fun d => .ret (mk rs d)
def conN (sh : List Sh) (rs : Sh) (G : ShDs sh → Option (ShD rs)) (args : List AV) : Option (Bool × AV × List Blk) := (rds sh args).bind fun x => (G x).map fun r => (true, mk rs r, [])

def conP (dl : Bool) (sh : List Sh) (rs : Sh) (G : ShDs sh → Option (ShD rs)) (args : List AV) : Prog AV :=
  frzL dl args fun args' => .opt (rds sh args') fun x => .opt (G x) fun r => .ret (mk rs r)
section
variable {P : Program}
theorem SoundA.qIn {g : FuncId} {q : List AV → Prog AV} (hq : SoundA P g q) {sh : List Sh} (hf : frees sh = true) : SoundA P g (Go.Proofs.Ytbdcblpjemmipaa.Ex.qIn sh q) := by
  intro tr args h ft v h' ft' vals hdr S w ok e hr hm hv hi hO
  obtain ⟨x, e1, e2⟩ := ex_opt e
  exact hq tr _ h ft v h' ft' vals hdr S w ok e2 hr hm (rds_rep sh args x vals e1 hv) (fun n hn => by rw [mks_ids sh x hf] at hn; cases hn) hO

theorem SoundA.qOut {g : FuncId} {q : List AV → Prog AV} (hq : SoundA P g q) {rs : Sh} (hf : free rs = true) : SoundA P g (Go.Proofs.Ytbdcblpjemmipaa.Ex.qOut rs q) := by
  intro tr args h ft v h' ft' vals hdr S w ok e hr hm hv hi hO
  obtain ⟨v0, h1, f1, e1, e2⟩ := ex_bind_some e
  have hO1 : ∀ id, ok id → Out tr h.c h1.c id := fun id k => (hO id k).less fun ht => by subst ht; exact ex_mono _ _ _ _ e2
  obtain ⟨c1, c2⟩ := hq tr args h ft v0 _ _ vals hdr S w ok e1 hr hm hv hi hO1
  refine ⟨c1, c2.mono ?_⟩
  rintro en w' ⟨u, hdr', S', rfl, p1, k3, k4⟩
  obtain ⟨v', h2, f2, S2, e3, p2, q2, i2, cc⟩ := frz_del v0 _ h1 f1 S' u (okn ok h.c h1.c) p1.real p1.ment k3 _ e2
  obtain ⟨d, e4, e5⟩ := ex_opt e3
  cases ex_ret e5
  exact ⟨u, hdr', S2, rfl, p1.trans p2, rd_rep rs v' d u e4 q2, fun n hn => by rw [mk_ids rs d hf] at hn; cases hn⟩

theorem conA {g : FuncId} {q : List AV → Prog AV} (hq : SoundA P g q) (dl : Bool) {sh : List Sh} {rs : Sh} (hsh : frees sh = true) (hrs : free rs = true) {G : ShDs sh → Option (ShD rs)} (hG : ∀ x r, G x = some r → evG q sh rs x = some r)
    (hpl : dl = true ∨ ∀ r, plainV (mk rs r) = true) : SoundA P g (specP dl (conN sh rs G)) := by
  refine soundA_spec (fz := true) ((hq.qIn hsh).qOut hrs) fun args v bs h => ?_
  obtain ⟨x, e1, e2⟩ := Option.bind_eq_some_iff.1 h
  obtain ⟨r, e3, e4⟩ := Option.map_eq_some_iff.1 e2
  cases e4
  refine ⟨rds_ids sh args x hsh e1, hpl.imp id fun k => ⟨k r, rfl⟩, ?_⟩
  have hx := hG x r e3
  unfold evG at hx
  rw [run_bind, run_ex] at hx
  obtain ⟨⟨v1, h1, f1⟩, e5, e6⟩ := Option.bind_eq_some_iff.1 hx
  have hb : outP rs v1 = (frz true v1 .ret).bind fun v' => .opt (rd rs v') fun d => .norm 0 [] [] fun _ => .ret d := by
    rw [frz_bind]; rfl
  simp only at e6
  rw [hb, run_bind, run_ex] at e6
  obtain ⟨⟨v2, h2, f2⟩, e7, e8⟩ := Option.bind_eq_some_iff.1 e6
  simp only [run] at e8
  obtain ⟨d, e9, e10⟩ := Option.bind_eq_some_iff.1 e8
  have e11 : run (.norm 0 [] [] fun _ => .ret d) false h2 f2 (fun d _ _ => some d) = some r := e10
  rw [norm_none _ _ rfl] at e11
  obtain rfl : d = r := Option.some.inj e11
  refine ⟨f2, ?_⟩
  unfold ex Go.Proofs.Ytbdcblpjemmipaa.Ex.qOut Go.Proofs.Ytbdcblpjemmipaa.Ex.qIn
  rw [e1]
  simp only [Prog.bind, run, Option.bind_some]
  rw [run_bind, run_bind, run_ex, e5]
  simp only [Option.bind_some]
  have hb2 : (frz true v1 fun v' => Prog.opt (rd rs v') fun d => .ret (mk rs d)) = (frz true v1 .ret).bind fun v' => .opt (rd rs v') fun d => .ret (mk rs d) := by
    rw [frz_bind]; rfl
  rw [hb2, run_bind, run_ex, e7]
  simp only [Option.bind_some, run, e9]
  exact finP_free _ (mk_ids rs d hrs) h2 f2 _

theorem conP_sound {g : FuncId} {q : List AV → Prog AV} (hq : SoundA P g q) (dl : Bool) {sh : List Sh} {rs : Sh} (hsh : frees sh = true) (hrs : free rs = true) {G : ShDs sh → Option (ShD rs)} (hG : ∀ x r, G x = some r → evG q sh rs x = some r)
    (hpl : dl = true ∨ ∀ r, plainV (mk rs r) = true) : SoundA P g (conP dl sh rs G) := by
  refine SoundA.weaken fun args tr h f r h' f' e => ⟨specP dl (conN sh rs G), f', conA hq dl hsh hrs hG hpl, ?_⟩
  have e1 : conP dl sh rs G args = (frzL dl args .ret).bind fun args' => .opt (rds sh args') fun x => .opt (G x) fun r => .ret (mk rs r) := by
    rw [frzL_bind]; rfl
  have e2 : specP dl (conN sh rs G) args = (frzL dl args .ret).bind fun args' => .opt (conN sh rs G args') fun r => .ite r.1 (.ctr fun base => newsP (shiftB base r.2.2.length) r.2.2 (.ret (r.2.1.ren (shiftB base r.2.2.length)))) .fail := by
    rw [frzL_bind]; rfl
  unfold ex at e ⊢
  rw [e1, run_bind, run_ex] at e
  rw [e2, run_bind, run_ex]
  obtain ⟨⟨a1, h1, f1⟩, e3, e4⟩ := Option.bind_eq_some_iff.1 e
  rw [e3]
  simp only [Option.bind_some, run] at e4 ⊢
  obtain ⟨x, e5, e6⟩ := Option.bind_eq_some_iff.1 e4
  obtain ⟨y, e7, e8⟩ := Option.bind_eq_some_iff.1 e6
  cases e8
  unfold conN
  rw [e5]
  simp only [Option.bind_some, e7, Option.map_some, cond_true, newsP, run]
  rw [ren_free _ _ (mk_ids rs y hrs)]

def rowS (e : Ty) : StS := ⟨[(0, .row 0)], [(0, .row e)], 1⟩
def evR (q : List AV → Prog AV) (sh : List Sh) (e : Ty) (x : ShDs sh) : Option (List (D e)) := run ((q (mks sh x)).bind (finP false)) false ⟨[], 0⟩ ⟨[], []⟩ fun v h _ => (rdS (rowS e) [(0, v)] h).map fun d => d.2.1
def conNR (sh : List Sh) (e : Ty) (G : ShDs sh → Option (List (D e))) (args : List AV) : Option (Bool × AV × List Blk) := (rds sh args).bind fun x => (G x).map fun l => (true, .row 0, [.row e l])
def conR (dl : Bool) (sh : List Sh) (e : Ty) (G : ShDs sh → Option (List (D e))) (args : List AV) : Prog AV :=
  frzL dl args fun args' => .opt (rds sh args') fun x => .opt (G x) fun l => .new (.row e l) fun id => .ret (.row id)
theorem conR_sound {g : FuncId} {q : List AV → Prog AV} (hq : SoundA P g q) (dl : Bool) {sh : List Sh} {e : Ty} (hsh : frees sh = true) {G : ShDs sh → Option (List (D e))} (hG : ∀ x r, G x = some r → evR q sh e x = some r)
    (hpl : dl = true ∨ plainT (eTy e) = true) : SoundA P g (conR dl sh e G) := by
  refine SoundA.weaken fun args tr h f r h' f' e1 => ⟨specP dl (conNR sh e G), f', ?_, ?_⟩
  · refine soundA_spec (fz := false) (hq.qIn hsh) fun args v bs h => ?_
    obtain ⟨x, e1, e2⟩ := Option.bind_eq_some_iff.1 h
    obtain ⟨r, e3, e4⟩ := Option.map_eq_some_iff.1 e2
    cases e4
    refine ⟨rds_ids sh args x hsh e1, hpl.imp id fun k => ⟨rfl, by simp only [List.all_cons, List.all_nil, plainB, Bool.and_true]; exact k⟩, ?_⟩
    have hx := hG x r e3
    unfold evR at hx
    rw [run_ex] at hx
    obtain ⟨⟨v1, h1, f1⟩, e5, e6⟩ := Option.bind_eq_some_iff.1 hx
    obtain ⟨d, e7, e8⟩ := Option.map_eq_some_iff.1 e6
    obtain ⟨hT, hH⟩ := rdS_some (s := rowS e) rfl e7
    obtain rfl : v1 = .row 0 := by
      have : [(0, v1)] = [(0, AV.row 0)] := hT
      simpa using this
    refine ⟨f1, ?_⟩
    unfold Go.Proofs.Ytbdcblpjemmipaa.Ex.qIn
    rw [e1]
    show ex ((q (mks sh x)).bind (finP false)) false ⟨[], 0⟩ ⟨[], []⟩ = _
    rw [e5]
    simp only at hH
    rw [hH, ← e8]
    rfl
  · have e2 : conR dl sh e G args = (frzL dl args .ret).bind fun args' => .opt (rds sh args') fun x => .opt (G x) fun l => .new (.row e l) fun id => .ret (.row id) := by
      rw [frzL_bind]; rfl
    have e3 : specP dl (conNR sh e G) args = (frzL dl args .ret).bind fun args' => .opt (conNR sh e G args') fun r => .ite r.1 (.ctr fun base => newsP (shiftB base r.2.2.length) r.2.2 (.ret (r.2.1.ren (shiftB base r.2.2.length)))) .fail := by
      rw [frzL_bind]; rfl
    unfold ex at e1 ⊢
    rw [e2, run_bind, run_ex] at e1
    rw [e3, run_bind, run_ex]
    obtain ⟨⟨a1, h1, f1⟩, e4, e5⟩ := Option.bind_eq_some_iff.1 e1
    rw [e4]
    simp only [Option.bind_some, run] at e5 ⊢
    obtain ⟨x, e6, e7⟩ := Option.bind_eq_some_iff.1 e5
    obtain ⟨y, e8, e9⟩ := Option.bind_eq_some_iff.1 e7
    cases e9
    unfold conNR
    rw [e6]
    simp only [Option.bind_some, e8, Option.map_some, cond_true]
    rfl
end
end
end Go.Proofs.Ytbdcblpjemmipaa.Ex

namespace Go.Proofs.Ytbdcblpjemmipaa.Ex
set_option linter.unusedSectionVars false
set_option linter.unusedVariables false
set_option linter.unusedSimpArgs false
section
variable [RT]
def frcV {β : Type} (v : AV) (k : AV → β) : β := match v with
  | .undef => k .undef
  | .int c n => k (.int c n)
  | .bool b => k (.bool b)
  | .str s => k (.str s)
  | .nil => k .nil
  | .sl e l => k (.sl e l)
  | .ptr id off => k (.ptr id off)
  | .row id => k (.row id)
  | .eptr id sz i off => k (.eptr id sz i off)
  | .sub id sz lo hi => k (.sub id sz lo hi)
  | .view cs off => k (.view cs off)
  | .clo f a b => k (.clo f a b)
  | .agg cs => k (.agg cs)
  | .tup vs => k (.tup vs)
theorem frcV_eq {β : Type} (v : AV) (k : AV → β) : frcV v k = k v := by cases v <;> rfl
noncomputable def lookX {β : Type} (T : Tm) (l : List Nat) : (Tm → β) → β := @List.rec Nat (fun _ => (Tm → β) → β) (fun k => k []) (fun t _ ih k => frcV (getR T t) fun v => ih fun R => k ((t, v) :: R)) l
theorem lookX_eq {β : Type} (T : Tm) (l : List Nat) (k : Tm → β) : lookX T l k = k (lookT T l) := by
  induction l generalizing k with
  | nil => rfl
  | cons t l ih =>
    show frcV (getR T t) (fun v => lookX T l fun R => k ((t, v) :: R)) = _
    rw [frcV_eq, ih, getR_eq]; rfl
noncomputable def qIndex (ti : TypeId → Option TInfo) (T : Tm) (t : TypeId) (x ix : Operand) : Prog AV := .opt (ti t) fun i => bif isStr i.ty then
    match evOR T x, evOR T ix with
    | .str s, .int _ n => .ite (decide (0 ≤ n)) (.opt s[n.toNat]? fun b => .ret (.int .u8 (b.toNat : Nat))) .fail
    | _, _ => .fail
    else .fail

noncomputable def qLoad2 (ti : TypeId → Option TInfo) (T : Tm) (t : TypeId) (p : Operand) : Prog AV := .opt (ti t) fun i => match evOR T p with
    | .ptr id off => .get id fun
      | .box cs => .opt (subR cs off i.ty.size) fun ds => .ret (pack i.ty ds)
      | .row _ _ => .fail
    | .view cs off => .opt (subR cs off i.ty.size) fun ds => .ret (pack i.ty ds)
    | .eptr id sz j off => .get id fun
      | .row e l => bif Nat.beq sz (eTy e).size then .opt l[j]? fun d => .opt (subL (expand (eTy e) (eVal e d)) off i.ty.size) fun ds => .ret (pack i.ty ds) else .fail
      | .box _ => .fail
    | _ => .fail
noncomputable def qStore2 (ti : TypeId → Option TInfo) (T : Tm) (t : TypeId) (p x : Operand) : Prog AV := .opt (ti t) fun i => .opt (cellsOf (evOR T x)) fun vs => bif Nat.beq (lenR vs) i.ty.size && flatR vs then
      match evOR T p with
      | .ptr id off => .get id fun
        | .box cs => bif leB (off + lenR vs) (lenR cs) then .put id (.box (splR cs off vs)) (.ret .undef) else .fail
        | .row _ _ => .fail
      | .eptr id sz j off => freeze vs fun vs' => .get id fun
        | .row e l => bif Nat.beq sz (eTy e).size then .opt l[j]? fun d =>
          bif leB (off + vs'.length) (eTy e).size then .opt (collapse (eTy e) (splice (expand (eTy e) (eVal e d)) off vs')) fun d' => .put id (.row e (l.set j (eMk e d'))) (.ret .undef) else .fail
          else .fail
        | .box _ => .fail
      | _ => .fail
    else .fail
noncomputable def qIndexAddr2 (ti : TypeId → Option TInfo) (T : Tm) (t : TypeId) (x ix : Operand) : Prog AV := .opt (ti t) fun i => .opt (ti i.elem) fun ie => bif isSl i.ty then
    match evOR T x, evOR T ix with
    | .sl e l, .int _ n => bif Nat.beq ie.ty.size (eTy e).size then .ite (decide (0 ≤ n)) (.opt l[n.toNat]? fun d => .ret (.view (expand (eTy e) (eVal e d)) 0)) .fail else .fail
    | .row id, .int _ n => .get id fun
      | .row e l => bif Nat.beq ie.ty.size (eTy e).size then .ite (decide (0 ≤ n)) (.opt l[n.toNat]? fun _ => .ret (.eptr id (eTy e).size n.toNat 0)) .fail else .fail
      | .box _ => .fail
    | _, _ => .fail
    else .fail

abbrev KX (R α : Type) := α → Hp → Foot → Option R
abbrev RunX (R α : Type) := Bool → Hp → Foot → KX R α → Option R
section
variable {R : Type}
noncomputable def yIte (b : Bool) (p q : Option R) : Option R := @Bool.rec (fun _ => Option R) q p b
noncomputable def xOpt {α β : Type} (x : Option β) (k : β → RunX R α) : RunX R α := fun tr h f K => @Option.rec β (fun _ => Option R) none (fun b => k b tr h f K) x
noncomputable def xAlt {α β γ : Type} (x : β ⊕ γ) (k : β → RunX R α) (l : γ → RunX R α) : RunX R α := fun tr h f K => @Sum.rec β γ (fun _ => Option R) (fun b => k b tr h f K) (fun c => l c tr h f K) x
noncomputable def xGet {α : Type} (id : Nat) (k : Blk → RunX R α) : RunX R α := fun tr h f K => @Option.rec Blk (fun _ => Option R) none (fun b => k b tr h (addR tr f id) K) (findR h.blks id)
noncomputable def xPut {α : Type} (id : Nat) (b : Blk) (k : RunX R α) : RunX R α := fun tr h f K => @Option.rec Blk (fun _ => Option R) none (fun _ => k tr { h with blks := setR h.blks id b } (addW tr f id) K) (findR h.blks id)
noncomputable def xNew {α : Type} (b : Blk) (k : Nat → RunX R α) : RunX R α := fun tr h f K => k h.c tr { blks := (h.c, b) :: h.blks, c := h.c + 1 } (addW tr f h.c) K
noncomputable def xDel {α : Type} (id : Nat) (k : RunX R α) : RunX R α := fun tr h f K => @Option.rec Blk (fun _ => Option R) none (fun _ => k tr { h with blks := delR h.blks id } (addW tr f id) K) (findR h.blks id)
noncomputable def xSeek {α : Type} (n : Nat) (k : RunX R α) : RunX R α := fun tr h f K => @Bool.rec (fun _ => Option R) none (k tr { h with c := n } f K) (leB h.c n)
noncomputable def xTrace {α β : Type} (p : RunX R β) (k : β → Foot → RunX R α) : RunX R α := fun tr h f K => p true h { rd := [], wr := [] } fun b h' f' => k b f' tr h' { rd := f'.rd ++ f.rd, wr := f'.wr ++ f.wr } K
noncomputable def xNorm {α : Type} (base : Nat) (keep : List Nat) (T : Tm) (k : Tm → RunX R α) : RunX R α := fun tr h f K =>
    bif tr then none else
    let order := normOrder base keep T h.blks
    bif nodupN order && leB base h.c then k (keepT (renOf base order) T keep) tr { blks := extB base (renOf base order) h.blks ++ newB (renOf base order) h.blks base order, c := base + order.length } f K
    else none
noncomputable def xGlob {α β : Type} (g : Hp → Option (β × Hp)) (k : β → RunX R α) : RunX R α := fun tr h f K => bif tr then none else @Option.rec (β × Hp) (fun _ => Option R) none (fun r => k r.1 tr r.2 f K) (g h)
noncomputable def runX {α : Type} (p : Prog α) : RunX R α :=
  @Prog.rec _ (fun {α} _ => RunX R α)
    (fun a _ h f K => K a h f)
    (fun _ _ _ _ => none)
    (fun b _ _ ihp ihq tr h f K => yIte b (ihp tr h f K) (ihq tr h f K))
    (fun x _ ih => xOpt x ih)
    (fun x _ _ ihk ihl => xAlt x ihk ihl)
    (fun id _ ih => xGet id ih)
    (fun id b _ ih => xPut id b ih)
    (fun b _ ih => xNew b ih)
    (fun id _ ih => xDel id ih)
    (fun _ ih tr h f K => ih h.c tr h f K)
    (fun n _ ih => xSeek n ih)
    (fun _ _ ihp ihk => xTrace ihp ihk)
    (fun base keep T _ ih => xNorm base keep T ih)
    (fun g _ ih => xGlob g ih) _ p
end
theorem runX_eq {α : Type} (p : Prog α) : ∀ {R : Type} (tr : Bool) (h : Hp) (f : Foot) (K : KX R α), runX p tr h f K = run p tr h f K := by
  induction p with
  | ret a => intros; rfl
  | fail => intros; rfl
  | ite b p q ihp ihq => intro R tr h f K; cases b <;> first | exact ihp .. | exact ihq ..
  | opt x k ih => intro R tr h f K; cases x <;> first | rfl | exact ih ..
  | alt x k l ihk ihl => intro R tr h f K; cases x <;> first | exact ihk .. | exact ihl ..
  | get id k ih =>
    intro R tr h f K
    change @Option.rec Blk (fun _ => Option R) none (fun b => runX (k b) tr h (addR tr f id) K) (findR h.blks id) = _
    rw [findR_eq]
    simp only [run]
    cases findB h.blks id <;> first | rfl | exact ih ..
  | put id b k ih =>
    intro R tr h f K
    change @Option.rec Blk (fun _ => Option R) none (fun _ => runX k tr { h with blks := setR h.blks id b } (addW tr f id) K) (findR h.blks id) = _
    rw [findR_eq, setR_eq]
    simp only [run]
    cases findB h.blks id <;> first | rfl | exact ih ..
  | new b k ih => intro R tr h f K; exact ih ..
  | del id k ih =>
    intro R tr h f K
    change @Option.rec Blk (fun _ => Option R) none (fun _ => runX k tr { h with blks := delR h.blks id } (addW tr f id) K) (findR h.blks id) = _
    rw [findR_eq, delR_eq]
    simp only [run]
    cases findB h.blks id <;> first | rfl | exact ih ..
  | ctr k ih => intro R tr h f K; exact ih ..
  | seek n k ih =>
    intro R tr h f K
    change @Bool.rec (fun _ => Option R) none (runX k tr { h with c := n } f K) (leB h.c n) = _
    simp only [run]
    cases leB h.c n <;> first | rfl | exact ih ..
  | trace p k ihp ihk =>
    intro R tr h f K
    change runX p true h { rd := [], wr := [] } (fun b h' f' => runX (k b f') tr h' { rd := f'.rd ++ f.rd, wr := f'.wr ++ f.wr } K) = _
    rw [ihp]
    simp only [run, ihk]
  | norm base keep T k ih =>
    intro R tr h f K
    simp only [run]
    cases tr
    · change (bif nodupN (normOrder base keep T h.blks) && leB base h.c then runX (k (keepT (renOf base (normOrder base keep T h.blks)) T keep)) false _ f K else none) = _
      simp only [cond_false]
      cases (nodupN (normOrder base keep T h.blks) && leB base h.c) <;> first | rfl | exact ih ..
    · rfl
  | glob g k ih =>
    intro R tr h f K
    simp only [run]
    cases tr
    · change @Option.rec _ (fun _ => Option R) none (fun r => runX (k r.1) false r.2 f K) (g h) = _
      simp only [cond_false]
      cases g h <;> first | rfl | exact ih ..
    · rfl

abbrev CalX (R : Type) := FuncId → List AV → RunX R AV
def Same {R α : Type} (t : RunX R α) (p : Prog α) : Prop := ∀ (tr : Bool) (h : Hp) (f : Foot) (K : KX R α), t tr h f K = run p tr h f K
theorem Same.run {R α : Type} (p : Prog α) : Same (R := R) (runX p) p := fun tr h f K => runX_eq p tr h f K
theorem Same.no {R α : Type} : Same (R := R) (fun _ _ _ _ => none) (.fail : Prog α) := fun _ _ _ _ => rfl
theorem Same.bind {R α β : Type} {t : RunX R α} {p : Prog α} {u : α → RunX R β} {q : α → Prog β} (hp : Same t p) (hq : ∀ a, Same (u a) (q a)) : Same (fun tr h f K => t tr h f fun a h f => u a tr h f K) (p.bind q) := by
  intro tr h f K
  rw [run_bind, ← hp]
  show t tr h f (fun a h f => u a tr h f K) = _
  congr 1
  funext a h f
  exact hq a tr h f K

section
variable {R : Type}
noncomputable def xCall (ti : TypeId → Option TInfo) (cal : CalX R) (T : Tm) (c : Call) : RunX R AV := match c.callee with
    | .builtin b => runX (builtinP ti b c.argTypes.toList (evLR T c.args.toList))
    | .value x => match evOR T x with
      | .clo g first caps => cal g (appR first (appR (evLR T c.args.toList) caps))
      | _ => fun _ _ _ _ => none
    | .invoke _ _ => fun _ _ _ _ => none
noncomputable def opX (cx : Ctx) (cal : CalX R) (T : Tm) (o : Oper) : RunX R AV :=
  match o.op with
  | .move x => fun _ h f K => K (evOR T x) h f
  | .assign x => fun _ h f K => K (evOR T x) h f
  | .call c => xCall (tiL cx.tab) cal T c
  | .pick c a b => runX (qPick T c a b)
  | .alloc t => runX (qAlloc (tiL cx.tab) t)
  | .box _ x => runX (qBox T x)
  | .load t p => runX (qLoad2 (tiL cx.tab) T t p)
  | .store t p x => runX (qStore2 (tiL cx.tab) T t p x)
  | .fieldAddr s x g => runX (qFieldAddr (tiL cx.tab) T s x g)
  | .field t x g => runX (qField (tiL cx.tab) T t x g)
  | .indexAddr t x ix => runX (qIndexAddr2 (tiL cx.tab) T t x ix)
  | .binOp op xT x y _ => runX (binP (tiL cx.tab) op xT (evOR T x) (evOR T y))
  | .unOp op _ x => runX (qUn T op x)
  | .convert src dst x => runX (qConvert (tiL cx.tab) T src dst x)
  | .build t ps => runX (qBuild (tiL cx.tab) T t ps)
  | .buildSlice t n ps => runX (qBuildSlice (tiL cx.tab) T t n ps)
  | .makeSlice t n c => runX (qMakeSlice (tiL cx.tab) T t n c)
  | .slice t x lo hi mx => runX (qSlice (tiL cx.tab) T t x lo hi mx)
  | .extract t i => runX (qExtract T t i)
  | .makeFunc fn first caps => runX (qMakeFunc T fn first caps)
  | .nilCheck x => runX (qNilCheck T x)
  | .index t x ix => runX (qIndex (tiL cx.tab) T t x ix)
  | _ => fun _ _ _ _ => none

theorem opX_same (cx : Ctx) {cal : CalX R} {calP : FuncId → List AV → Prog AV} (hc : ∀ g a, Same (cal g a) (calP g a)) (T : Tm) (o : Oper) : Same (opX cx cal T o) (opP cx calP T o) := by
  unfold opX opP xCall qPick qBox qLoad2 qStore2 qFieldAddr qField qIndexAddr2 qUn qConvert qBuild qBuildSlice qMakeSlice qSlice qExtract qMakeFunc qNilCheck qAlloc qIndex
  simp only [evOR_eq, evLR_eq, subR_eq, fillR_eq, lenR_eq, flatR_eq, splR_eq, nthR_eq, qBuiltin_eq, appR_eq]
  cases o.op with
  | call c =>
    simp only
    cases c.callee with
    | value x =>
      simp only
      cases evO T x with
      | clo g first caps => simp only; rw [← List.append_assoc]; exact hc _ _
      | _ => exact Same.no
    | builtin b => exact Same.run _
    | invoke x m => exact Same.no
  | move x => exact fun tr h f K => rfl
  | assign x => exact fun tr h f K => rfl
  | _ => first | exact Same.run _ | exact Same.no

noncomputable def stepX (cx : Ctx) (cal : CalX R) (n : Nat) (ops : List Oper) (T : Tm) (o : Oper) : RunX R Tm := fun tr h f K =>
  bif inN n o.dst then match o.guard with
  | none => opX cx cal T o tr h f fun v h f => K (putT T o.dst v) h f
  | some (j, want) => match dstOf ops j with
    | none => none
    | some g => match getR T g with
      | .bool b => yIte b
        (bif want then opX cx cal ((g, .bool true) :: T) o tr h f (fun v h f => K (putT ((g, .bool true) :: T) o.dst v) h f) else K (putT ((g, .bool true) :: T) o.dst (.tup [])) h f)
        (bif want then K (putT ((g, .bool false) :: T) o.dst (.tup [])) h f else opX cx cal ((g, .bool false) :: T) o tr h f (fun v h f => K (putT ((g, .bool false) :: T) o.dst v) h f))
      | .tup [] => K (putT T o.dst (.tup [])) h f
      | _ => none
  else none

theorem stepX_same (cx : Ctx) {cal : CalX R} {calP : FuncId → List AV → Prog AV} (hc : ∀ g a, Same (cal g a) (calP g a)) (n : Nat) (ops : List Oper) (T : Tm) (o : Oper) : Same (stepX cx cal n ops T o) (stepP cx calP n ops T o) := by
  intro tr h f K
  have one : ∀ (T : Tm) (g : AV → Tm), (opX cx cal T o tr h f fun v h f => K (g v) h f) = run ((opP cx calP T o).bind fun v => .ret (g v)) tr h f K := fun T g => by
    rw [run_bind, opX_same cx hc]; rfl
  unfold stepX stepP
  simp only [getR_eq]
  cases hin : inN n o.dst
  · rfl
  simp only [cond_true]
  cases hg : o.guard with
  | none => exact one T _
  | some g =>
    obtain ⟨j, want⟩ := g
    simp only
    cases hd : dstOf ops j with
    | none => rfl
    | some g =>
      simp only
      generalize getT T g = v
      cases v with
      | bool b =>
        simp only [Go.Proofs.Ytbdcblpjemmipaa.Ex.run]
        cases b <;> cases want <;> first | rfl | exact one _ _
      | tup vs => cases vs <;> rfl
      | _ => rfl

noncomputable def seqX (cx : Ctx) (cal : CalX R) (n : Nat) (ops : List Oper) (tr : Bool) (K : KX R Tm) (l : List Oper) : KX R Tm :=
  @List.rec Oper (fun _ => KX R Tm) K (fun o _ ih T h f => stepX cx cal n ops T o tr h f ih) l
theorem seqX_same (cx : Ctx) {cal : CalX R} {calP : FuncId → List AV → Prog AV} (hc : ∀ g a, Same (cal g a) (calP g a)) (n : Nat) (ops : List Oper) : ∀ (l : List Oper) (T : Tm), Same (fun tr h f K => seqX cx cal n ops tr K l T h f) (seqP cx calP n ops l T)
  | [], T => fun tr h f K => rfl
  | o :: l, T => (stepX_same cx hc n ops T o).bind (u := fun T' tr h f K => seqX cx cal n ops tr K l T' h f) fun T' => seqX_same cx hc n ops l T'

noncomputable def drawX (cx : Ctx) (cal : CalX R) (n : Nat) (ops : List Oper) (c0 : Nat) (tr : Bool) (K : KX R Tm) (l : List Oper) : Nat → List Foot → KX R Tm :=
  @List.rec Oper (fun _ => Nat → List Foot → KX R Tm)
    (fun j _ T h f => @Bool.rec (fun _ => Option R) none (K T ⟨h.blks, c0 + j * cx.spn⟩ f) (leB h.c (c0 + j * cx.spn)))
    (fun o _ ih j fs T h f => @Bool.rec (fun _ => Option R) none
      (stepX cx cal n ops T o true ⟨h.blks, c0 + j * cx.spn⟩ ⟨[], []⟩ fun T' h' f' =>
        @Bool.rec (fun _ => Option R) none (ih (j + 1) (appR fs [f']) T' h' ⟨f'.rd ++ f.rd, f'.wr ++ f.wr⟩) (apartR ops j f' fs 0)) (leB h.c (c0 + j * cx.spn))) l
theorem drawX_same (cx : Ctx) {cal : CalX R} {calP : FuncId → List AV → Prog AV} (hc : ∀ g a, Same (cal g a) (calP g a)) (n : Nat) (ops : List Oper) (c0 : Nat) : ∀ (l : List Oper) (j : Nat) (fs : List Foot) (T : Tm),
    Same (fun tr h f K => drawX cx cal n ops c0 tr K l j fs T h f) (drawP cx calP n ops c0 l j fs T)
  | [], j, fs, T => fun tr h f K => by
    change @Bool.rec (fun _ => Option R) none (K T ⟨h.blks, c0 + j * cx.spn⟩ f) (leB h.c (c0 + j * cx.spn)) = _
    simp only [drawP, Go.Proofs.Ytbdcblpjemmipaa.Ex.run]
    cases leB h.c (c0 + j * cx.spn) <;> rfl
  | o :: l, j, fs, T => fun tr h f K => by
    change @Bool.rec (fun _ => Option R) none (stepX cx cal n ops T o true ⟨h.blks, c0 + j * cx.spn⟩ ⟨[], []⟩ fun T' h' f' =>
        @Bool.rec (fun _ => Option R) none (drawX cx cal n ops c0 tr K l (j + 1) (appR fs [f']) T' h' ⟨f'.rd ++ f.rd, f'.wr ++ f.wr⟩) (apartR ops j f' fs 0)) (leB h.c (c0 + j * cx.spn)) = _
    simp only [drawP, Go.Proofs.Ytbdcblpjemmipaa.Ex.run]
    cases leB h.c (c0 + j * cx.spn)
    · rfl
    simp only [cond_true]
    rw [stepX_same cx hc]
    congr 1
    funext T' h' f'
    rw [apartR_eq, appR_eq]
    cases apartP ops j f' 0 fs
    · rfl
    · exact drawX_same cx hc n ops c0 l (j + 1) (fs ++ [f']) T' tr h' _ K

abbrev EX (R : Type) := Nat → Tm → Hp → Foot → Option R
noncomputable def iterX (F : Tm → Hp → Foot → EX R → Option R) (K : EX R) (n : Nat) : Tm → Hp → Foot → Option R :=
  @Nat.rec (fun _ => Tm → Hp → Foot → Option R) (fun _ _ _ => none) (fun _ ih T h f => F T h f fun e T h f => @Nat.rec (fun _ => Option R) (ih T h f) (fun k _ => K (k + 1) T h f) e) n
noncomputable def xRegion (cx : Ctx) (cal : CalX R) (fx : Fx) (tr : Bool) (ops : List Oper) (d : Bool) (T : Tm) (h : Hp) (f : Foot) (K : EX R) : Option R :=
  bif d then bif tmpsOk ops 0 ops then drawX cx cal fx.n ops h.c tr (fun T' h f => lookX T' fx.keep fun R => K 0 R h f) ops 0 [] T h f else none
    else seqX cx cal fx.n ops tr (fun T' h f => lookX T' fx.keep fun R => K 0 R h f) ops T h f
noncomputable def xCond (c : Operand) (T : Tm) (x y : Tm → Option R) : Option R := match c with
    | .tmp t => match getR T t with
      | .bool v => yIte v (x ((t, .bool true) :: T)) (y ((t, .bool false) :: T))
      | _ => none
    | .const (.bool v) => bif v then x T else y T
    | _ => none
noncomputable def evCX (cx : Ctx) (cal : CalX R) (fx : Fx) (tr : Bool) : Code → Nat → Tm → Hp → Foot → EX R → Option R
  | .skip, _, T, h, f, K => K 0 T h f
  | .region _ ops d, _, T, h, f, K => xRegion cx cal fx tr ops.toList d T h f K
  | .seq x y, b, T, h, f, K => evCX cx cal fx tr x b T h f fun e T h f => @Nat.rec (fun _ => Option R) (evCX cx cal fx tr y b T h f K) (fun k _ => K (k + 1) T h f) e
  | .cond c x y, b, T, h, f, K => xCond c T (fun T => evCX cx cal fx tr x b T h f K) (fun T => evCX cx cal fx tr y b T h f K)
  | .block id x, _, T, h, f, K => evCX cx cal fx tr x id T h f fun e T h f => K (bif Nat.beq e (2 + id) then 0 else e) T h f
  | .loop x, b, T, h, f, K => @Option.rec (Nat → Tm → Prog (Nat × Tm)) (fun _ => Option R) (iterX (fun T h f K => evCX cx cal fx tr x b T h f K) K cx.fuel T h f) (fun p => runX (p fx.base T) tr h f fun e h f => K e.1 e.2 h f) (cx.lps fx.id b)
  | .exit id, _, T, h, f, K => K (2 + id) T h f
  | .ret, _, T, h, f, K => K 1 T h f
  | _, _, _, _, _, _ => none

def SameC (t : Tm → Hp → Foot → EX R → Option R) (tr : Bool) (p : Tm → Prog (Nat × Tm)) : Prop := ∀ (T : Tm) (h : Hp) (f : Foot) (K : EX R), t T h f K = run (p T) tr h f fun e h f => K e.1 e.2 h f

theorem iterX_same {F : Tm → Hp → Foot → EX R → Option R} {tr : Bool} {p : Tm → Prog (Nat × Tm)} (hF : SameC F tr p) : ∀ n, SameC (fun T h f K => iterX F K n T h f) tr (iterP p n)
  | 0 => fun T h f K => rfl
  | n + 1 => fun T h f K => by
    rw [iterP, run_bind]
    change F T h f _ = _
    rw [hF]
    congr 1
    funext e h1 f1
    obtain ⟨e1, T1⟩ := e
    cases e1 with
    | zero => exact iterX_same hF n T1 h1 f1 K
    | succ m => rfl

theorem evCX_same (cx : Ctx) {cal : CalX R} {calP : FuncId → List AV → Prog AV} (hc : ∀ g a, Same (cal g a) (calP g a)) (fx : Fx) (tr : Bool) : ∀ (c : Code) (b : Nat), SameC (evCX cx cal fx tr c b) tr (evC cx calP fx b c) := by
  intro c
  induction c with
  | skip => intro b T h f K; rfl
  | region id ops d =>
    intro b T h f K
    simp only [evCX, xRegion, lookX_eq, evC]
    rw [run_bind]
    cases d
    · simp only [cond_false]
      exact seqX_same cx hc fx.n ops.toList ops.toList T tr h f _
    · simp only [cond_true]
      cases tmpsOk ops.toList 0 ops.toList
      · rfl
      · simp only [cond_true, run]
        exact drawX_same cx hc fx.n ops.toList h.c ops.toList 0 [] T tr h f _
  | seq x y ihx ihy =>
    intro b T h f K
    simp only [evCX, evC]
    rw [run_bind, ihx b]
    congr 1
    funext e h1 f1
    obtain ⟨e1, T1⟩ := e
    cases e1 with
    | zero => exact ihy b T1 h1 f1 K
    | succ m => rfl
  | cond c x y ihx ihy =>
    intro b T h f K
    simp only [evCX, xCond, getR_eq, evC]
    cases c with
    | tmp t =>
      simp only
      generalize getT T t = v
      cases v with
      | bool v =>
        simp only [run]
        cases v
        · exact ihy b _ h f K
        · exact ihx b _ h f K
      | _ => rfl
    | const u =>
      cases u with
      | bool v => cases v with
        | true => exact ihx b T h f K
        | false => exact ihy b T h f K
      | _ => rfl
    | _ => rfl
  | block id x ih =>
    intro b T h f K
    simp only [evCX, evC]
    rw [run_bind, ih id]
    rfl
  | loop x ih =>
    intro b T h f K
    simp only [evCX, evC]
    cases hl : cx.lps fx.id b with
    | some p => exact runX_eq _ _ _ _ _
    | none => exact iterX_same (ih b) cx.fuel T h f K
  | exit id => intro b T h f K; rfl
  | ret => intro b T h f K; rfl
  | _ => intro b T h f K; rfl

noncomputable def evBX (cx : Ctx) (cal : CalX R) (keep : List Nat) (g : FuncId) (fn : Func) (args : List AV) : RunX R AV := fun tr h f K =>
  match fn.body with
  | none => none
  | some c => bif leB (lenR args) fn.ntmps then evCX cx cal ⟨g, fn.ntmps, keep, h.c⟩ tr c 0 (argsT 0 args) h f fun e T h f => match e with
    | 0 | 1 => runX (resP (tiL cx.tab) T fn.results.toList fun
      | [v] => .ret v
      | vs => .ret (.tup vs)) tr h f K
    | _ => none
    else none
theorem evBX_same (cx : Ctx) {cal : CalX R} {calP : FuncId → List AV → Prog AV} (hc : ∀ g a, Same (cal g a) (calP g a)) (keep : List Nat) (g : FuncId) (fn : Func) (args : List AV) : Same (evBX cx cal keep g fn args) (evB cx calP keep g fn args) := by
  intro tr h f K
  unfold evBX evB
  rw [lenR_eq]
  cases fn.body with
  | none => rfl
  | some c =>
    simp only
    cases leB args.length fn.ntmps
    · rfl
    · simp only [cond_true, run]
      rw [run_bind, evCX_same cx hc]
      congr 1
      funext e h1 f1
      obtain ⟨e1, T1⟩ := e
      match e1 with
      | 0 => exact runX_eq _ _ _ _ _
      | 1 => exact runX_eq _ _ _ _ _
      | n + 2 => rfl
noncomputable def evFX (cx : Ctx) (keeps : FuncId → List Nat) : Nat → CalX R
  | 0, g, args => @Option.rec (List AV → Prog AV) (fun _ => RunX R AV) (fun _ _ _ _ => none) (fun p => runX (p args)) (cx.spec g)
  | n + 1, g, args => @Option.rec (List AV → Prog AV) (fun _ => RunX R AV) (@Option.rec Func (fun _ => RunX R AV) (fun _ _ _ _ => none) (fun fn => evBX (cx.at n) (evFX cx keeps n) (keeps g) g fn args) (cx.inl g)) (fun p => runX (p args)) (cx.spec g)
theorem evFX_same (cx : Ctx) (keeps : FuncId → List Nat) : ∀ (n : Nat) (g : FuncId) (a : List AV), Same (R := R) (evFX cx keeps n g a) (evF cx keeps n g a)
  | 0, g, a => by
    simp only [evFX, evF]
    cases cx.spec g with
    | none => exact Same.no
    | some p => exact Same.run _
  | n + 1, g, a => by
    simp only [evFX, evF]
    cases cx.spec g with
    | some p => exact Same.run _
    | none =>
      cases cx.inl g with
      | none => exact Same.no
      | some fn => exact evBX_same (cx.at n) (evFX_same cx keeps n) (keeps g) g fn a
end

noncomputable def evGX (cx : Ctx) (keeps : FuncId → List Nat) (n : Nat) (g : FuncId) (sh : List Sh) (rs : Sh) (x : ShDs sh) : Option (ShD rs) :=
  evFX cx keeps n g (mks sh x) false ⟨[], 0⟩ ⟨[], []⟩ fun v h f => runX (outP rs v) false h f fun d _ _ => some d
theorem evGX_eq (cx : Ctx) (keeps : FuncId → List Nat) (n : Nat) (g : FuncId) (sh : List Sh) (rs : Sh) (x : ShDs sh) : evG (evF cx keeps n g) sh rs x = evGX cx keeps n g sh rs x := by
  unfold evG evGX
  rw [run_bind, evFX_same]
  simp only [runX_eq]
noncomputable def evRX (cx : Ctx) (keeps : FuncId → List Nat) (n : Nat) (g : FuncId) (sh : List Sh) (e : Ty) (x : ShDs sh) : Option (List (D e)) :=
  evFX cx keeps n g (mks sh x) false ⟨[], 0⟩ ⟨[], []⟩ fun v h f => runX (finP false v) false h f fun v h _ => (rdS (rowS e) [(0, v)] h).map fun d => d.2.1
theorem evRX_eq (cx : Ctx) (keeps : FuncId → List Nat) (n : Nat) (g : FuncId) (sh : List Sh) (e : Ty) (x : ShDs sh) : evR (evF cx keeps n g) sh e x = evRX cx keeps n g sh e x := by
  unfold evR evRX
  rw [run_bind, evFX_same]
  simp only [runX_eq]
noncomputable def rdX {R : Type} (cx : Ctx) (keeps : FuncId → List Nat) (n : Nat) (fx : Fx) (b : Nat) (x : Code) (base : Nat) (keep : Nat → List Nat) (T : Tm) (h : Hp) (K : Nat → Tm → Hp → Option R) : Option R :=
  evCX cx (evFX cx keeps n) fx false x b T h ⟨[], []⟩ fun e T h f => runX (.norm base (keep e) T fun T' => .ret (e, T')) false h f fun r h _ => K r.1 r.2 h
theorem rdX_eq {R : Type} (cx : Ctx) (keeps : FuncId → List Nat) (n : Nat) (fx : Fx) (b : Nat) (x : Code) (base : Nat) (keep : Nat → List Nat) (T : Tm) (h : Hp) (K : Nat → Tm → Hp → Option R) :
    roundK base keep (evC cx (evF cx keeps n) fx b x) T h K = rdX cx keeps n fx b x base keep T h K := by
  unfold roundK rdX
  rw [run_bind, evCX_same cx (evFX_same cx keeps n)]
  simp only [runX_eq]
theorem varX_ok {X Y : Type} {base0 : Nat} {keep : Nat → List Nat} {cx : Ctx} {keeps : FuncId → List Nat} {n id nt : Nat} {kp : List Nat} {b : Nat} {c : Code} {s : StS} {flat : StD s → X} {un : X → StD s} (hss : strictS s = true) (hu : ∀ d, un (flat d) = d)
    {getY : Nat → Tm → Hp → Option Y} {outY : Y → (Nat × Tm) × Hp} (hY : ∀ c T h y, getY c T h = some y → ((c, T), h) = outY y) {step : X → Option (X ⊕ Y)}
    (hs : ∀ x, rdX cx keeps n ⟨id, nt, kp, base0⟩ b c base0 keep (sT s (un x)) (sH s (un x)) (rdO (fun T h => (rdS s T h).map flat) getY) = step x) {L : X → Option Y} (hL : ∀ x y, L x = some y → ∃ n, iterO step n x = some y)
    {alt : Y → Prog (Nat × Tm)} (ha : AltOk alt outY) {next : Nat → Tm → Prog (Nat × Tm)} (hn : VarOk keep (fun base => evC cx (evF cx keeps n) ⟨id, nt, kp, base⟩ b c) next) :
    VarOk keep (fun base => evC cx (evF cx keeps n) ⟨id, nt, kp, base⟩ b c) (varP base0 (fun T h => (rdS s T h).map flat) L alt next) :=
  varP_ok hss hu hY (fun x => (rdX_eq _ _ _ _ _ _ _ _ _ _ _).trans (hs x)) hL ha hn
end
end Go.Proofs.Ytbdcblpjemmipaa.Ex

namespace Go.Proofs.Ytbdcblpjemmipaa.Ex
set_option linter.unusedVariables false
set_option linter.unusedSimpArgs false
abbrev I := Int × Int
def nn : I := (1, 0)
def aa : I := (-2147483648, 2147483647)
def empB (x : I) : Bool := decide (x.1 > x.2)
def fitB (n : Int) : Bool := decide (n ≥ -2147483648) && decide (n ≤ 2147483647)
def isB (x : I) : Bool := (x.1 == 1 && x.2 == 0) || (decide (x.1 ≤ x.2) && (fitB x.1 && fitB x.2))
def leqB (x y : I) : Bool := empB x || (decide (x.1 ≥ y.1) && decide (x.2 ≤ y.2))
def mn (a b : Int) : Int := if b < a then b else a
def mx (a b : Int) : Int := if b > a then b else a
def iJoin (x y : I) : I := if empB x then (if empB y then nn else y) else if empB y then x else (mn x.1 y.1, mx x.2 y.2)
def rJoin (x y : I) : I := if empB x then y else if empB y then x else (mn x.1 y.1, mx x.2 y.2)
theorem wrap_id {n : Int} (h : -9223372036854775808 ≤ n) (h' : n ≤ 9223372036854775807) : IntKind.i64.wrap n = n := by
  have : IntKind.i64.wrap n = (n + 9223372036854775808) % 18446744073709551616 - 9223372036854775808 := by
    simp [IntKind.wrap, IntKind.signed, IntKind.bits]
    split <;> omega
  rw [this]; omega
theorem wr {n : Int} (h : n.natAbs ≤ 4611686018427387904) : IntKind.i64.wrap n = n := wrap_id (by omega) (by omega)
theorem mod_lt {a b : Int} (hb : b ≠ 0) : (a.tmod b).natAbs < b.natAbs := by
  rw [Int.natAbs_tmod]
  exact Nat.mod_lt _ (by omega)
theorem mn_def (a b : Int) : (if b < a then b else a) = mn a b := rfl
theorem mx_def (a b : Int) : (if b > a then b else a) = mx a b := rfl
theorem isB_ne {y : I} (h : isB y = true) (h' : y.1 ≤ y.2) : -2147483648 ≤ y.1 ∧ y.2 ≤ 2147483647 := by
  simp only [isB, fitB, Bool.and_eq_true, Bool.or_eq_true, decide_eq_true_eq, beq_iff_eq] at h; omega
theorem isB_mk {a b : Int} (h1 : -2147483648 ≤ a) (h2 : a ≤ b) (h3 : b ≤ 2147483647) : isB (a, b) = true := by
  simp only [isB, fitB, Bool.and_eq_true, Bool.or_eq_true, decide_eq_true_eq, beq_iff_eq]; omega
def widS (z : I) (l : List Int) : I := l.foldl (fun s d => if fitB d then (if d ≤ z.1 then mx s.1 d else s.1, if d ≥ z.2 then mn s.2 d else s.2) else (s.1, s.2)) aa
def rwidS (z : I) (l : List Int) : I := l.foldl (fun s d => (if d ≤ z.1 ∧ d > s.1 then d else s.1, if d ≥ z.2 ∧ d < s.2 then d else s.2)) aa
def widV (x y : I) (l : List Int) : I := if empB y then x else if empB x then y else
  (if (iJoin x y).1 < x.1 then (widS (iJoin x y) l).1 else (iJoin x y).1, if (iJoin x y).2 > x.2 then (widS (iJoin x y) l).2 else (iJoin x y).2)
def rwidV (x y : I) (l : List Int) : I := if empB y then x else if empB x then y else
  (if (rJoin x y).1 < x.1 then (rwidS (rJoin x y) l).1 else (rJoin x y).1, if (rJoin x y).2 > x.2 then (rwidS (rJoin x y) l).2 else (rJoin x y).2)
theorem join_r {z u : I} (h : empB u = true → u = nn) : iJoin z u = rJoin z u := by
  unfold iJoin rJoin
  cases hz : empB z with
  | true => cases hu : empB u with
    | true => simp [h hu]
    | false => simp
  | false => rfl
theorem join_l (x y : I) : leqB x (iJoin x y) = true := by
  simp only [leqB, iJoin, empB, nn, mn, mx, Bool.or_eq_true, Bool.and_eq_true, decide_eq_true_eq]
  (repeat' split) <;> simp_all <;> (try (repeat' split)) <;> omega
theorem join_comm (x y : I) : iJoin x y = iJoin y x := by
  simp only [iJoin, empB, nn, mn, mx, decide_eq_true_eq]
  (repeat' split) <;> simp_all <;> (try omega)
theorem join_le (x y z : I) : leqB (iJoin x y) z = (leqB x z && leqB y z) := by
  rw [Bool.eq_iff_iff]
  simp only [leqB, iJoin, empB, nn, mn, mx, Bool.or_eq_true, Bool.and_eq_true, decide_eq_true_eq]
  (repeat' split) <;> simp_all <;> (try (repeat' split)) <;> omega
theorem emp_iff {a b : Int} : empB (a, b) = true ↔ a > b := by simp [empB]
theorem emp_no {a b : Int} (h : a ≤ b) : empB (a, b) = false := by simp [empB]; omega
theorem emp_yes {a b : Int} (h : a > b) : empB (a, b) = true := emp_iff.2 h
section
variable {a b c d : Int} (hx : a ≤ b) (hy : c ≤ d)
include hx hy
omit hx hy in
end
theorem le_of_emp {x : I} (h : empB x = false) : x.1 ≤ x.2 := by simp only [empB, decide_eq_false_iff_not] at h; omega
theorem fit_iff {n : Int} : fitB n = true ↔ -2147483648 ≤ n ∧ n ≤ 2147483647 := by simp [fitB]
def sub (x y : I) : Prop := y.1 ≤ x.1 ∧ x.2 ≤ y.2
theorem leq_iff {x y : I} : leqB x y = true ↔ (x.1 > x.2 ∨ sub x y) := by simp [leqB, empB, sub]
theorem leq_trans {x y z : I} (h : leqB x y = true) (k : leqB y z = true) : leqB x z = true := by
  rw [leq_iff] at *; unfold sub at *; omega
theorem join_r2 (x y : I) : leqB y (iJoin x y) = true := by rw [join_comm]; exact join_l y x
theorem rjoin_is {x z : I} (hx : isB x = true) (hz : isB z = true) : isB (rJoin x z) = true := by
  unfold rJoin
  cases ex : empB x with
  | true => exact hz
  | false =>
    cases ez : empB z with
    | true => exact hx
    | false =>
      have b1 := isB_ne hx (le_of_emp ex)
      have b2 := isB_ne hz (le_of_emp ez)
      have l1 := le_of_emp ex
      have l2 := le_of_emp ez
      exact isB_mk (by unfold mn; split <;> omega) (by unfold mn mx; (repeat' split) <;> omega) (by unfold mx; split <;> omega)
theorem isB_nn {x : I} (h : isB x = true) (e : empB x = true) : x = nn := by
  simp only [isB, empB, Bool.or_eq_true, Bool.and_eq_true, decide_eq_true_eq, beq_iff_eq] at h e
  rcases h with ⟨h1, h2⟩ | ⟨h1, _⟩
  · exact Prod.ext h1 h2
  · omega
theorem join_eq {x y : I} (hy : isB y = true) : iJoin x y = rJoin x y := join_r fun e => isB_nn hy e
theorem widS_eq (z : I) (hz1 : z.1 ≤ 2147483647) (hz2 : -2147483648 ≤ z.2) (l : List Int) : widS z l = rwidS z l := by
  unfold widS rwidS
  suffices h : ∀ (l : List Int) (s : I), -2147483648 ≤ s.1 → s.2 ≤ 2147483647 →
      l.foldl (fun s d => if fitB d then (if d ≤ z.1 then mx s.1 d else s.1, if d ≥ z.2 then mn s.2 d else s.2) else (s.1, s.2)) s = l.foldl (fun s d => (if d ≤ z.1 ∧ d > s.1 then d else s.1, if d ≥ z.2 ∧ d < s.2 then d else s.2)) s from
    h l aa (by decide) (by decide)
  intro l
  induction l with
  | nil => intros; rfl
  | cons d r ih =>
    intro s h1 h2
    rw [List.foldl_cons, List.foldl_cons]
    have e : (if fitB d = true then (if d ≤ z.1 then mx s.1 d else s.1, if d ≥ z.2 then mn s.2 d else s.2) else (s.1, s.2)) = ((if d ≤ z.1 ∧ d > s.1 then d else s.1, if d ≥ z.2 ∧ d < s.2 then d else s.2) : I) := by
      by_cases hf : fitB d = true
      · rw [if_pos hf]
        unfold mx mn
        simp only [Prod.mk.injEq]
        constructor <;> (repeat' split) <;> omega
      · rw [if_neg hf]
        have hf' : ¬ (-2147483648 ≤ d ∧ d ≤ 2147483647) := fun k => hf (fit_iff.2 k)
        rw [if_neg (by omega), if_neg (by omega)]
    rw [e]
    refine ih _ ?_ ?_
    · simp only; split <;> omega
    · simp only; split <;> omega
theorem isB_ends {x : I} (h : isB x = true) : x.1 ≤ 2147483647 ∧ -2147483648 ≤ x.2 ∧ -2147483648 ≤ x.1 ∧ x.2 ≤ 2147483647 := by
  cases e : empB x with
  | true => rw [isB_nn h e]; decide
  | false => have := le_of_emp e; have := isB_ne h (le_of_emp e); omega
theorem wid_eq {x y : I} (hx : isB x = true) (hy : isB y = true) (l : List Int) : widV x y l = rwidV x y l := by
  unfold widV rwidV
  rw [join_eq hy, widS_eq _ (isB_ends (rjoin_is hx hy)).1 (isB_ends (rjoin_is hx hy)).2.1]
theorem join_emp {x y : I} : empB (iJoin x y) = (empB x && empB y) := by
  unfold iJoin
  cases ex : empB x <;> cases ey : empB y <;> simp [ex, ey, show empB nn = true from rfl]
  have := le_of_emp ex; have := le_of_emp ey
  exact emp_no (by unfold mn mx; (repeat' split) <;> omega)
theorem widS_spec (z : I) (l : List Int) (h1 : -2147483648 ≤ z.1) (h2 : z.2 ≤ 2147483647) :
    (((widS z l).1 = -2147483648 ∨ (widS z l).1 ∈ l) ∧ -2147483648 ≤ (widS z l).1 ∧ (widS z l).1 ≤ z.1) ∧ (((widS z l).2 = 2147483647 ∨ (widS z l).2 ∈ l) ∧ (widS z l).2 ≤ 2147483647 ∧ z.2 ≤ (widS z l).2) := by
  unfold widS
  suffices h : ∀ (r : List Int) (s : I), (∀ d ∈ r, d ∈ l) → ((s.1 = -2147483648 ∨ s.1 ∈ l) ∧ -2147483648 ≤ s.1 ∧ s.1 ≤ z.1) → ((s.2 = 2147483647 ∨ s.2 ∈ l) ∧ s.2 ≤ 2147483647 ∧ z.2 ≤ s.2) →
      let v := r.foldl (fun s d => if fitB d then (if d ≤ z.1 then mx s.1 d else s.1, if d ≥ z.2 then mn s.2 d else s.2) else (s.1, s.2)) s
      ((v.1 = -2147483648 ∨ v.1 ∈ l) ∧ -2147483648 ≤ v.1 ∧ v.1 ≤ z.1) ∧ ((v.2 = 2147483647 ∨ v.2 ∈ l) ∧ v.2 ≤ 2147483647 ∧ z.2 ≤ v.2) from
    h l aa (fun _ h => h) ⟨.inl rfl, by decide, h1⟩ ⟨.inl rfl, by decide, h2⟩
  intro r
  induction r with
  | nil => intro s _ k1 k2; exact ⟨k1, k2⟩
  | cons d r ih =>
    intro s hm k1 k2
    rw [List.foldl_cons]
    have hd := hm d (List.mem_cons_self)
    refine ih _ (fun n hn => hm n (List.mem_cons_of_mem _ hn)) ?_ ?_
    · by_cases hf : fitB d = true
      · rw [if_pos hf]
        have hf := fit_iff.1 hf
        simp only
        by_cases c : d ≤ z.1
        · rw [if_pos c]; unfold mx; split
          · exact ⟨.inr hd, by omega, c⟩
          · exact k1
        · rw [if_neg c]; exact k1
      · rw [if_neg hf]; exact k1
    · by_cases hf : fitB d = true
      · rw [if_pos hf]
        have hf := fit_iff.1 hf
        simp only
        by_cases c : d ≥ z.2
        · rw [if_pos c]; unfold mn; split
          · exact ⟨.inr hd, by omega, c⟩
          · exact k2
        · rw [if_neg c]; exact k2
      · rw [if_neg hf]; exact k2
theorem wid_spec {x y : I} (hx : isB x = true) (hy : isB y = true) (ex : empB x = false) (ey : empB y = false) (l : List Int) :
    ((widV x y l).1 = x.1 ∨ ((widV x y l).1 < x.1 ∧ ((widV x y l).1 = -2147483648 ∨ (widV x y l).1 ∈ l) ∧ y.1 < x.1)) ∧ -2147483648 ≤ (widV x y l).1 ∧ (widV x y l).1 ≤ y.1 ∧
    ((widV x y l).2 = x.2 ∨ ((widV x y l).2 > x.2 ∧ ((widV x y l).2 = 2147483647 ∨ (widV x y l).2 ∈ l) ∧ y.2 > x.2)) ∧ (widV x y l).2 ≤ 2147483647 ∧ y.2 ≤ (widV x y l).2 := by
  have bx := isB_ne hx (le_of_emp ex)
  have by' := isB_ne hy (le_of_emp ey)
  have lx := le_of_emp ex
  have ly := le_of_emp ey
  have ej : iJoin x y = (mn x.1 y.1, mx x.2 y.2) := by unfold iJoin; rw [ex, ey]; rfl
  have m1 : mn x.1 y.1 ≤ x.1 ∧ mn x.1 y.1 ≤ y.1 ∧ (mn x.1 y.1 = x.1 ∨ mn x.1 y.1 = y.1) := by unfold mn; split <;> omega
  have m2 : x.2 ≤ mx x.2 y.2 ∧ y.2 ≤ mx x.2 y.2 ∧ (mx x.2 y.2 = x.2 ∨ mx x.2 y.2 = y.2) := by unfold mx; split <;> omega
  obtain ⟨⟨s1, s2, s3⟩, t1, t2, t3⟩ := widS_spec (mn x.1 y.1, mx x.2 y.2) l (by simp only; omega) (by simp only; omega)
  unfold widV
  rw [ex, ey, ej]
  simp only [Bool.false_eq_true, if_false] at s3 t3 ⊢
  refine ⟨?_, ?_, ?_, ?_, ?_, ?_⟩
  · by_cases c : mn x.1 y.1 < x.1
    · rw [if_pos c]; right; exact ⟨by omega, s1, by omega⟩
    · rw [if_neg c]; left; omega
  · split <;> omega
  · split <;> omega
  · by_cases c : mx x.2 y.2 > x.2
    · rw [if_pos c]; right; exact ⟨by omega, t1, by omega⟩
    · rw [if_neg c]; left; omega
  · split <;> omega
  · split <;> omega
def lowN (l : List Int) (p : Int) : Nat := (-2147483648 :: l).countP fun d => decide (d < p)
def highN (l : List Int) (p : Int) : Nat := (2147483647 :: l).countP fun d => decide (p < d)
theorem countP_lt {α : Type} (p q : α → Bool) : ∀ (l : List α) (a : α), a ∈ l → (∀ x ∈ l, p x = true → q x = true) → q a = true → p a = false → l.countP p < l.countP q
  | [], _, h, _, _, _ => by cases h
  | b :: r, a, h, hm, h1, h2 => by
    rw [List.countP_cons, List.countP_cons]
    have hr : r.countP p ≤ r.countP q := List.countP_mono_left fun x hx => hm x (List.mem_cons_of_mem _ hx)
    rcases List.mem_cons.1 h with rfl | h
    · rw [h1, h2]; simp; omega
    · have := countP_lt p q r a h (fun x hx => hm x (List.mem_cons_of_mem _ hx)) h1 h2
      have hb := hm b List.mem_cons_self
      cases e : p b with
      | false => simp only [Bool.false_eq_true, if_false]; split <;> omega
      | true => rw [hb e]; simp only [if_true]; omega
theorem lowN_lt {l : List Int} {p q : Int} (h : q < p) (hq : q = -2147483648 ∨ q ∈ l) : lowN l q < lowN l p := by
  unfold lowN
  refine countP_lt _ _ _ q (by rcases hq with rfl | h; exact List.mem_cons_self; exact List.mem_cons_of_mem _ h) (fun x _ k => ?_) (by simpa using h) (by simp)
  simp only [decide_eq_true_eq] at k ⊢; omega
theorem highN_lt {l : List Int} {p q : Int} (h : p < q) (hq : q = 2147483647 ∨ q ∈ l) : highN l q < highN l p := by
  unfold highN
  refine countP_lt _ _ _ q (by rcases hq with rfl | h; exact List.mem_cons_self; exact List.mem_cons_of_mem _ h) (fun x _ k => ?_) (by simpa using h) (by simp)
  simp only [decide_eq_true_eq] at k ⊢; omega
theorem lowN_le (l : List Int) (p : Int) : lowN l p ≤ l.length + 1 := List.countP_le_length
theorem highN_le (l : List Int) (p : Int) : highN l p ≤ l.length + 1 := List.countP_le_length
def potN (l : List Int) (a : I) : Nat := if empB a then 2 * l.length + 3 else lowN l a.1 + highN l a.2
theorem wid_left {x y : I} {l : List Int} (ey : empB y = true) : widV x y l = x := by unfold widV; rw [ey]; rfl
theorem wid_right {x y : I} {l : List Int} (ex : empB x = true) (ey : empB y = false) : widV x y l = y := by unfold widV; rw [ey, ex]; rfl
theorem leq_self (x : I) : leqB x x = true := leq_iff.2 (.inr ⟨Int.le_refl _, Int.le_refl _⟩)
theorem wid_step {x y : I} (hx : isB x = true) (hy : isB y = true) (l : List Int) :
    leqB x (widV x y l) = true ∧ leqB y (widV x y l) = true ∧ isB (widV x y l) = true ∧ (((widV x y l).1 = x.1 ∧ (widV x y l).2 = x.2) ∨ potN l (widV x y l) < potN l x) := by
  cases ey : empB y with
  | true =>
    rw [wid_left ey]
    exact ⟨leq_self x, by unfold leqB; rw [ey]; rfl, hx, .inl ⟨rfl, rfl⟩⟩
  | false =>
    cases ex : empB x with
    | true =>
      rw [wid_right ex ey]
      refine ⟨by unfold leqB; rw [ex]; rfl, leq_self y, hy, .inr ?_⟩
      unfold potN
      rw [ex, ey]
      have := lowN_le l y.1
      have := highN_le l y.2
      simp only [Bool.false_eq_true, if_false, if_true]
      omega
    | false =>
      obtain ⟨w1, w2, w3, w4, w5, w6⟩ := wid_spec hx hy ex ey l
      have lx := le_of_emp ex
      have ly := le_of_emp ey
      generalize widV x y l = w at *
      have hw : w.1 ≤ w.2 := by omega
      have ew : empB w = false := by simp only [empB, decide_eq_false_iff_not]; omega
      refine ⟨leq_iff.2 (.inr ?_), leq_iff.2 (.inr ?_), isB_mk w2 hw w5, ?_⟩
      · unfold sub; omega
      · unfold sub; omega
      · unfold potN
        rw [ex, ew]
        simp only [Bool.false_eq_true, if_false]
        rcases w1 with e1 | ⟨e1, f1, _⟩ <;> rcases w4 with e4 | ⟨e4, f4, _⟩
        · exact .inl ⟨e1, e4⟩
        · right; have := highN_lt e4 f4; rw [e1]; omega
        · right; have := lowN_lt e1 f1; rw [e4]; omega
        · right; have := lowN_lt e1 f1; have := highN_lt e4 f4; omega
abbrev E := Bool × List I × List I × List I × Int × Int
end Go.Proofs.Ytbdcblpjemmipaa.Ex

namespace Go.Proofs.Ytbdcblpjemmipaa.Ex
set_option linter.unusedVariables false
abbrev tI : Ty := (.st (.pair (.int .i64) (.int .i64)))
abbrev tEn : Ty := (.st (.pair (.int .i64) (.pair .bool (.pair (.int .i64) (.pair (.int .i64) tI)))))
abbrev En := Int × Bool × Int × Int × I
abbrev A := Int × Int × Int × Int × Int × Int × Int × Int × Int
abbrev C := Int × List A
abbrev U := List Int × List Int × Int × List C
noncomputable def bodyX (g b : Nat) : Code := ((inl g).bind (·.body)).elim .skip (lpx · b)
abbrev FUEL : Nat := 18446744073709551616
theorem loops_in {b : Nat} {x : Code} : ∀ (c : Code) (b0 : Nat), (b, x) ∈ loopsOf b0 c → ∀ q ∈ loopsOf b x, q ∈ loopsOf b0 c
  | .seq y z, b0, h, q, hq => by
    simp only [loopsOf, List.mem_append] at h ⊢
    exact h.imp (fun h => loops_in y b0 h q hq) (fun h => loops_in z b0 h q hq)
  | .cond _ y z, b0, h, q, hq => by
    simp only [loopsOf, List.mem_append] at h ⊢
    exact h.imp (fun h => loops_in y b0 h q hq) (fun h => loops_in z b0 h q hq)
  | .block id y, b0, h, q, hq => by
    simp only [loopsOf] at h ⊢
    exact loops_in y id h q hq
  | .loop y, b0, h, q, hq => by
    simp only [loopsOf, List.mem_cons, Prod.mk.injEq] at h ⊢
    rcases h with ⟨rfl, rfl⟩ | h
    · exact .inr hq
    · exact .inr (loops_in y b0 h q hq)
theorem hl_of {P : Program} {cx : Ctx} {g b n : Nat} (hi : InlOk P cx) (hx : cx.inl = inl) (hk : ((inl g).elim false fun fn => fn.ntmps.beq n && fn.body.elim false fun c => ((loopsOf 0 c).find? fun q => Nat.beq q.1 b).isSome) = true) :
    ∀ q ∈ loopsOf b (bodyX g b), ∀ p, cx.lps g q.1 = some p → SoundC P n (.loop q.2) p := by
  intro q hq p hp
  unfold bodyX at hq
  cases hg : inl g with
  | none => rw [hg] at hk; cases hk
  | some fn =>
    rw [hg] at hk hq
    simp only [Option.elim_some, Option.bind_some, Bool.and_eq_true] at hk hq
    obtain ⟨hn, hk⟩ := hk
    obtain rfl := nb_iff.1 hn
    cases hb : fn.body with
    | none => rw [hb] at hk; cases hk
    | some c =>
      rw [hb] at hk hq
      simp only [Option.elim_some] at hk hq
      unfold lpx at hq
      cases hf : (loopsOf 0 c).find? fun q => Nat.beq q.1 b with
      | none => rw [hf] at hk; cases hk
      | some r =>
        rw [hf] at hq
        simp only at hq
        have h1 := List.mem_of_find?_eq_some hf
        have h2 := List.find?_some hf
        obtain ⟨k, x⟩ := r
        simp only at h2 hq
        obtain rfl := nb_iff.1 h2
        exact hi.lps g fn c (by rw [hx]; exact hg) hb q (loops_in c 0 h1 q hq) p hp
end Go.Proofs.Ytbdcblpjemmipaa.Ex

namespace Go.Proofs.Ytbdcblpjemmipaa.Ex
open Go.Proofs Go.Proofs.Ytbdcblpjemmipaa
set_option maxRecDepth 100000
set_option maxHeartbeats 2000000
set_option linter.unusedVariables false
set_option linter.unusedSimpArgs false
def ash_itv_None : List Sh := []
noncomputable def sp_itv_None : Nat → Option (List AV → Prog AV)
  | _ => none
theorem hsp_itv_None : ∀ g p, sp_itv_None g = some p → SoundA Try.prog g p := by
  intro g p h
  unfold sp_itv_None at h
  split at h
  · cases h
noncomputable def cx_itv_None : Ctx := { tab := tab, spec := sp_itv_None, inl := inl, lps := fun _ _ => none, fuel := 40 }
theorem in_itv_None : InlOk Try.prog cx_itv_None := ⟨inl_ok, fun _ _ _ _ _ _ _ _ h => nomatch h⟩
theorem cal_itv_None (g : Nat) : SoundA Try.prog g (evF cx_itv_None keeps 8 g) := evF_sound (tabOk_of tab_ok) (cmpsOk_of tab_ok cmps_ok) mixed in_itv_None hsp_itv_None keeps 8 g
noncomputable def g_itv_None  : Option I :=
  some (1, 0)
theorem raw_itv_None  : evGX cx_itv_None keeps 8 89 ash_itv_None (.dat tI) (() : Unit) = g_itv_None  := by kernel_rfl
noncomputable def G_itv_None (x : Unit) : Option I := g_itv_None 
noncomputable def con_itv_None : List AV → Prog AV := conP true ash_itv_None (.dat tI) G_itv_None
theorem snd_itv_None : SoundA Try.prog 89 con_itv_None := conP_sound (cal_itv_None 89) true (by rfl) (by rfl) (fun x r e => (evGX_eq _ _ _ _ _ _ _).trans ((raw_itv_None ).trans e)) (.inl rfl)
end Go.Proofs.Ytbdcblpjemmipaa.Ex

namespace Go.Proofs.Ytbdcblpjemmipaa.Ex
open Go.Proofs Go.Proofs.Ytbdcblpjemmipaa
set_option maxRecDepth 100000
set_option maxHeartbeats 2000000
set_option linter.unusedVariables false
set_option linter.unusedSimpArgs false
abbrev fn_49_0 := (fun (d : ((Int × ((List Int) × (Int × (Int × Unit)))) × Unit)) => ((d.1.1, d.1.2.1, d.1.2.2.1, d.1.2.2.2.1) : (Int × (List Int) × Int × Int)))
def ash_held_bits : List Sh := [.dat (.sl (.int .i64))]
def kp_held_bits_91_0 : Nat → List Nat := fun c => bif c.beq 0 then [3, 6, 7, 8] else [3]
noncomputable def sp_held_bits : Nat → Option (List AV → Prog AV)
  | _ => none
theorem hsp_held_bits : ∀ g p, sp_held_bits g = some p → SoundA Try.prog g p := by
  intro g p h
  unfold sp_held_bits at h
  split at h
  · cases h
noncomputable def cx_held_bits0 : Ctx := { tab := tab, spec := sp_held_bits, inl := inl, lps := fun _ _ => none, fuel := 40 }
theorem in_held_bits0 : InlOk Try.prog cx_held_bits0 := ⟨inl_ok, fun _ _ _ _ _ _ _ _ h => nomatch h⟩
theorem cal_held_bits0 (g : Nat) : SoundA Try.prog g (evF cx_held_bits0 keeps 8 g) := evF_sound (tabOk_of tab_ok) (cmpsOk_of tab_ok cmps_ok) mixed in_held_bits0 hsp_held_bits keeps 8 g
noncomputable def F_held_bits_91_0 (base : Nat) : Tm → Prog (Nat × Tm) := evC cx_held_bits0 (evF cx_held_bits0 keeps 8) ⟨91, 24, keeps 91, base⟩ 0 (bodyX 91 0)
def s_held_bits_91_0_0 : StS := ⟨[(3, .int .i64), (6, .sl (.int .i64)), (7, .int .i64), (8, .int .i64)], [], 0⟩
def x_held_bits_91_0_0_0 : StS := ⟨[(3, .int .i64)], [], 0⟩
noncomputable def st_held_bits_91_0_0 (s3 : Int) (s6 : (List Int)) (s7 : Int) (s8 : Int) : Option ((Int × (List Int) × Int × Int) ⊕ Int) :=
  bif decide (s8 < s7) then
 bif decide (0 ≤ s8) then
 optC s6[s8.toNat]? none fun d6 ↦
 bif decide (d6 ≥ 0) then
 bif decide (d6 < 31) then
 bif decide (d6 < 0) then none
 else
 some
 (Sum.inl
 (Go.IntKind.i64.wrap
 (↑(BitVec.ofInt Go.IntKind.i64.bits s3 ||| BitVec.ofInt Go.IntKind.i64.bits (Go.IntKind.i64.wrap (1 * 2 ^ Min.min (Int.toNat d6) Go.IntKind.i64.bits))).toNat : Int),
 s6, s7, Go.IntKind.i64.wrap (s8 + 1)))
 else some (Sum.inl (s3, s6, s7, Go.IntKind.i64.wrap (s8 + 1)))
 else some (Sum.inl (s3, s6, s7, Go.IntKind.i64.wrap (s8 + 1)))
 else none
 else some (Sum.inr s3)
theorem rn_held_bits_91_0_0 (s3 : Int) (s6 : (List Int)) (s7 : Int) (s8 : Int) : rdX cx_held_bits0 keeps 8 ⟨91, 24, keeps 91, 0⟩ 0 (bodyX 91 0) 0 kp_held_bits_91_0 (sT s_held_bits_91_0_0 ((s3, s6, s7, s8, ()), ())) (sH s_held_bits_91_0_0 ((s3, s6, s7, s8, ()), ())) (rdO (fun T h => (rdS s_held_bits_91_0_0 T h).map fn_49_0) (getE 2 x_held_bits_91_0_0_0 (fun (d : ((Int × Unit) × Unit)) => ((d.1.1) : Int)))) = st_held_bits_91_0_0 s3 s6 s7 s8 := by kernel_rfl
noncomputable def L_held_bits_91_0_0 (x : (Int × (List Int) × Int × Int)) : Option Int := iterO (fun x => st_held_bits_91_0_0 x.1 x.2.1 x.2.2.1 x.2.2.2) FUEL x
noncomputable def q_held_bits_91_0 : Nat → Tm → Prog (Nat × Tm) := (varP 0 (fun T h => (rdS s_held_bits_91_0_0 T h).map fn_49_0) L_held_bits_91_0_0 (altE 2 x_held_bits_91_0_0_0 (fun (x : Int) => (((x, ()), ()) : ((Int × Unit) × Unit)))) (fun _ _ => .fail))
theorem ok_held_bits_91_0 : VarOk kp_held_bits_91_0 F_held_bits_91_0 q_held_bits_91_0 := (varX_ok (s := s_held_bits_91_0_0) (un := (fun (x : (Int × (List Int) × Int × Int)) => (((x.1, x.2.1, x.2.2.1, x.2.2.2, ()), ()) : ((Int × ((List Int) × (Int × (Int × Unit)))) × Unit)))) (by rfl) (fun _ => rfl) (getE_ok (s := x_held_bits_91_0_0_0) (un := (fun (x : Int) => (((x, ()), ()) : ((Int × Unit) × Unit)))) (by rfl) (fun _ => rfl)) (step := fun x => st_held_bits_91_0_0 x.1 x.2.1 x.2.2.1 x.2.2.2) (fun x => rn_held_bits_91_0_0 x.1 x.2.1 x.2.2.1 x.2.2.2) (fun _ _ e => ⟨_, e⟩) (altE_ok 2 x_held_bits_91_0_0_0 (fun (x : Int) => (((x, ()), ()) : ((Int × Unit) × Unit)))) (VarOk.fail _ _))
noncomputable def lpI_held_bits_91_0 (base : Nat) (T : Tm) : Prog (Nat × Tm) := .norm base (kp_held_bits_91_0 0) T (q_held_bits_91_0 base)
theorem sndI_held_bits_91_0 : SoundC Try.prog 24 (.loop (bodyX 91 0)) lpI_held_bits_91_0 := loopK_sound (cx := cx_held_bits0) (cal := evF cx_held_bits0 keeps 8) (kp := keeps 91) (tabOk_of tab_ok) (cmpsOk_of tab_ok cmps_ok) cal_held_bits0 mixed (hl_of (g := 91) (b := 0) in_held_bits0 (by kernel_rfl) (by kernel_rfl)) ok_held_bits_91_0
noncomputable def lpL_held_bits_91_0 : Nat → Tm → Prog (Nat × Tm) := lpI_held_bits_91_0
theorem sndL_held_bits_91_0 : SoundC Try.prog 24 (.loop (bodyX 91 0)) lpL_held_bits_91_0 := sndI_held_bits_91_0
noncomputable def lp_held_bits : Nat → Nat → Option (Nat → Tm → Prog (Nat × Tm))
  | 91, 0 => some lpL_held_bits_91_0
  | _, _ => none
noncomputable def cx_held_bits : Ctx := { tab := tab, spec := sp_held_bits, inl := inl, lps := lp_held_bits, fuel := 40 }
theorem in_held_bits : InlOk Try.prog cx_held_bits := ⟨inl_ok, fun g fn c hg hb q hq p hp => by
  change lp_held_bits g q.1 = some p at hp
  change inl g = some fn at hg
  generalize hq1 : q.1 = b at hp
  unfold lp_held_bits at hp
  split at hp
  · cases hp; exact lps_case (inl := inl) hg hb hq hq1 (by kernel_rfl) (by kernel_rfl) sndL_held_bits_91_0
  · cases hp⟩
theorem cal_held_bits (g : Nat) : SoundA Try.prog g (evF cx_held_bits keeps 8 g) := evF_sound (tabOk_of tab_ok) (cmpsOk_of tab_ok cmps_ok) mixed in_held_bits hsp_held_bits keeps 8 g
noncomputable def g_held_bits (a0 : (List Int)) : Option Int :=
  optC (L_held_bits_91_0_0 (0, a0, (↑a0.length : Int), 0)) none fun d3 ↦ some d3
theorem raw_held_bits (a0 : (List Int)) : evGX cx_held_bits keeps 8 91 ash_held_bits (.dat (.int .i64)) ((a0, ()) : ((List Int) × Unit)) = g_held_bits a0 := by kernel_rfl
noncomputable def G_held_bits (x : ((List Int) × Unit)) : Option Int := g_held_bits x.1
noncomputable def con_held_bits : List AV → Prog AV := conP true ash_held_bits (.dat (.int .i64)) G_held_bits
theorem snd_held_bits : SoundA Try.prog 91 con_held_bits := conP_sound (cal_held_bits 91) true (by rfl) (by rfl) (fun x r e => (evGX_eq _ _ _ _ _ _ _).trans ((raw_held_bits x.1).trans e)) (.inl rfl)
end Go.Proofs.Ytbdcblpjemmipaa.Ex

namespace Go.Proofs.Ytbdcblpjemmipaa.Ex
open Go.Proofs Go.Proofs.Ytbdcblpjemmipaa
set_option maxRecDepth 100000
set_option maxHeartbeats 2000000
set_option linter.unusedVariables false
set_option linter.unusedSimpArgs false
def ash_held_Has : List Sh := [.dat (.int .i64), .dat (.int .i64)]
noncomputable def sp_held_Has : Nat → Option (List AV → Prog AV)
  | 91 => some (con_held_bits)
  | _ => none
theorem hsp_held_Has : ∀ g p, sp_held_Has g = some p → SoundA Try.prog g p := by
  intro g p h
  unfold sp_held_Has at h
  split at h
  · cases h; exact snd_held_bits
  · cases h
noncomputable def cx_held_Has : Ctx := { tab := tab, spec := sp_held_Has, inl := inl, lps := fun _ _ => none, fuel := 40 }
theorem in_held_Has : InlOk Try.prog cx_held_Has := ⟨inl_ok, fun _ _ _ _ _ _ _ _ h => nomatch h⟩
theorem cal_held_Has (g : Nat) : SoundA Try.prog g (evF cx_held_Has keeps 8 g) := evF_sound (tabOk_of tab_ok) (cmpsOk_of tab_ok cmps_ok) mixed in_held_Has hsp_held_Has keeps 8 g
noncomputable def g_held_Has (a0 : Int) (a1 : Int) : Option Bool :=
  optC (G_held_bits ([a1], ())) none fun d3 ↦ some (Go.IntKind.i64.wrap (↑(BitVec.ofInt Go.IntKind.i64.bits a0 &&& BitVec.ofInt Go.IntKind.i64.bits d3).toNat : Int) != 0)
theorem raw_held_Has (a0 : Int) (a1 : Int) : evGX cx_held_Has keeps 8 48 ash_held_Has (.dat .bool) ((a0, a1, ()) : (Int × (Int × Unit))) = g_held_Has a0 a1 := by kernel_rfl
noncomputable def G_held_Has (x : (Int × (Int × Unit))) : Option Bool := g_held_Has x.1 x.2.1
noncomputable def con_held_Has : List AV → Prog AV := conP true ash_held_Has (.dat .bool) G_held_Has
theorem snd_held_Has : SoundA Try.prog 48 con_held_Has := conP_sound (cal_held_Has 48) true (by rfl) (by rfl) (fun x r e => (evGX_eq _ _ _ _ _ _ _).trans ((raw_held_Has x.1 x.2.1).trans e)) (.inl rfl)
end Go.Proofs.Ytbdcblpjemmipaa.Ex

namespace Go.Proofs.Ytbdcblpjemmipaa.Ex
open Go.Proofs Go.Proofs.Ytbdcblpjemmipaa
set_option maxRecDepth 100000
set_option maxHeartbeats 2000000
set_option linter.unusedVariables false
set_option linter.unusedSimpArgs false
abbrev fn_51_0 := (fun (d : ((Int × (Unit × (Int × Unit))) × ((List Int) × Unit))) => ((d.1.1, d.1.2.2.1, d.2.1) : (Int × Int × (List Int))))
abbrev fn_51_1 := (fun (x : (List Int)) => ((((), ()), (x, ())) : ((Unit × Unit) × ((List Int) × Unit))))
def ash_held_List : List Sh := [.dat (.int .i64)]
def kp_held_List_122_0 : Nat → List Nat := fun c => bif c.beq 0 then [0, 3, 5] else [3]
noncomputable def sp_held_List : Nat → Option (List AV → Prog AV)
  | 48 => some (con_held_Has)
  | _ => none
theorem hsp_held_List : ∀ g p, sp_held_List g = some p → SoundA Try.prog g p := by
  intro g p h
  unfold sp_held_List at h
  split at h
  · cases h; exact snd_held_Has
  · cases h
noncomputable def cx_held_List0 : Ctx := { tab := tab, spec := sp_held_List, inl := inl, lps := fun _ _ => none, fuel := 40 }
theorem in_held_List0 : InlOk Try.prog cx_held_List0 := ⟨inl_ok, fun _ _ _ _ _ _ _ _ h => nomatch h⟩
theorem cal_held_List0 (g : Nat) : SoundA Try.prog g (evF cx_held_List0 keeps 8 g) := evF_sound (tabOk_of tab_ok) (cmpsOk_of tab_ok cmps_ok) mixed in_held_List0 hsp_held_List keeps 8 g
noncomputable def F_held_List_122_0 (base : Nat) : Tm → Prog (Nat × Tm) := evC cx_held_List0 (evF cx_held_List0 keeps 8) ⟨122, 17, keeps 122, base⟩ 0 (bodyX 122 0)
def s_held_List_122_0_0 : StS := ⟨[(0, .int .i64), (3, .row 0), (5, .int .i64)], [(0, .row (.int .i64))], 1⟩
def x_held_List_122_0_0_0 : StS := ⟨[(3, .row 0)], [(0, .row (.int .i64))], 1⟩
noncomputable def st_held_List_122_0_0 (s0 : Int) (s5 : Int) (b0 : (List Int)) : Option ((Int × Int × (List Int)) ⊕ (List Int)) :=
  bif decide (s5 < 31) then
 optC (G_held_Has (s0, s5, ())) none fun d5 ↦
 bif d5 then bif decide ((b0.length + [s5].length + 1) * 8 ≤ lim) then some (Sum.inl (s0, Go.IntKind.i64.wrap (s5 + 1), b0 ++ [s5])) else none
 else some (Sum.inl (s0, Go.IntKind.i64.wrap (s5 + 1), b0))
 else some (Sum.inr b0)
theorem rn_held_List_122_0_0 (s0 : Int) (s5 : Int) (b0 : (List Int)) : rdX cx_held_List0 keeps 8 ⟨122, 17, keeps 122, 0⟩ 0 (bodyX 122 0) 0 kp_held_List_122_0 (sT s_held_List_122_0_0 ((s0, (), s5, ()), (b0, ()))) (sH s_held_List_122_0_0 ((s0, (), s5, ()), (b0, ()))) (rdO (fun T h => (rdS s_held_List_122_0_0 T h).map fn_51_0) (getE 2 x_held_List_122_0_0_0 (fun (d : ((Unit × Unit) × ((List Int) × Unit))) => ((d.2.1) : (List Int))))) = st_held_List_122_0_0 s0 s5 b0 := by kernel_rfl
noncomputable def L_held_List_122_0_0 (x : (Int × Int × (List Int))) : Option (List Int) := iterO (fun x => st_held_List_122_0_0 x.1 x.2.1 x.2.2) FUEL x
noncomputable def q_held_List_122_0 : Nat → Tm → Prog (Nat × Tm) := (varP 0 (fun T h => (rdS s_held_List_122_0_0 T h).map fn_51_0) L_held_List_122_0_0 (altE 2 x_held_List_122_0_0_0 fn_51_1) (fun _ _ => .fail))
theorem ok_held_List_122_0 : VarOk kp_held_List_122_0 F_held_List_122_0 q_held_List_122_0 := (varX_ok (s := s_held_List_122_0_0) (un := (fun (x : (Int × Int × (List Int))) => (((x.1, (), x.2.1, ()), (x.2.2, ())) : ((Int × (Unit × (Int × Unit))) × ((List Int) × Unit))))) (by rfl) (fun _ => rfl) (getE_ok (s := x_held_List_122_0_0_0) (un := fn_51_1) (by rfl) (fun _ => rfl)) (step := fun x => st_held_List_122_0_0 x.1 x.2.1 x.2.2) (fun x => rn_held_List_122_0_0 x.1 x.2.1 x.2.2) (fun _ _ e => ⟨_, e⟩) (altE_ok 2 x_held_List_122_0_0_0 fn_51_1) (VarOk.fail _ _))
noncomputable def lpI_held_List_122_0 (base : Nat) (T : Tm) : Prog (Nat × Tm) := .norm base (kp_held_List_122_0 0) T (q_held_List_122_0 base)
theorem sndI_held_List_122_0 : SoundC Try.prog 17 (.loop (bodyX 122 0)) lpI_held_List_122_0 := loopK_sound (cx := cx_held_List0) (cal := evF cx_held_List0 keeps 8) (kp := keeps 122) (tabOk_of tab_ok) (cmpsOk_of tab_ok cmps_ok) cal_held_List0 mixed (hl_of (g := 122) (b := 0) in_held_List0 (by kernel_rfl) (by kernel_rfl)) ok_held_List_122_0
noncomputable def lpL_held_List_122_0 : Nat → Tm → Prog (Nat × Tm) := (ownP [] [(3, (.int .i64))] (kp_held_List_122_0 0) lpI_held_List_122_0)
theorem sndL_held_List_122_0 : SoundC Try.prog 17 (.loop (bodyX 122 0)) lpL_held_List_122_0 := (own_sound sndI_held_List_122_0)
noncomputable def lp_held_List : Nat → Nat → Option (Nat → Tm → Prog (Nat × Tm))
  | 122, 0 => some lpL_held_List_122_0
  | _, _ => none
noncomputable def cx_held_List : Ctx := { tab := tab, spec := sp_held_List, inl := inl, lps := lp_held_List, fuel := 40 }
theorem in_held_List : InlOk Try.prog cx_held_List := ⟨inl_ok, fun g fn c hg hb q hq p hp => by
  change lp_held_List g q.1 = some p at hp
  change inl g = some fn at hg
  generalize hq1 : q.1 = b at hp
  unfold lp_held_List at hp
  split at hp
  · cases hp; exact lps_case (inl := inl) hg hb hq hq1 (by kernel_rfl) (by kernel_rfl) sndL_held_List_122_0
  · cases hp⟩
theorem cal_held_List (g : Nat) : SoundA Try.prog g (evF cx_held_List keeps 8 g) := evF_sound (tabOk_of tab_ok) (cmpsOk_of tab_ok cmps_ok) mixed in_held_List hsp_held_List keeps 8 g
noncomputable def g_held_List (a0 : Int) : Option (List Int) :=
  optC (L_held_List_122_0_0 (a0, 0, [])) none fun d3 ↦ some d3
theorem raw_held_List (a0 : Int) : evGX cx_held_List keeps 8 122 ash_held_List (.dat (.sl (.int .i64))) ((a0, ()) : (Int × Unit)) = g_held_List a0 := by kernel_rfl
noncomputable def G_held_List (x : (Int × Unit)) : Option (List Int) := g_held_List x.1
noncomputable def con_held_List : List AV → Prog AV := conP true ash_held_List (.dat (.sl (.int .i64))) G_held_List
theorem snd_held_List : SoundA Try.prog 122 con_held_List := conP_sound (cal_held_List 122) true (by rfl) (by rfl) (fun x r e => (evGX_eq _ _ _ _ _ _ _).trans ((raw_held_List x.1).trans e)) (.inl rfl)
end Go.Proofs.Ytbdcblpjemmipaa.Ex

namespace Go.Proofs.Ytbdcblpjemmipaa.Ex
open Go.Proofs Go.Proofs.Ytbdcblpjemmipaa
set_option maxRecDepth 100000
set_option maxHeartbeats 2000000
set_option linter.unusedVariables false
set_option linter.unusedSimpArgs false
def ash_held_Apart : List Sh := [.dat (.int .i64), .dat (.int .i64)]
noncomputable def sp_held_Apart : Nat → Option (List AV → Prog AV)
  | 122 => some (con_held_List)
  | _ => none
theorem hsp_held_Apart : ∀ g p, sp_held_Apart g = some p → SoundA Try.prog g p := by
  intro g p h
  unfold sp_held_Apart at h
  split at h
  · cases h; exact snd_held_List
  · cases h
noncomputable def cx_held_Apart : Ctx := { tab := tab, spec := sp_held_Apart, inl := inl, lps := fun _ _ => none, fuel := 40 }
theorem in_held_Apart : InlOk Try.prog cx_held_Apart := ⟨inl_ok, fun _ _ _ _ _ _ _ _ h => nomatch h⟩
theorem cal_held_Apart (g : Nat) : SoundA Try.prog g (evF cx_held_Apart keeps 8 g) := evF_sound (tabOk_of tab_ok) (cmpsOk_of tab_ok cmps_ok) mixed in_held_Apart hsp_held_Apart keeps 8 g
noncomputable def g_held_Apart (a0 : Int) (a1 : Int) : Option Bool :=
  optC (G_held_List (Go.IntKind.i64.wrap (↑(BitVec.ofInt Go.IntKind.i64.bits a0 &&& BitVec.ofInt Go.IntKind.i64.bits a1).toNat : Int), ())) none fun d3 ↦
 some ((↑(List.length d3) : Int) == 0)
theorem raw_held_Apart (a0 : Int) (a1 : Int) : evGX cx_held_Apart keeps 8 90 ash_held_Apart (.dat .bool) ((a0, a1, ()) : (Int × (Int × Unit))) = g_held_Apart a0 a1 := by kernel_rfl
noncomputable def G_held_Apart (x : (Int × (Int × Unit))) : Option Bool := g_held_Apart x.1 x.2.1
noncomputable def con_held_Apart : List AV → Prog AV := conP true ash_held_Apart (.dat .bool) G_held_Apart
theorem snd_held_Apart : SoundA Try.prog 90 con_held_Apart := conP_sound (cal_held_Apart 90) true (by rfl) (by rfl) (fun x r e => (evGX_eq _ _ _ _ _ _ _).trans ((raw_held_Apart x.1 x.2.1).trans e)) (.inl rfl)
end Go.Proofs.Ytbdcblpjemmipaa.Ex

namespace Go.Proofs.Ytbdcblpjemmipaa.Ex
open Go.Proofs Go.Proofs.Ytbdcblpjemmipaa
set_option maxRecDepth 100000
set_option maxHeartbeats 2000000
set_option linter.unusedVariables false
set_option linter.unusedSimpArgs false
def ash_itv_Empty : List Sh := [.dat tI]
noncomputable def sp_itv_Empty : Nat → Option (List AV → Prog AV)
  | _ => none
theorem hsp_itv_Empty : ∀ g p, sp_itv_Empty g = some p → SoundA Try.prog g p := by
  intro g p h
  unfold sp_itv_Empty at h
  split at h
  · cases h
noncomputable def cx_itv_Empty : Ctx := { tab := tab, spec := sp_itv_Empty, inl := inl, lps := fun _ _ => none, fuel := 40 }
theorem in_itv_Empty : InlOk Try.prog cx_itv_Empty := ⟨inl_ok, fun _ _ _ _ _ _ _ _ h => nomatch h⟩
theorem cal_itv_Empty (g : Nat) : SoundA Try.prog g (evF cx_itv_Empty keeps 8 g) := evF_sound (tabOk_of tab_ok) (cmpsOk_of tab_ok cmps_ok) mixed in_itv_Empty hsp_itv_Empty keeps 8 g
noncomputable def g_itv_Empty (a0 : I) : Option Bool :=
  some (decide (a0.1 > a0.2))
theorem raw_itv_Empty (a0 : I) : evGX cx_itv_Empty keeps 8 92 ash_itv_Empty (.dat .bool) ((a0, ()) : (I × Unit)) = g_itv_Empty a0 := by kernel_rfl
noncomputable def G_itv_Empty (x : (I × Unit)) : Option Bool := g_itv_Empty x.1
noncomputable def con_itv_Empty : List AV → Prog AV := conP true ash_itv_Empty (.dat .bool) G_itv_Empty
theorem snd_itv_Empty : SoundA Try.prog 92 con_itv_Empty := conP_sound (cal_itv_Empty 92) true (by rfl) (by rfl) (fun x r e => (evGX_eq _ _ _ _ _ _ _).trans ((raw_itv_Empty x.1).trans e)) (.inl rfl)
end Go.Proofs.Ytbdcblpjemmipaa.Ex

namespace Go.Proofs.Ytbdcblpjemmipaa.Ex
open Go.Proofs Go.Proofs.Ytbdcblpjemmipaa
set_option maxRecDepth 100000
set_option maxHeartbeats 2000000
set_option linter.unusedVariables false
set_option linter.unusedSimpArgs false
abbrev ty_54_0 : Type := ((Unit × (Unit × ((List I) × (Int × (Int × Unit))))) × ((Int × (Int × Unit)) × ((Int × (Int × Unit)) × Unit)))
abbrev ty_54_1 : Type := ((Unit × (Unit × Unit)) × ((Int × (Int × Unit)) × ((Int × (Int × Unit)) × Unit)))
abbrev fn_54_0 := (fun (d : ty_54_0) => ((d.1.2.2.1, d.1.2.2.2.1, d.1.2.2.2.2.1, d.2.1.1, d.2.1.2.1, d.2.2.1.1, d.2.2.1.2.1) : ((List I) × Int × Int × Int × Int × Int × Int)))
abbrev fn_54_1 := (fun (x : (Int × Int × Int × Int)) => ((((), (), ()), ((x.1, x.2.1, ()), (x.2.2.1, x.2.2.2, ()), ())) : ty_54_1))
def ash_itv_Join : List Sh := [.dat (.sl tI)]
def kp_itv_Join_55_0 : Nat → List Nat := fun c => bif c.beq 0 then [2, 3, 7, 8, 9] else [2, 3]
noncomputable def sp_itv_Join : Nat → Option (List AV → Prog AV)
  | 89 => some (con_itv_None)
  | 92 => some (con_itv_Empty)
  | _ => none
theorem hsp_itv_Join : ∀ g p, sp_itv_Join g = some p → SoundA Try.prog g p := by
  intro g p h
  unfold sp_itv_Join at h
  split at h
  · cases h; exact snd_itv_None
  · cases h; exact snd_itv_Empty
  · cases h
noncomputable def cx_itv_Join0 : Ctx := { tab := tab, spec := sp_itv_Join, inl := inl, lps := fun _ _ => none, fuel := 40 }
theorem in_itv_Join0 : InlOk Try.prog cx_itv_Join0 := ⟨inl_ok, fun _ _ _ _ _ _ _ _ h => nomatch h⟩
theorem cal_itv_Join0 (g : Nat) : SoundA Try.prog g (evF cx_itv_Join0 keeps 8 g) := evF_sound (tabOk_of tab_ok) (cmpsOk_of tab_ok cmps_ok) mixed in_itv_Join0 hsp_itv_Join keeps 8 g
noncomputable def F_itv_Join_55_0 (base : Nat) : Tm → Prog (Nat × Tm) := evC cx_itv_Join0 (evF cx_itv_Join0 keeps 8) ⟨55, 33, keeps 55, base⟩ 0 (bodyX 55 0)
def s_itv_Join_55_0_0 : StS := ⟨[(2, .ptr 0 0), (3, .ptr 1 0), (7, .sl tI), (8, .int .i64), (9, .int .i64)], [(0, .box [.int .i64, .int .i64]), (1, .box [.int .i64, .int .i64])], 2⟩
def x_itv_Join_55_0_0_0 : StS := ⟨[(2, .ptr 0 0), (3, .ptr 1 0)], [(0, .box [.int .i64, .int .i64]), (1, .box [.int .i64, .int .i64])], 2⟩
noncomputable def st_itv_Join_55_0_0 (s7 : (List I)) (s8 : Int) (s9 : Int) (b0 : Int) (b0_1 : Int) (b1 : Int) (b1_1 : Int) : Option (((List I) × Int × Int × Int × Int × Int × Int) ⊕ (Int × Int × Int × Int)) :=
  bif decide (s9 < s8) then
 bif decide (0 ≤ s9) then
 optC s7[s9.toNat]? none fun d9 ↦
 bif decide (d9.1 > d9.2) then some (Sum.inl (s7, s8, Go.IntKind.i64.wrap (s9 + 1), b0, b0_1, b1, b1_1))
 else
 bif decide (b1 > b1_1) then some (Sum.inl (s7, s8, Go.IntKind.i64.wrap (s9 + 1), b0, b0_1, d9.1, d9.2))
 else some (Sum.inl (s7, s8, Go.IntKind.i64.wrap (s9 + 1), b0, b0_1, if d9.1 < b1 then d9.1 else b1, if d9.2 > b1_1 then d9.2 else b1_1))
 else none
 else some (Sum.inr (b0, b0_1, b1, b1_1))
theorem rn_itv_Join_55_0_0 (s7 : (List I)) (s8 : Int) (s9 : Int) (b0 : Int) (b0_1 : Int) (b1 : Int) (b1_1 : Int) : rdX cx_itv_Join0 keeps 8 ⟨55, 33, keeps 55, 0⟩ 0 (bodyX 55 0) 0 kp_itv_Join_55_0 (sT s_itv_Join_55_0_0 (((), (), s7, s8, s9, ()), ((b0, b0_1, ()), (b1, b1_1, ()), ()))) (sH s_itv_Join_55_0_0 (((), (), s7, s8, s9, ()), ((b0, b0_1, ()), (b1, b1_1, ()), ()))) (rdO (fun T h => (rdS s_itv_Join_55_0_0 T h).map fn_54_0) (getE 2 x_itv_Join_55_0_0_0 (fun (d : ty_54_1) => ((d.2.1.1, d.2.1.2.1, d.2.2.1.1, d.2.2.1.2.1) : (Int × Int × Int × Int))))) = st_itv_Join_55_0_0 s7 s8 s9 b0 b0_1 b1 b1_1 := by kernel_rfl
noncomputable def L_itv_Join_55_0_0 (x : ((List I) × Int × Int × Int × Int × Int × Int)) : Option (Int × Int × Int × Int) := iterO (fun x => st_itv_Join_55_0_0 x.1 x.2.1 x.2.2.1 x.2.2.2.1 x.2.2.2.2.1 x.2.2.2.2.2.1 x.2.2.2.2.2.2) FUEL x
noncomputable def q_itv_Join_55_0 : Nat → Tm → Prog (Nat × Tm) := (varP 0 (fun T h => (rdS s_itv_Join_55_0_0 T h).map fn_54_0) L_itv_Join_55_0_0 (altE 2 x_itv_Join_55_0_0_0 fn_54_1) (fun _ _ => .fail))
theorem ok_itv_Join_55_0 : VarOk kp_itv_Join_55_0 F_itv_Join_55_0 q_itv_Join_55_0 := (varX_ok (s := s_itv_Join_55_0_0) (un := (fun (x : ((List I) × Int × Int × Int × Int × Int × Int)) => ((((), (), x.1, x.2.1, x.2.2.1, ()), ((x.2.2.2.1, x.2.2.2.2.1, ()), (x.2.2.2.2.2.1, x.2.2.2.2.2.2, ()), ())) : ty_54_0))) (by rfl) (fun _ => rfl) (getE_ok (s := x_itv_Join_55_0_0_0) (un := fn_54_1) (by rfl) (fun _ => rfl)) (step := fun x => st_itv_Join_55_0_0 x.1 x.2.1 x.2.2.1 x.2.2.2.1 x.2.2.2.2.1 x.2.2.2.2.2.1 x.2.2.2.2.2.2) (fun x => rn_itv_Join_55_0_0 x.1 x.2.1 x.2.2.1 x.2.2.2.1 x.2.2.2.2.1 x.2.2.2.2.2.1 x.2.2.2.2.2.2) (fun _ _ e => ⟨_, e⟩) (altE_ok 2 x_itv_Join_55_0_0_0 fn_54_1) (VarOk.fail _ _))
noncomputable def lpI_itv_Join_55_0 (base : Nat) (T : Tm) : Prog (Nat × Tm) := .norm base (kp_itv_Join_55_0 0) T (q_itv_Join_55_0 base)
theorem sndI_itv_Join_55_0 : SoundC Try.prog 33 (.loop (bodyX 55 0)) lpI_itv_Join_55_0 := loopK_sound (cx := cx_itv_Join0) (cal := evF cx_itv_Join0 keeps 8) (kp := keeps 55) (tabOk_of tab_ok) (cmpsOk_of tab_ok cmps_ok) cal_itv_Join0 mixed (hl_of (g := 55) (b := 0) in_itv_Join0 (by kernel_rfl) (by kernel_rfl)) ok_itv_Join_55_0
noncomputable def lpL_itv_Join_55_0 : Nat → Tm → Prog (Nat × Tm) := lpI_itv_Join_55_0
theorem sndL_itv_Join_55_0 : SoundC Try.prog 33 (.loop (bodyX 55 0)) lpL_itv_Join_55_0 := sndI_itv_Join_55_0
noncomputable def lp_itv_Join : Nat → Nat → Option (Nat → Tm → Prog (Nat × Tm))
  | 55, 0 => some lpL_itv_Join_55_0
  | _, _ => none
noncomputable def cx_itv_Join : Ctx := { tab := tab, spec := sp_itv_Join, inl := inl, lps := lp_itv_Join, fuel := 40 }
theorem in_itv_Join : InlOk Try.prog cx_itv_Join := ⟨inl_ok, fun g fn c hg hb q hq p hp => by
  change lp_itv_Join g q.1 = some p at hp
  change inl g = some fn at hg
  generalize hq1 : q.1 = b at hp
  unfold lp_itv_Join at hp
  split at hp
  · cases hp; exact lps_case (inl := inl) hg hb hq hq1 (by kernel_rfl) (by kernel_rfl) sndL_itv_Join_55_0
  · cases hp⟩
theorem cal_itv_Join (g : Nat) : SoundA Try.prog g (evF cx_itv_Join keeps 8 g) := evF_sound (tabOk_of tab_ok) (cmpsOk_of tab_ok cmps_ok) mixed in_itv_Join hsp_itv_Join keeps 8 g
noncomputable def g_itv_Join (a0 : (List I)) : Option I :=
  optC (L_itv_Join_55_0_0 (a0, (↑a0.length : Int), 0, 0, 0, 1, 0)) none fun d3 ↦ some (d3.2.2.1, d3.2.2.2)
theorem raw_itv_Join (a0 : (List I)) : evGX cx_itv_Join keeps 8 55 ash_itv_Join (.dat tI) ((a0, ()) : ((List I) × Unit)) = g_itv_Join a0 := by kernel_rfl
noncomputable def G_itv_Join (x : ((List I) × Unit)) : Option I := g_itv_Join x.1
noncomputable def con_itv_Join : List AV → Prog AV := conP true ash_itv_Join (.dat tI) G_itv_Join
theorem snd_itv_Join : SoundA Try.prog 55 con_itv_Join := conP_sound (cal_itv_Join 55) true (by rfl) (by rfl) (fun x r e => (evGX_eq _ _ _ _ _ _ _).trans ((raw_itv_Join x.1).trans e)) (.inl rfl)
end Go.Proofs.Ytbdcblpjemmipaa.Ex

namespace Go.Proofs.Ytbdcblpjemmipaa.Ex
open Go.Proofs Go.Proofs.Ytbdcblpjemmipaa
set_option maxRecDepth 100000
set_option maxHeartbeats 2000000
set_option linter.unusedVariables false
set_option linter.unusedSimpArgs false
abbrev ty_55_0 : Type := ((Int × (Bool × (Int × (Int × ((Unit × Unit) × (Unit × (Unit × ((List En) × (Int × (Int × Unit)))))))))) × ((Int × (Int × Unit)) × ((Int × (Int × Unit)) × ((Int × (Int × Unit)) × Unit))))
abbrev ty_55_1 : Type := ((Unit × (Unit × Unit)) × ((Int × (Int × Unit)) × ((Int × (Int × Unit)) × ((Int × (Int × Unit)) × Unit))))
abbrev ty_55_2 : Type := (Int × Bool × Int × Int × (List En) × Int × Int × Int × Int × Int × Int × Int × Int)
abbrev fn_55_0 := (fun (d : ty_55_0) => ((d.1.1, d.1.2.1, d.1.2.2.1, d.1.2.2.2.1, d.1.2.2.2.2.2.2.2.1, d.1.2.2.2.2.2.2.2.2.1, d.1.2.2.2.2.2.2.2.2.2.1, d.2.1.1, d.2.1.2.1, d.2.2.1.1, d.2.2.1.2.1, d.2.2.2.1.1, d.2.2.2.1.2.1) : ty_55_2))
abbrev fn_55_1 := (fun (x : (Int × Int × Int × Int × Int × Int)) => ((((), (), ()), ((x.1, x.2.1, ()), (x.2.2.1, x.2.2.2.1, ()), (x.2.2.2.2.1, x.2.2.2.2.2, ()), ())) : ty_55_1))
def ash_tab_Seen : List Sh := [.dat (.sl tEn), .dat (.int .i64), .dat .bool, .dat (.int .i64), .dat (.int .i64)]
def kp_tab_Seen_45_0 : Nat → List Nat := fun c => bif c.beq 0 then [1, 2, 3, 4, 5, 12, 13, 17, 18, 19] else [12, 13]
noncomputable def sp_tab_Seen : Nat → Option (List AV → Prog AV)
  | 89 => some (con_itv_None)
  | 90 => some (con_held_Apart)
  | 55 => some (con_itv_Join)
  | _ => none
theorem hsp_tab_Seen : ∀ g p, sp_tab_Seen g = some p → SoundA Try.prog g p := by
  intro g p h
  unfold sp_tab_Seen at h
  split at h
  · cases h; exact snd_itv_None
  · cases h; exact snd_held_Apart
  · cases h; exact snd_itv_Join
  · cases h
noncomputable def cx_tab_Seen0 : Ctx := { tab := tab, spec := sp_tab_Seen, inl := inl, lps := fun _ _ => none, fuel := 40 }
theorem in_tab_Seen0 : InlOk Try.prog cx_tab_Seen0 := ⟨inl_ok, fun _ _ _ _ _ _ _ _ h => nomatch h⟩
theorem cal_tab_Seen0 (g : Nat) : SoundA Try.prog g (evF cx_tab_Seen0 keeps 8 g) := evF_sound (tabOk_of tab_ok) (cmpsOk_of tab_ok cmps_ok) mixed in_tab_Seen0 hsp_tab_Seen keeps 8 g
noncomputable def F_tab_Seen_45_0 (base : Nat) : Tm → Prog (Nat × Tm) := evC cx_tab_Seen0 (evF cx_tab_Seen0 keeps 8) ⟨45, 57, keeps 45, base⟩ 0 (bodyX 45 0)
def s_tab_Seen_45_0_0 : StS := ⟨[(1, .int .i64), (2, .bool), (3, .int .i64), (4, .int .i64), (5, .clo 46 [] []), (12, .ptr 1 0), (13, .ptr 2 0), (17, .sl tEn), (18, .int .i64), (19, .int .i64)], [(0, .box [.int .i64, .int .i64]), (1, .box [.int .i64, .int .i64]), (2, .box [.int .i64, .int .i64])], 3⟩
def x_tab_Seen_45_0_0_0 : StS := ⟨[(12, .ptr 1 0), (13, .ptr 2 0)], [(0, .box [.int .i64, .int .i64]), (1, .box [.int .i64, .int .i64]), (2, .box [.int .i64, .int .i64])], 3⟩
noncomputable def st_tab_Seen_45_0_0 (s1 : Int) (s2 : Bool) (s3 : Int) (s4 : Int) (s17 : (List En)) (s18 : Int) (s19 : Int) (b0 : Int) (b0_1 : Int) (b1 : Int) (b1_1 : Int) (b2 : Int) (b2_1 : Int) : Option (ty_55_2 ⊕ (Int × Int × Int × Int × Int × Int)) :=
  bif decide (s19 < s18) then
 bif decide (0 ≤ s19) then
 optC s17[s19.toNat]? none fun d15 ↦
 bif d15.1 != s1 then
 bif d15.2.1 == s2 then
 bif d15.2.2.1 == s3 then
 optC (G_held_Apart (d15.2.2.2.1, s4, ())) none fun d16 ↦
 bif d16 then
 optC (G_itv_Join ([(b2, b2_1), d15.2.2.2.2], ())) none fun d17 ↦
 some (Sum.inl (s1, s2, s3, s4, s17, s18, Go.IntKind.i64.wrap (s19 + 1), b0, b0_1, b1, b1_1, d17.1, d17.2))
 else some (Sum.inl (s1, s2, s3, s4, s17, s18, Go.IntKind.i64.wrap (s19 + 1), b0, b0_1, b1, b1_1, b2, b2_1))
 else some (Sum.inl (s1, s2, s3, s4, s17, s18, Go.IntKind.i64.wrap (s19 + 1), b0, b0_1, b1, b1_1, b2, b2_1))
 else some (Sum.inl (s1, s2, s3, s4, s17, s18, Go.IntKind.i64.wrap (s19 + 1), b0, b0_1, b1, b1_1, b2, b2_1))
 else some (Sum.inl (s1, s2, s3, s4, s17, s18, Go.IntKind.i64.wrap (s19 + 1), b0, b0_1, b1, b1_1, b2, b2_1))
 else none
 else some (Sum.inr (b0, b0_1, b1, b1_1, b2, b2_1))
theorem rn_tab_Seen_45_0_0 (s1 : Int) (s2 : Bool) (s3 : Int) (s4 : Int) (s17 : (List En)) (s18 : Int) (s19 : Int) (b0 : Int) (b0_1 : Int) (b1 : Int) (b1_1 : Int) (b2 : Int) (b2_1 : Int) : rdX cx_tab_Seen0 keeps 8 ⟨45, 57, keeps 45, 1⟩ 0 (bodyX 45 0) 1 kp_tab_Seen_45_0 (sT s_tab_Seen_45_0_0 ((s1, s2, s3, s4, ((), ()), (), (), s17, s18, s19, ()), ((b0, b0_1, ()), (b1, b1_1, ()), (b2, b2_1, ()), ()))) (sH s_tab_Seen_45_0_0 ((s1, s2, s3, s4, ((), ()), (), (), s17, s18, s19, ()), ((b0, b0_1, ()), (b1, b1_1, ()), (b2, b2_1, ()), ()))) (rdO (fun T h => (rdS s_tab_Seen_45_0_0 T h).map fn_55_0) (getE 2 x_tab_Seen_45_0_0_0 (fun (d : ty_55_1) => ((d.2.1.1, d.2.1.2.1, d.2.2.1.1, d.2.2.1.2.1, d.2.2.2.1.1, d.2.2.2.1.2.1) : (Int × Int × Int × Int × Int × Int))))) = st_tab_Seen_45_0_0 s1 s2 s3 s4 s17 s18 s19 b0 b0_1 b1 b1_1 b2 b2_1 := by kernel_rfl
noncomputable def L_tab_Seen_45_0_0 (x : ty_55_2) : Option (Int × Int × Int × Int × Int × Int) := iterO (fun x => st_tab_Seen_45_0_0 x.1 x.2.1 x.2.2.1 x.2.2.2.1 x.2.2.2.2.1 x.2.2.2.2.2.1 x.2.2.2.2.2.2.1 x.2.2.2.2.2.2.2.1 x.2.2.2.2.2.2.2.2.1 x.2.2.2.2.2.2.2.2.2.1 x.2.2.2.2.2.2.2.2.2.2.1 x.2.2.2.2.2.2.2.2.2.2.2.1 x.2.2.2.2.2.2.2.2.2.2.2.2) FUEL x
noncomputable def q_tab_Seen_45_0 : Nat → Tm → Prog (Nat × Tm) := (varP 1 (fun T h => (rdS s_tab_Seen_45_0_0 T h).map fn_55_0) L_tab_Seen_45_0_0 (altE 2 x_tab_Seen_45_0_0_0 fn_55_1) (fun _ _ => .fail))
theorem ok_tab_Seen_45_0 : VarOk kp_tab_Seen_45_0 F_tab_Seen_45_0 q_tab_Seen_45_0 := (varX_ok (s := s_tab_Seen_45_0_0) (un := (fun (x : ty_55_2) => (((x.1, x.2.1, x.2.2.1, x.2.2.2.1, ((), ()), (), (), x.2.2.2.2.1, x.2.2.2.2.2.1, x.2.2.2.2.2.2.1, ()), ((x.2.2.2.2.2.2.2.1, x.2.2.2.2.2.2.2.2.1, ()), (x.2.2.2.2.2.2.2.2.2.1, x.2.2.2.2.2.2.2.2.2.2.1, ()), (x.2.2.2.2.2.2.2.2.2.2.2.1, x.2.2.2.2.2.2.2.2.2.2.2.2, ()), ())) : ty_55_0))) (by rfl) (fun _ => rfl) (getE_ok (s := x_tab_Seen_45_0_0_0) (un := fn_55_1) (by rfl) (fun _ => rfl)) (step := fun x => st_tab_Seen_45_0_0 x.1 x.2.1 x.2.2.1 x.2.2.2.1 x.2.2.2.2.1 x.2.2.2.2.2.1 x.2.2.2.2.2.2.1 x.2.2.2.2.2.2.2.1 x.2.2.2.2.2.2.2.2.1 x.2.2.2.2.2.2.2.2.2.1 x.2.2.2.2.2.2.2.2.2.2.1 x.2.2.2.2.2.2.2.2.2.2.2.1 x.2.2.2.2.2.2.2.2.2.2.2.2) (fun x => rn_tab_Seen_45_0_0 x.1 x.2.1 x.2.2.1 x.2.2.2.1 x.2.2.2.2.1 x.2.2.2.2.2.1 x.2.2.2.2.2.2.1 x.2.2.2.2.2.2.2.1 x.2.2.2.2.2.2.2.2.1 x.2.2.2.2.2.2.2.2.2.1 x.2.2.2.2.2.2.2.2.2.2.1 x.2.2.2.2.2.2.2.2.2.2.2.1 x.2.2.2.2.2.2.2.2.2.2.2.2) (fun _ _ e => ⟨_, e⟩) (altE_ok 2 x_tab_Seen_45_0_0_0 fn_55_1) (VarOk.fail _ _))
noncomputable def lpI_tab_Seen_45_0 (base : Nat) (T : Tm) : Prog (Nat × Tm) := .norm base (kp_tab_Seen_45_0 0) T (q_tab_Seen_45_0 base)
theorem sndI_tab_Seen_45_0 : SoundC Try.prog 57 (.loop (bodyX 45 0)) lpI_tab_Seen_45_0 := loopK_sound (cx := cx_tab_Seen0) (cal := evF cx_tab_Seen0 keeps 8) (kp := keeps 45) (tabOk_of tab_ok) (cmpsOk_of tab_ok cmps_ok) cal_tab_Seen0 mixed (hl_of (g := 45) (b := 0) in_tab_Seen0 (by kernel_rfl) (by kernel_rfl)) ok_tab_Seen_45_0
noncomputable def lpL_tab_Seen_45_0 : Nat → Tm → Prog (Nat × Tm) := lpI_tab_Seen_45_0
theorem sndL_tab_Seen_45_0 : SoundC Try.prog 57 (.loop (bodyX 45 0)) lpL_tab_Seen_45_0 := sndI_tab_Seen_45_0
noncomputable def lp_tab_Seen : Nat → Nat → Option (Nat → Tm → Prog (Nat × Tm))
  | 45, 0 => some lpL_tab_Seen_45_0
  | _, _ => none
noncomputable def cx_tab_Seen : Ctx := { tab := tab, spec := sp_tab_Seen, inl := inl, lps := lp_tab_Seen, fuel := 40 }
theorem in_tab_Seen : InlOk Try.prog cx_tab_Seen := ⟨inl_ok, fun g fn c hg hb q hq p hp => by
  change lp_tab_Seen g q.1 = some p at hp
  change inl g = some fn at hg
  generalize hq1 : q.1 = b at hp
  unfold lp_tab_Seen at hp
  split at hp
  · cases hp; exact lps_case (inl := inl) hg hb hq hq1 (by kernel_rfl) (by kernel_rfl) sndL_tab_Seen_45_0
  · cases hp⟩
theorem cal_tab_Seen (g : Nat) : SoundA Try.prog g (evF cx_tab_Seen keeps 8 g) := evF_sound (tabOk_of tab_ok) (cmpsOk_of tab_ok cmps_ok) mixed in_tab_Seen hsp_tab_Seen keeps 8 g
noncomputable def g_tab_Seen (a0 : (List En)) (a1 : Int) (a2 : Bool) (a3 : Int) (a4 : Int) : Option I :=
  optC (L_tab_Seen_45_0_0 (a1, a2, a3, a4, a0, (↑a0.length : Int), 0, 0, 0, 0, 0, 1, 0)) none fun d7 ↦ some (d7.2.2.2.2.1, d7.2.2.2.2.2)
theorem raw_tab_Seen (a0 : (List En)) (a1 : Int) (a2 : Bool) (a3 : Int) (a4 : Int) : evGX cx_tab_Seen keeps 8 13 ash_tab_Seen (.dat tI) ((a0, a1, a2, a3, a4, ()) : ((List En) × (Int × (Bool × (Int × (Int × Unit)))))) = g_tab_Seen a0 a1 a2 a3 a4 := by kernel_rfl
noncomputable def G_tab_Seen (x : ((List En) × (Int × (Bool × (Int × (Int × Unit)))))) : Option I := g_tab_Seen x.1 x.2.1 x.2.2.1 x.2.2.2.1 x.2.2.2.2.1
noncomputable def con_tab_Seen : List AV → Prog AV := conP false ash_tab_Seen (.dat tI) G_tab_Seen
theorem snd_tab_Seen : SoundA Try.prog 13 con_tab_Seen := conP_sound (cal_tab_Seen 13) false (by rfl) (by rfl) (fun x r e => (evGX_eq _ _ _ _ _ _ _).trans ((raw_tab_Seen x.1 x.2.1 x.2.2.1 x.2.2.2.1 x.2.2.2.2.1).trans e)) (.inr fun _ => rfl)
end Go.Proofs.Ytbdcblpjemmipaa.Ex

namespace Go.Proofs.Ytbdcblpjemmipaa.Ex
set_option maxRecDepth 100000
set_option maxHeartbeats 2000000
set_option linter.unusedVariables false
set_option linter.unusedSimpArgs false
noncomputable def bd_tab_Seen_45_0_0 (s1 : Int) (s2 : Bool) (s3 : Int) (s4 : Int) (b0 : Int) (b0_1 : Int) (b1 : Int) (b1_1 : Int) (s17 : (List En)) (i : Nat) (b2 : Int) (b2_1 : Int) (d : En) : Option ((Int × Int) ⊕ (Int × Int × Int × Int × Int × Int)) :=
  bif d.1 != s1 then
   bif d.2.1 == s2 then
   bif d.2.2.1 == s3 then
   optC (G_held_Apart (d.2.2.2.1, s4, ())) (none) fun d16 ↦
   bif d16 then
   optC (G_itv_Join ([(b2, b2_1), d.2.2.2.2], ())) (none) fun d17 ↦
   some (Sum.inl (d17.1, d17.2))
 else some (Sum.inl (b2, b2_1))
 else some (Sum.inl (b2, b2_1))
 else some (Sum.inl (b2, b2_1))
 else some (Sum.inl (b2, b2_1))
noncomputable def fn_tab_Seen_45_0_0 (s1 : Int) (s2 : Bool) (s3 : Int) (s4 : Int) (b0 : Int) (b0_1 : Int) (b1 : Int) (b1_1 : Int) (s17 : (List En)) (b2 : Int) (b2_1 : Int) : Option (Int × Int × Int × Int × Int × Int) :=
  some (b0, b0_1, b1, b1_1, b2, b2_1)
noncomputable abbrev rx_tab_Seen_45_0_0 (s1 : Int) (s2 : Bool) (s3 : Int) (s4 : Int) (b0 : Int) (b0_1 : Int) (b1 : Int) (b1_1 : Int) (s17 : (List En)) (i : Nat) (s : (Int × Int)) : (Int × Bool × Int × Int × (List En) × Int × Int × Int × Int × Int × Int × Int × Int) := (s1, s2, s3, s4, s17, (s17.length : Int), (i : Int), b0, b0_1, b1, b1_1, s.1, s.2)
noncomputable def rv_tab_Seen_45_0_0 (s1 : Int) (s2 : Bool) (s3 : Int) (s4 : Int) (b0 : Int) (b0_1 : Int) (b1 : Int) (b1_1 : Int) (s17 : (List En)) (s : (Int × Int)) : Option (Int × Int × Int × Int × Int × Int) := rangeO (fun i s d => bd_tab_Seen_45_0_0 s1 s2 s3 s4 b0 b0_1 b1 b1_1 s17 i s.1 s.2 d) (fun s => fn_tab_Seen_45_0_0 s1 s2 s3 s4 b0 b0_1 b1 b1_1 s17 s.1 s.2) 0 s17 s
theorem rg_tab_Seen_45_0_0 (s1 : Int) (s2 : Bool) (s3 : Int) (s4 : Int) (b0 : Int) (b0_1 : Int) (b1 : Int) (b1_1 : Int) (s17 : (List En)) (s : (Int × Int)) (hl : s17.length < 9223372036854775807) : L_tab_Seen_45_0_0 (s1, s2, s3, s4, s17, (s17.length : Int), 0, b0, b0_1, b1, b1_1, s.1, s.2) = rv_tab_Seen_45_0_0 s1 s2 s3 s4 b0 b0_1 b1 b1_1 s17 s := by
  unfold L_tab_Seen_45_0_0 rv_tab_Seen_45_0_0
  refine iterO_range0 s17 (rx_tab_Seen_45_0_0 s1 s2 s3 s4 b0 b0_1 b1 b1_1 s17) _ _ ?_ ?_ s (by unfold FUEL; omega)
  · intro i s d hi hd
    have e1 : decide ((i : Int) < (s17.length : Int)) = true := decide_eq_true (by omega)
    have e2 : decide (0 ≤ (i : Int)) = true := decide_eq_true (by omega)
    have e3 : Int.toNat (i : Int) = i := Int.toNat_natCast i
    have e4 := wrap_next hi (Nat.le_of_lt hl)
    show st_tab_Seen_45_0_0 (s1) (s2) (s3) (s4) (s17) ((s17.length : Int)) ((i : Int)) (b0) (b0_1) (b1) (b1_1) (s.1) (s.2) = upd _ (bd_tab_Seen_45_0_0 s1 s2 s3 s4 b0 b0_1 b1 b1_1 s17 i s.1 s.2 d)
    unfold st_tab_Seen_45_0_0 bd_tab_Seen_45_0_0
    simp only [e1, e2, e3, e4, hd, cond_true, cond_false, optC_some, upd_cond, upd_optC, upd_elim, upd_inl, upd_inr, upd_none]
  · intro s
    have e1 : decide ((s17.length : Int) < (s17.length : Int)) = false := decide_eq_false (by omega)
    show st_tab_Seen_45_0_0 (s1) (s2) (s3) (s4) (s17) ((s17.length : Int)) ((s17.length : Int)) (b0) (b0_1) (b1) (b1_1) (s.1) (s.2) = _
    unfold st_tab_Seen_45_0_0 fn_tab_Seen_45_0_0
    rw [e1]
    rfl
end Go.Proofs.Ytbdcblpjemmipaa.Ex

namespace Go.Proofs.Ytbdcblpjemmipaa.Ex
open Go.Proofs Go.Proofs.Ytbdcblpjemmipaa
set_option maxRecDepth 100000
set_option maxHeartbeats 2000000
set_option linter.unusedVariables false
set_option linter.unusedSimpArgs false
abbrev ty_57_0 : Type := ((Int × (Bool × (Int × (Int × ((Unit × (Unit × Unit)) × (Unit × (Unit × ((List En) × (Int × (Int × Unit)))))))))) × ((Int × (Int × Unit)) × ((Int × Unit) × ((Int × (Int × Unit)) × ((Int × (Int × Unit)) × Unit)))))
abbrev ty_57_1 : Type := ((Unit × (Unit × Unit)) × ((Int × (Int × Unit)) × ((Int × Unit) × ((Int × (Int × Unit)) × ((Int × (Int × Unit)) × Unit)))))
abbrev ty_57_2 : Type := (Int × Bool × Int × Int × (List En) × Int × Int × Int × Int × Int × Int × Int × Int × Int)
abbrev fn_57_0 := (fun (d : ty_57_0) => ((d.1.1, d.1.2.1, d.1.2.2.1, d.1.2.2.2.1, d.1.2.2.2.2.2.2.2.1, d.1.2.2.2.2.2.2.2.2.1, d.1.2.2.2.2.2.2.2.2.2.1, d.2.1.1, d.2.1.2.1, d.2.2.1.1, d.2.2.2.1.1, d.2.2.2.1.2.1, d.2.2.2.2.1.1, d.2.2.2.2.1.2.1) : ty_57_2))
abbrev fn_57_1 := (fun (x : (Int × Int × Int × Int × Int × Int × Int)) => ((((), (), ()), ((x.1, x.2.1, ()), (x.2.2.1, ()), (x.2.2.2.1, x.2.2.2.2.1, ()), (x.2.2.2.2.2.1, x.2.2.2.2.2.2, ()), ())) : ty_57_1))
def ash_tab_Gained : List Sh := [.dat (.sl tEn), .dat (.int .i64), .dat .bool, .dat (.int .i64), .dat (.int .i64), .dat (.int .i64)]
def kp_tab_Gained_45_0 : Nat → List Nat := fun c => bif c.beq 0 then [1, 2, 3, 4, 5, 12, 13, 17, 18, 19] else [12, 13]
noncomputable def sp_tab_Gained : Nat → Option (List AV → Prog AV)
  | 89 => some (con_itv_None)
  | 90 => some (con_held_Apart)
  | 55 => some (con_itv_Join)
  | 48 => some (con_held_Has)
  | _ => none
theorem hsp_tab_Gained : ∀ g p, sp_tab_Gained g = some p → SoundA Try.prog g p := by
  intro g p h
  unfold sp_tab_Gained at h
  split at h
  · cases h; exact snd_itv_None
  · cases h; exact snd_held_Apart
  · cases h; exact snd_itv_Join
  · cases h; exact snd_held_Has
  · cases h
noncomputable def cx_tab_Gained0 : Ctx := { tab := tab, spec := sp_tab_Gained, inl := inl, lps := fun _ _ => none, fuel := 40 }
theorem in_tab_Gained0 : InlOk Try.prog cx_tab_Gained0 := ⟨inl_ok, fun _ _ _ _ _ _ _ _ h => nomatch h⟩
theorem cal_tab_Gained0 (g : Nat) : SoundA Try.prog g (evF cx_tab_Gained0 keeps 8 g) := evF_sound (tabOk_of tab_ok) (cmpsOk_of tab_ok cmps_ok) mixed in_tab_Gained0 hsp_tab_Gained keeps 8 g
noncomputable def F_tab_Gained_45_0 (base : Nat) : Tm → Prog (Nat × Tm) := evC cx_tab_Gained0 (evF cx_tab_Gained0 keeps 8) ⟨45, 57, keeps 45, base⟩ 0 (bodyX 45 0)
def s_tab_Gained_45_0_0 : StS := ⟨[(1, .int .i64), (2, .bool), (3, .int .i64), (4, .int .i64), (5, .clo 47 [] [.ptr 0 0]), (12, .ptr 2 0), (13, .ptr 3 0), (17, .sl tEn), (18, .int .i64), (19, .int .i64)], [(1, .box [.int .i64, .int .i64]), (0, .box [.int .i64]), (2, .box [.int .i64, .int .i64]), (3, .box [.int .i64, .int .i64])], 4⟩
def x_tab_Gained_45_0_0_0 : StS := ⟨[(12, .ptr 2 0), (13, .ptr 3 0)], [(1, .box [.int .i64, .int .i64]), (0, .box [.int .i64]), (2, .box [.int .i64, .int .i64]), (3, .box [.int .i64, .int .i64])], 4⟩
noncomputable def st_tab_Gained_45_0_0 (s1 : Int) (s2 : Bool) (s3 : Int) (s4 : Int) (s17 : (List En)) (s18 : Int) (s19 : Int) (b1 : Int) (b1_1 : Int) (b0 : Int) (b2 : Int) (b2_1 : Int) (b3 : Int) (b3_1 : Int) : Option (ty_57_2 ⊕ (Int × Int × Int × Int × Int × Int × Int)) :=
  bif decide (s19 < s18) then
 bif decide (0 ≤ s19) then
 optC s17[s19.toNat]? none fun d16 ↦
 bif d16.1 != s1 then
 bif d16.2.1 == s2 then
 bif d16.2.2.1 == s3 then
 optC (G_held_Apart (d16.2.2.2.1, s4, ())) none fun d17 ↦
 bif d17 then
 optC (G_held_Has (d16.2.2.2.1, b0, ())) none fun d18 ↦
 bif d18 then
 optC (G_itv_Join ([(b3, b3_1), d16.2.2.2.2], ())) none fun d19 ↦
 some (Sum.inl (s1, s2, s3, s4, s17, s18, Go.IntKind.i64.wrap (s19 + 1), b1, b1_1, b0, b2, b2_1, d19.1, d19.2))
 else some (Sum.inl (s1, s2, s3, s4, s17, s18, Go.IntKind.i64.wrap (s19 + 1), b1, b1_1, b0, b2, b2_1, b3, b3_1))
 else some (Sum.inl (s1, s2, s3, s4, s17, s18, Go.IntKind.i64.wrap (s19 + 1), b1, b1_1, b0, b2, b2_1, b3, b3_1))
 else some (Sum.inl (s1, s2, s3, s4, s17, s18, Go.IntKind.i64.wrap (s19 + 1), b1, b1_1, b0, b2, b2_1, b3, b3_1))
 else some (Sum.inl (s1, s2, s3, s4, s17, s18, Go.IntKind.i64.wrap (s19 + 1), b1, b1_1, b0, b2, b2_1, b3, b3_1))
 else some (Sum.inl (s1, s2, s3, s4, s17, s18, Go.IntKind.i64.wrap (s19 + 1), b1, b1_1, b0, b2, b2_1, b3, b3_1))
 else none
 else some (Sum.inr (b1, b1_1, b0, b2, b2_1, b3, b3_1))
theorem rn_tab_Gained_45_0_0 (s1 : Int) (s2 : Bool) (s3 : Int) (s4 : Int) (s17 : (List En)) (s18 : Int) (s19 : Int) (b1 : Int) (b1_1 : Int) (b0 : Int) (b2 : Int) (b2_1 : Int) (b3 : Int) (b3_1 : Int) : rdX cx_tab_Gained0 keeps 8 ⟨45, 57, keeps 45, 2⟩ 0 (bodyX 45 0) 2 kp_tab_Gained_45_0 (sT s_tab_Gained_45_0_0 ((s1, s2, s3, s4, ((), ((), ())), (), (), s17, s18, s19, ()), ((b1, b1_1, ()), (b0, ()), (b2, b2_1, ()), (b3, b3_1, ()), ()))) (sH s_tab_Gained_45_0_0 ((s1, s2, s3, s4, ((), ((), ())), (), (), s17, s18, s19, ()), ((b1, b1_1, ()), (b0, ()), (b2, b2_1, ()), (b3, b3_1, ()), ()))) (rdO (fun T h => (rdS s_tab_Gained_45_0_0 T h).map fn_57_0) (getE 2 x_tab_Gained_45_0_0_0 (fun (d : ty_57_1) => ((d.2.1.1, d.2.1.2.1, d.2.2.1.1, d.2.2.2.1.1, d.2.2.2.1.2.1, d.2.2.2.2.1.1, d.2.2.2.2.1.2.1) : (Int × Int × Int × Int × Int × Int × Int))))) = st_tab_Gained_45_0_0 s1 s2 s3 s4 s17 s18 s19 b1 b1_1 b0 b2 b2_1 b3 b3_1 := by kernel_rfl
noncomputable def L_tab_Gained_45_0_0 (x : ty_57_2) : Option (Int × Int × Int × Int × Int × Int × Int) := iterO (fun x => st_tab_Gained_45_0_0 x.1 x.2.1 x.2.2.1 x.2.2.2.1 x.2.2.2.2.1 x.2.2.2.2.2.1 x.2.2.2.2.2.2.1 x.2.2.2.2.2.2.2.1 x.2.2.2.2.2.2.2.2.1 x.2.2.2.2.2.2.2.2.2.1 x.2.2.2.2.2.2.2.2.2.2.1 x.2.2.2.2.2.2.2.2.2.2.2.1 x.2.2.2.2.2.2.2.2.2.2.2.2.1 x.2.2.2.2.2.2.2.2.2.2.2.2.2) FUEL x
noncomputable def q_tab_Gained_45_0 : Nat → Tm → Prog (Nat × Tm) := (varP 2 (fun T h => (rdS s_tab_Gained_45_0_0 T h).map fn_57_0) L_tab_Gained_45_0_0 (altE 2 x_tab_Gained_45_0_0_0 fn_57_1) (fun _ _ => .fail))
theorem ok_tab_Gained_45_0 : VarOk kp_tab_Gained_45_0 F_tab_Gained_45_0 q_tab_Gained_45_0 := (varX_ok (s := s_tab_Gained_45_0_0) (un := (fun (x : ty_57_2) => (((x.1, x.2.1, x.2.2.1, x.2.2.2.1, ((), ((), ())), (), (), x.2.2.2.2.1, x.2.2.2.2.2.1, x.2.2.2.2.2.2.1, ()), ((x.2.2.2.2.2.2.2.1, x.2.2.2.2.2.2.2.2.1, ()), (x.2.2.2.2.2.2.2.2.2.1, ()), (x.2.2.2.2.2.2.2.2.2.2.1, x.2.2.2.2.2.2.2.2.2.2.2.1, ()), (x.2.2.2.2.2.2.2.2.2.2.2.2.1, x.2.2.2.2.2.2.2.2.2.2.2.2.2, ()), ())) : ty_57_0))) (by rfl) (fun _ => rfl) (getE_ok (s := x_tab_Gained_45_0_0_0) (un := fn_57_1) (by rfl) (fun _ => rfl)) (step := fun x => st_tab_Gained_45_0_0 x.1 x.2.1 x.2.2.1 x.2.2.2.1 x.2.2.2.2.1 x.2.2.2.2.2.1 x.2.2.2.2.2.2.1 x.2.2.2.2.2.2.2.1 x.2.2.2.2.2.2.2.2.1 x.2.2.2.2.2.2.2.2.2.1 x.2.2.2.2.2.2.2.2.2.2.1 x.2.2.2.2.2.2.2.2.2.2.2.1 x.2.2.2.2.2.2.2.2.2.2.2.2.1 x.2.2.2.2.2.2.2.2.2.2.2.2.2) (fun x => rn_tab_Gained_45_0_0 x.1 x.2.1 x.2.2.1 x.2.2.2.1 x.2.2.2.2.1 x.2.2.2.2.2.1 x.2.2.2.2.2.2.1 x.2.2.2.2.2.2.2.1 x.2.2.2.2.2.2.2.2.1 x.2.2.2.2.2.2.2.2.2.1 x.2.2.2.2.2.2.2.2.2.2.1 x.2.2.2.2.2.2.2.2.2.2.2.1 x.2.2.2.2.2.2.2.2.2.2.2.2.1 x.2.2.2.2.2.2.2.2.2.2.2.2.2) (fun _ _ e => ⟨_, e⟩) (altE_ok 2 x_tab_Gained_45_0_0_0 fn_57_1) (VarOk.fail _ _))
noncomputable def lpI_tab_Gained_45_0 (base : Nat) (T : Tm) : Prog (Nat × Tm) := .norm base (kp_tab_Gained_45_0 0) T (q_tab_Gained_45_0 base)
theorem sndI_tab_Gained_45_0 : SoundC Try.prog 57 (.loop (bodyX 45 0)) lpI_tab_Gained_45_0 := loopK_sound (cx := cx_tab_Gained0) (cal := evF cx_tab_Gained0 keeps 8) (kp := keeps 45) (tabOk_of tab_ok) (cmpsOk_of tab_ok cmps_ok) cal_tab_Gained0 mixed (hl_of (g := 45) (b := 0) in_tab_Gained0 (by kernel_rfl) (by kernel_rfl)) ok_tab_Gained_45_0
noncomputable def lpL_tab_Gained_45_0 : Nat → Tm → Prog (Nat × Tm) := lpI_tab_Gained_45_0
theorem sndL_tab_Gained_45_0 : SoundC Try.prog 57 (.loop (bodyX 45 0)) lpL_tab_Gained_45_0 := sndI_tab_Gained_45_0
noncomputable def lp_tab_Gained : Nat → Nat → Option (Nat → Tm → Prog (Nat × Tm))
  | 45, 0 => some lpL_tab_Gained_45_0
  | _, _ => none
noncomputable def cx_tab_Gained : Ctx := { tab := tab, spec := sp_tab_Gained, inl := inl, lps := lp_tab_Gained, fuel := 40 }
theorem in_tab_Gained : InlOk Try.prog cx_tab_Gained := ⟨inl_ok, fun g fn c hg hb q hq p hp => by
  change lp_tab_Gained g q.1 = some p at hp
  change inl g = some fn at hg
  generalize hq1 : q.1 = b at hp
  unfold lp_tab_Gained at hp
  split at hp
  · cases hp; exact lps_case (inl := inl) hg hb hq hq1 (by kernel_rfl) (by kernel_rfl) sndL_tab_Gained_45_0
  · cases hp⟩
theorem cal_tab_Gained (g : Nat) : SoundA Try.prog g (evF cx_tab_Gained keeps 8 g) := evF_sound (tabOk_of tab_ok) (cmpsOk_of tab_ok cmps_ok) mixed in_tab_Gained hsp_tab_Gained keeps 8 g
noncomputable def g_tab_Gained (a0 : (List En)) (a1 : Int) (a2 : Bool) (a3 : Int) (a4 : Int) (a5 : Int) : Option I :=
  optC (L_tab_Gained_45_0_0 (a1, a2, a3, a4, a0, (↑a0.length : Int), 0, 0, 0, a5, 0, 0, 1, 0)) none fun d8 ↦ some (d8.2.2.2.2.2.1, d8.2.2.2.2.2.2)
theorem raw_tab_Gained (a0 : (List En)) (a1 : Int) (a2 : Bool) (a3 : Int) (a4 : Int) (a5 : Int) : evGX cx_tab_Gained keeps 8 14 ash_tab_Gained (.dat tI) ((a0, a1, a2, a3, a4, a5, ()) : ((List En) × (Int × (Bool × (Int × (Int × (Int × Unit))))))) = g_tab_Gained a0 a1 a2 a3 a4 a5 := by kernel_rfl
noncomputable def G_tab_Gained (x : ((List En) × (Int × (Bool × (Int × (Int × (Int × Unit))))))) : Option I := g_tab_Gained x.1 x.2.1 x.2.2.1 x.2.2.2.1 x.2.2.2.2.1 x.2.2.2.2.2.1
noncomputable def con_tab_Gained : List AV → Prog AV := conP false ash_tab_Gained (.dat tI) G_tab_Gained
theorem snd_tab_Gained : SoundA Try.prog 14 con_tab_Gained := conP_sound (cal_tab_Gained 14) false (by rfl) (by rfl) (fun x r e => (evGX_eq _ _ _ _ _ _ _).trans ((raw_tab_Gained x.1 x.2.1 x.2.2.1 x.2.2.2.1 x.2.2.2.2.1 x.2.2.2.2.2.1).trans e)) (.inr fun _ => rfl)
end Go.Proofs.Ytbdcblpjemmipaa.Ex

namespace Go.Proofs.Ytbdcblpjemmipaa.Ex
set_option maxRecDepth 100000
set_option maxHeartbeats 2000000
set_option linter.unusedVariables false
set_option linter.unusedSimpArgs false
noncomputable def bd_tab_Gained_45_0_0 (s1 : Int) (s2 : Bool) (s3 : Int) (s4 : Int) (b1 : Int) (b1_1 : Int) (b0 : Int) (b2 : Int) (b2_1 : Int) (s17 : (List En)) (i : Nat) (b3 : Int) (b3_1 : Int) (d : En) : Option ((Int × Int) ⊕ (Int × Int × Int × Int × Int × Int × Int)) :=
  bif d.1 != s1 then
   bif d.2.1 == s2 then
   bif d.2.2.1 == s3 then
   optC (G_held_Apart (d.2.2.2.1, s4, ())) (none) fun d17 ↦
   bif d17 then
   optC (G_held_Has (d.2.2.2.1, b0, ())) (none) fun d18 ↦
   bif d18 then
   optC (G_itv_Join ([(b3, b3_1), d.2.2.2.2], ())) (none) fun d19 ↦
   some (Sum.inl (d19.1, d19.2))
 else some (Sum.inl (b3, b3_1))
 else some (Sum.inl (b3, b3_1))
 else some (Sum.inl (b3, b3_1))
 else some (Sum.inl (b3, b3_1))
 else some (Sum.inl (b3, b3_1))
noncomputable def fn_tab_Gained_45_0_0 (s1 : Int) (s2 : Bool) (s3 : Int) (s4 : Int) (b1 : Int) (b1_1 : Int) (b0 : Int) (b2 : Int) (b2_1 : Int) (s17 : (List En)) (b3 : Int) (b3_1 : Int) : Option (Int × Int × Int × Int × Int × Int × Int) :=
  some (b1, b1_1, b0, b2, b2_1, b3, b3_1)
noncomputable abbrev rx_tab_Gained_45_0_0 (s1 : Int) (s2 : Bool) (s3 : Int) (s4 : Int) (b1 : Int) (b1_1 : Int) (b0 : Int) (b2 : Int) (b2_1 : Int) (s17 : (List En)) (i : Nat) (s : (Int × Int)) : (Int × Bool × Int × Int × (List En) × Int × Int × Int × Int × Int × Int × Int × Int × Int) := (s1, s2, s3, s4, s17, (s17.length : Int), (i : Int), b1, b1_1, b0, b2, b2_1, s.1, s.2)
noncomputable def rv_tab_Gained_45_0_0 (s1 : Int) (s2 : Bool) (s3 : Int) (s4 : Int) (b1 : Int) (b1_1 : Int) (b0 : Int) (b2 : Int) (b2_1 : Int) (s17 : (List En)) (s : (Int × Int)) : Option (Int × Int × Int × Int × Int × Int × Int) := rangeO (fun i s d => bd_tab_Gained_45_0_0 s1 s2 s3 s4 b1 b1_1 b0 b2 b2_1 s17 i s.1 s.2 d) (fun s => fn_tab_Gained_45_0_0 s1 s2 s3 s4 b1 b1_1 b0 b2 b2_1 s17 s.1 s.2) 0 s17 s
theorem rg_tab_Gained_45_0_0 (s1 : Int) (s2 : Bool) (s3 : Int) (s4 : Int) (b1 : Int) (b1_1 : Int) (b0 : Int) (b2 : Int) (b2_1 : Int) (s17 : (List En)) (s : (Int × Int)) (hl : s17.length < 9223372036854775807) : L_tab_Gained_45_0_0 (s1, s2, s3, s4, s17, (s17.length : Int), 0, b1, b1_1, b0, b2, b2_1, s.1, s.2) = rv_tab_Gained_45_0_0 s1 s2 s3 s4 b1 b1_1 b0 b2 b2_1 s17 s := by
  unfold L_tab_Gained_45_0_0 rv_tab_Gained_45_0_0
  refine iterO_range0 s17 (rx_tab_Gained_45_0_0 s1 s2 s3 s4 b1 b1_1 b0 b2 b2_1 s17) _ _ ?_ ?_ s (by unfold FUEL; omega)
  · intro i s d hi hd
    have e1 : decide ((i : Int) < (s17.length : Int)) = true := decide_eq_true (by omega)
    have e2 : decide (0 ≤ (i : Int)) = true := decide_eq_true (by omega)
    have e3 : Int.toNat (i : Int) = i := Int.toNat_natCast i
    have e4 := wrap_next hi (Nat.le_of_lt hl)
    show st_tab_Gained_45_0_0 (s1) (s2) (s3) (s4) (s17) ((s17.length : Int)) ((i : Int)) (b1) (b1_1) (b0) (b2) (b2_1) (s.1) (s.2) = upd _ (bd_tab_Gained_45_0_0 s1 s2 s3 s4 b1 b1_1 b0 b2 b2_1 s17 i s.1 s.2 d)
    unfold st_tab_Gained_45_0_0 bd_tab_Gained_45_0_0
    simp only [e1, e2, e3, e4, hd, cond_true, cond_false, optC_some, upd_cond, upd_optC, upd_elim, upd_inl, upd_inr, upd_none]
  · intro s
    have e1 : decide ((s17.length : Int) < (s17.length : Int)) = false := decide_eq_false (by omega)
    show st_tab_Gained_45_0_0 (s1) (s2) (s3) (s4) (s17) ((s17.length : Int)) ((s17.length : Int)) (b1) (b1_1) (b0) (b2) (b2_1) (s.1) (s.2) = _
    unfold st_tab_Gained_45_0_0 fn_tab_Gained_45_0_0
    rw [e1]
    rfl
end Go.Proofs.Ytbdcblpjemmipaa.Ex

namespace Go.Proofs.Ytbdcblpjemmipaa.Ex
open Go.Proofs Go.Proofs.Ytbdcblpjemmipaa
set_option maxRecDepth 100000
set_option maxHeartbeats 2000000
set_option linter.unusedVariables false
set_option linter.unusedSimpArgs false
def ash_ref2_None : List Sh := []
noncomputable def sp_ref2_None : Nat → Option (List AV → Prog AV)
  | _ => none
theorem hsp_ref2_None : ∀ g p, sp_ref2_None g = some p → SoundA Try.prog g p := by
  intro g p h
  unfold sp_ref2_None at h
  split at h
  · cases h
noncomputable def cx_ref2_None : Ctx := { tab := tab, spec := sp_ref2_None, inl := inl, lps := fun _ _ => none, fuel := 40 }
theorem in_ref2_None : InlOk Try.prog cx_ref2_None := ⟨inl_ok, fun _ _ _ _ _ _ _ _ h => nomatch h⟩
theorem cal_ref2_None (g : Nat) : SoundA Try.prog g (evF cx_ref2_None keeps 8 g) := evF_sound (tabOk_of tab_ok) (cmpsOk_of tab_ok cmps_ok) mixed in_ref2_None hsp_ref2_None keeps 8 g
noncomputable def g_ref2_None  : Option I :=
  some (1, 0)
theorem raw_ref2_None  : evGX cx_ref2_None keeps 8 50 ash_ref2_None (.dat tI) (() : Unit) = g_ref2_None  := by kernel_rfl
noncomputable def G_ref2_None (x : Unit) : Option I := g_ref2_None 
noncomputable def con_ref2_None : List AV → Prog AV := conP true ash_ref2_None (.dat tI) G_ref2_None
theorem snd_ref2_None : SoundA Try.prog 50 con_ref2_None := conP_sound (cal_ref2_None 50) true (by rfl) (by rfl) (fun x r e => (evGX_eq _ _ _ _ _ _ _).trans ((raw_ref2_None ).trans e)) (.inl rfl)
end Go.Proofs.Ytbdcblpjemmipaa.Ex

namespace Go.Proofs.Ytbdcblpjemmipaa.Ex
open Go.Proofs Go.Proofs.Ytbdcblpjemmipaa
set_option maxRecDepth 100000
set_option maxHeartbeats 2000000
set_option linter.unusedVariables false
set_option linter.unusedSimpArgs false
def ash_ref3_Apart : List Sh := [.dat (.int .i64), .dat (.int .i64)]
noncomputable def sp_ref3_Apart : Nat → Option (List AV → Prog AV)
  | _ => none
theorem hsp_ref3_Apart : ∀ g p, sp_ref3_Apart g = some p → SoundA Try.prog g p := by
  intro g p h
  unfold sp_ref3_Apart at h
  split at h
  · cases h
noncomputable def cx_ref3_Apart : Ctx := { tab := tab, spec := sp_ref3_Apart, inl := inl, lps := fun _ _ => none, fuel := 40 }
theorem in_ref3_Apart : InlOk Try.prog cx_ref3_Apart := ⟨inl_ok, fun _ _ _ _ _ _ _ _ h => nomatch h⟩
theorem cal_ref3_Apart (g : Nat) : SoundA Try.prog g (evF cx_ref3_Apart keeps 8 g) := evF_sound (tabOk_of tab_ok) (cmpsOk_of tab_ok cmps_ok) mixed in_ref3_Apart hsp_ref3_Apart keeps 8 g
noncomputable def g_ref3_Apart (a0 : Int) (a1 : Int) : Option Bool :=
  some
 (Go.IntKind.i64.wrap
 (↑(BitVec.ofInt Go.IntKind.i64.bits (Go.IntKind.i64.wrap (↑(BitVec.ofInt Go.IntKind.i64.bits a0 &&& BitVec.ofInt Go.IntKind.i64.bits a1).toNat : Int)) &&&
 BitVec.ofInt Go.IntKind.i64.bits 2147483647).toNat :
 Int) ==
 0)
theorem raw_ref3_Apart (a0 : Int) (a1 : Int) : evGX cx_ref3_Apart keeps 8 66 ash_ref3_Apart (.dat .bool) ((a0, a1, ()) : (Int × (Int × Unit))) = g_ref3_Apart a0 a1 := by kernel_rfl
noncomputable def G_ref3_Apart (x : (Int × (Int × Unit))) : Option Bool := g_ref3_Apart x.1 x.2.1
noncomputable def con_ref3_Apart : List AV → Prog AV := conP true ash_ref3_Apart (.dat .bool) G_ref3_Apart
theorem snd_ref3_Apart : SoundA Try.prog 66 con_ref3_Apart := conP_sound (cal_ref3_Apart 66) true (by rfl) (by rfl) (fun x r e => (evGX_eq _ _ _ _ _ _ _).trans ((raw_ref3_Apart x.1 x.2.1).trans e)) (.inl rfl)
end Go.Proofs.Ytbdcblpjemmipaa.Ex

namespace Go.Proofs.Ytbdcblpjemmipaa.Ex
open Go.Proofs Go.Proofs.Ytbdcblpjemmipaa
set_option maxRecDepth 100000
set_option maxHeartbeats 2000000
set_option linter.unusedVariables false
set_option linter.unusedSimpArgs false
def ash_ref2_Empty : List Sh := [.dat tI]
noncomputable def sp_ref2_Empty : Nat → Option (List AV → Prog AV)
  | _ => none
theorem hsp_ref2_Empty : ∀ g p, sp_ref2_Empty g = some p → SoundA Try.prog g p := by
  intro g p h
  unfold sp_ref2_Empty at h
  split at h
  · cases h
noncomputable def cx_ref2_Empty : Ctx := { tab := tab, spec := sp_ref2_Empty, inl := inl, lps := fun _ _ => none, fuel := 40 }
theorem in_ref2_Empty : InlOk Try.prog cx_ref2_Empty := ⟨inl_ok, fun _ _ _ _ _ _ _ _ h => nomatch h⟩
theorem cal_ref2_Empty (g : Nat) : SoundA Try.prog g (evF cx_ref2_Empty keeps 8 g) := evF_sound (tabOk_of tab_ok) (cmpsOk_of tab_ok cmps_ok) mixed in_ref2_Empty hsp_ref2_Empty keeps 8 g
noncomputable def g_ref2_Empty (a0 : I) : Option Bool :=
  some (decide (a0.1 > a0.2))
theorem raw_ref2_Empty (a0 : I) : evGX cx_ref2_Empty keeps 8 49 ash_ref2_Empty (.dat .bool) ((a0, ()) : (I × Unit)) = g_ref2_Empty a0 := by kernel_rfl
noncomputable def G_ref2_Empty (x : (I × Unit)) : Option Bool := g_ref2_Empty x.1
noncomputable def con_ref2_Empty : List AV → Prog AV := conP true ash_ref2_Empty (.dat .bool) G_ref2_Empty
theorem snd_ref2_Empty : SoundA Try.prog 49 con_ref2_Empty := conP_sound (cal_ref2_Empty 49) true (by rfl) (by rfl) (fun x r e => (evGX_eq _ _ _ _ _ _ _).trans ((raw_ref2_Empty x.1).trans e)) (.inl rfl)
end Go.Proofs.Ytbdcblpjemmipaa.Ex

namespace Go.Proofs.Ytbdcblpjemmipaa.Ex
open Go.Proofs Go.Proofs.Ytbdcblpjemmipaa
set_option maxRecDepth 100000
set_option maxHeartbeats 2000000
set_option linter.unusedVariables false
set_option linter.unusedSimpArgs false
def ash_ref2_Join : List Sh := [.dat tI, .dat tI]
noncomputable def sp_ref2_Join : Nat → Option (List AV → Prog AV)
  | 49 => some (con_ref2_Empty)
  | _ => none
theorem hsp_ref2_Join : ∀ g p, sp_ref2_Join g = some p → SoundA Try.prog g p := by
  intro g p h
  unfold sp_ref2_Join at h
  split at h
  · cases h; exact snd_ref2_Empty
  · cases h
noncomputable def cx_ref2_Join : Ctx := { tab := tab, spec := sp_ref2_Join, inl := inl, lps := fun _ _ => none, fuel := 40 }
theorem in_ref2_Join : InlOk Try.prog cx_ref2_Join := ⟨inl_ok, fun _ _ _ _ _ _ _ _ h => nomatch h⟩
theorem cal_ref2_Join (g : Nat) : SoundA Try.prog g (evF cx_ref2_Join keeps 8 g) := evF_sound (tabOk_of tab_ok) (cmpsOk_of tab_ok cmps_ok) mixed in_ref2_Join hsp_ref2_Join keeps 8 g
noncomputable def g_ref2_Join (a0 : I) (a1 : I) : Option I :=
  bif decide (a0.1 > a0.2) then some (a1.1, a1.2)
 else bif decide (a1.1 > a1.2) then some (a0.1, a0.2) else some (if a1.1 < a0.1 then a1.1 else a0.1, if a1.2 > a0.2 then a1.2 else a0.2)
theorem raw_ref2_Join (a0 : I) (a1 : I) : evGX cx_ref2_Join keeps 8 15 ash_ref2_Join (.dat tI) ((a0, a1, ()) : (I × (I × Unit))) = g_ref2_Join a0 a1 := by kernel_rfl
noncomputable def G_ref2_Join (x : (I × (I × Unit))) : Option I := g_ref2_Join x.1 x.2.1
noncomputable def con_ref2_Join : List AV → Prog AV := conP true ash_ref2_Join (.dat tI) G_ref2_Join
theorem snd_ref2_Join : SoundA Try.prog 15 con_ref2_Join := conP_sound (cal_ref2_Join 15) true (by rfl) (by rfl) (fun x r e => (evGX_eq _ _ _ _ _ _ _).trans ((raw_ref2_Join x.1 x.2.1).trans e)) (.inl rfl)
end Go.Proofs.Ytbdcblpjemmipaa.Ex

namespace Go.Proofs.Ytbdcblpjemmipaa.Ex
open Go.Proofs Go.Proofs.Ytbdcblpjemmipaa
set_option maxRecDepth 100000
set_option maxHeartbeats 2000000
set_option linter.unusedVariables false
set_option linter.unusedSimpArgs false
abbrev ty_63_0 : Type := (((List En) × (Int × (Bool × (Int × (Int × (Unit × (Unit × (Int × Unit)))))))) × ((Int × (Int × Unit)) × ((Int × (Int × Unit)) × Unit)))
abbrev ty_63_1 : Type := ((Unit × (Unit × Unit)) × ((Int × (Int × Unit)) × ((Int × (Int × Unit)) × Unit)))
abbrev ty_63_2 : Type := ((List En) × Int × Bool × Int × Int × Int × Int × Int × Int × Int)
abbrev fn_63_0 := (fun (d : ty_63_0) => ((d.1.1, d.1.2.1, d.1.2.2.1, d.1.2.2.2.1, d.1.2.2.2.2.1, d.1.2.2.2.2.2.2.2.1, d.2.1.1, d.2.1.2.1, d.2.2.1.1, d.2.2.1.2.1) : ty_63_2))
abbrev fn_63_1 := (fun (x : (Int × Int × Int × Int)) => ((((), (), ()), ((x.1, x.2.1, ()), (x.2.2.1, x.2.2.2, ()), ())) : ty_63_1))
def ash_ref12_Seen : List Sh := [.dat (.sl tEn), .dat (.int .i64), .dat .bool, .dat (.int .i64), .dat (.int .i64)]
def kp_ref12_Seen_28_0 : Nat → List Nat := fun c => bif c.beq 0 then [0, 1, 2, 3, 4, 10, 11, 12] else [10, 11]
noncomputable def sp_ref12_Seen : Nat → Option (List AV → Prog AV)
  | 50 => some (con_ref2_None)
  | 66 => some (con_ref3_Apart)
  | 15 => some (con_ref2_Join)
  | _ => none
theorem hsp_ref12_Seen : ∀ g p, sp_ref12_Seen g = some p → SoundA Try.prog g p := by
  intro g p h
  unfold sp_ref12_Seen at h
  split at h
  · cases h; exact snd_ref2_None
  · cases h; exact snd_ref3_Apart
  · cases h; exact snd_ref2_Join
  · cases h
noncomputable def cx_ref12_Seen0 : Ctx := { tab := tab, spec := sp_ref12_Seen, inl := inl, lps := fun _ _ => none, fuel := 40 }
theorem in_ref12_Seen0 : InlOk Try.prog cx_ref12_Seen0 := ⟨inl_ok, fun _ _ _ _ _ _ _ _ h => nomatch h⟩
theorem cal_ref12_Seen0 (g : Nat) : SoundA Try.prog g (evF cx_ref12_Seen0 keeps 8 g) := evF_sound (tabOk_of tab_ok) (cmpsOk_of tab_ok cmps_ok) mixed in_ref12_Seen0 hsp_ref12_Seen keeps 8 g
noncomputable def F_ref12_Seen_28_0 (base : Nat) : Tm → Prog (Nat × Tm) := evC cx_ref12_Seen0 (evF cx_ref12_Seen0 keeps 8) ⟨28, 52, keeps 28, base⟩ 0 (bodyX 28 0)
def s_ref12_Seen_28_0_0 : StS := ⟨[(0, .sl tEn), (1, .int .i64), (2, .bool), (3, .int .i64), (4, .int .i64), (10, .ptr 0 0), (11, .ptr 1 0), (12, .int .i64)], [(0, .box [.int .i64, .int .i64]), (1, .box [.int .i64, .int .i64])], 2⟩
def x_ref12_Seen_28_0_0_0 : StS := ⟨[(10, .ptr 0 0), (11, .ptr 1 0)], [(0, .box [.int .i64, .int .i64]), (1, .box [.int .i64, .int .i64])], 2⟩
noncomputable def st_ref12_Seen_28_0_0 (s0 : (List En)) (s1 : Int) (s2 : Bool) (s3 : Int) (s4 : Int) (s12 : Int) (b0 : Int) (b0_1 : Int) (b1 : Int) (b1_1 : Int) : Option (ty_63_2 ⊕ (Int × Int × Int × Int)) :=
  bif decide (s12 < (↑s0.length : Int)) then
 bif decide (0 ≤ s12) then
 optC s0[s12.toNat]? none fun d12 ↦
 bif d12.1 != s1 then
 bif d12.2.1 == s2 then
 bif d12.2.2.1 == s3 then
 bif
 Go.IntKind.i64.wrap
 (↑(BitVec.ofInt Go.IntKind.i64.bits (Go.IntKind.i64.wrap (↑(BitVec.ofInt Go.IntKind.i64.bits d12.2.2.2.1 &&& BitVec.ofInt Go.IntKind.i64.bits s4).toNat : Int)) &&&
 BitVec.ofInt Go.IntKind.i64.bits 2147483647).toNat :
 Int) ==
 0 then
 optC (G_ref2_Join ((b1, b1_1), d12.2.2.2.2, ())) none fun d13 ↦
 some (Sum.inl (s0, s1, s2, s3, s4, Go.IntKind.i64.wrap (s12 + 1), b0, b0_1, d13.1, d13.2))
 else some (Sum.inl (s0, s1, s2, s3, s4, Go.IntKind.i64.wrap (s12 + 1), b0, b0_1, b1, b1_1))
 else some (Sum.inl (s0, s1, s2, s3, s4, Go.IntKind.i64.wrap (s12 + 1), b0, b0_1, b1, b1_1))
 else some (Sum.inl (s0, s1, s2, s3, s4, Go.IntKind.i64.wrap (s12 + 1), b0, b0_1, b1, b1_1))
 else some (Sum.inl (s0, s1, s2, s3, s4, Go.IntKind.i64.wrap (s12 + 1), b0, b0_1, b1, b1_1))
 else none
 else some (Sum.inr (b0, b0_1, b1, b1_1))
theorem rn_ref12_Seen_28_0_0 (s0 : (List En)) (s1 : Int) (s2 : Bool) (s3 : Int) (s4 : Int) (s12 : Int) (b0 : Int) (b0_1 : Int) (b1 : Int) (b1_1 : Int) : rdX cx_ref12_Seen0 keeps 8 ⟨28, 52, keeps 28, 0⟩ 0 (bodyX 28 0) 0 kp_ref12_Seen_28_0 (sT s_ref12_Seen_28_0_0 ((s0, s1, s2, s3, s4, (), (), s12, ()), ((b0, b0_1, ()), (b1, b1_1, ()), ()))) (sH s_ref12_Seen_28_0_0 ((s0, s1, s2, s3, s4, (), (), s12, ()), ((b0, b0_1, ()), (b1, b1_1, ()), ()))) (rdO (fun T h => (rdS s_ref12_Seen_28_0_0 T h).map fn_63_0) (getE 2 x_ref12_Seen_28_0_0_0 (fun (d : ty_63_1) => ((d.2.1.1, d.2.1.2.1, d.2.2.1.1, d.2.2.1.2.1) : (Int × Int × Int × Int))))) = st_ref12_Seen_28_0_0 s0 s1 s2 s3 s4 s12 b0 b0_1 b1 b1_1 := by kernel_rfl
noncomputable def L_ref12_Seen_28_0_0 (x : ty_63_2) : Option (Int × Int × Int × Int) := iterO (fun x => st_ref12_Seen_28_0_0 x.1 x.2.1 x.2.2.1 x.2.2.2.1 x.2.2.2.2.1 x.2.2.2.2.2.1 x.2.2.2.2.2.2.1 x.2.2.2.2.2.2.2.1 x.2.2.2.2.2.2.2.2.1 x.2.2.2.2.2.2.2.2.2) FUEL x
noncomputable def q_ref12_Seen_28_0 : Nat → Tm → Prog (Nat × Tm) := (varP 0 (fun T h => (rdS s_ref12_Seen_28_0_0 T h).map fn_63_0) L_ref12_Seen_28_0_0 (altE 2 x_ref12_Seen_28_0_0_0 fn_63_1) (fun _ _ => .fail))
theorem ok_ref12_Seen_28_0 : VarOk kp_ref12_Seen_28_0 F_ref12_Seen_28_0 q_ref12_Seen_28_0 := (varX_ok (s := s_ref12_Seen_28_0_0) (un := (fun (x : ty_63_2) => (((x.1, x.2.1, x.2.2.1, x.2.2.2.1, x.2.2.2.2.1, (), (), x.2.2.2.2.2.1, ()), ((x.2.2.2.2.2.2.1, x.2.2.2.2.2.2.2.1, ()), (x.2.2.2.2.2.2.2.2.1, x.2.2.2.2.2.2.2.2.2, ()), ())) : ty_63_0))) (by rfl) (fun _ => rfl) (getE_ok (s := x_ref12_Seen_28_0_0_0) (un := fn_63_1) (by rfl) (fun _ => rfl)) (step := fun x => st_ref12_Seen_28_0_0 x.1 x.2.1 x.2.2.1 x.2.2.2.1 x.2.2.2.2.1 x.2.2.2.2.2.1 x.2.2.2.2.2.2.1 x.2.2.2.2.2.2.2.1 x.2.2.2.2.2.2.2.2.1 x.2.2.2.2.2.2.2.2.2) (fun x => rn_ref12_Seen_28_0_0 x.1 x.2.1 x.2.2.1 x.2.2.2.1 x.2.2.2.2.1 x.2.2.2.2.2.1 x.2.2.2.2.2.2.1 x.2.2.2.2.2.2.2.1 x.2.2.2.2.2.2.2.2.1 x.2.2.2.2.2.2.2.2.2) (fun _ _ e => ⟨_, e⟩) (altE_ok 2 x_ref12_Seen_28_0_0_0 fn_63_1) (VarOk.fail _ _))
noncomputable def lpI_ref12_Seen_28_0 (base : Nat) (T : Tm) : Prog (Nat × Tm) := .norm base (kp_ref12_Seen_28_0 0) T (q_ref12_Seen_28_0 base)
theorem sndI_ref12_Seen_28_0 : SoundC Try.prog 52 (.loop (bodyX 28 0)) lpI_ref12_Seen_28_0 := loopK_sound (cx := cx_ref12_Seen0) (cal := evF cx_ref12_Seen0 keeps 8) (kp := keeps 28) (tabOk_of tab_ok) (cmpsOk_of tab_ok cmps_ok) cal_ref12_Seen0 mixed (hl_of (g := 28) (b := 0) in_ref12_Seen0 (by kernel_rfl) (by kernel_rfl)) ok_ref12_Seen_28_0
noncomputable def lpL_ref12_Seen_28_0 : Nat → Tm → Prog (Nat × Tm) := lpI_ref12_Seen_28_0
theorem sndL_ref12_Seen_28_0 : SoundC Try.prog 52 (.loop (bodyX 28 0)) lpL_ref12_Seen_28_0 := sndI_ref12_Seen_28_0
noncomputable def lp_ref12_Seen : Nat → Nat → Option (Nat → Tm → Prog (Nat × Tm))
  | 28, 0 => some lpL_ref12_Seen_28_0
  | _, _ => none
noncomputable def cx_ref12_Seen : Ctx := { tab := tab, spec := sp_ref12_Seen, inl := inl, lps := lp_ref12_Seen, fuel := 40 }
theorem in_ref12_Seen : InlOk Try.prog cx_ref12_Seen := ⟨inl_ok, fun g fn c hg hb q hq p hp => by
  change lp_ref12_Seen g q.1 = some p at hp
  change inl g = some fn at hg
  generalize hq1 : q.1 = b at hp
  unfold lp_ref12_Seen at hp
  split at hp
  · cases hp; exact lps_case (inl := inl) hg hb hq hq1 (by kernel_rfl) (by kernel_rfl) sndL_ref12_Seen_28_0
  · cases hp⟩
theorem cal_ref12_Seen (g : Nat) : SoundA Try.prog g (evF cx_ref12_Seen keeps 8 g) := evF_sound (tabOk_of tab_ok) (cmpsOk_of tab_ok cmps_ok) mixed in_ref12_Seen hsp_ref12_Seen keeps 8 g
noncomputable def g_ref12_Seen (a0 : (List En)) (a1 : Int) (a2 : Bool) (a3 : Int) (a4 : Int) : Option I :=
  optC (L_ref12_Seen_28_0_0 (a0, a1, a2, a3, a4, 0, 0, 0, 1, 0)) none fun d7 ↦ some (d7.2.2.1, d7.2.2.2)
theorem raw_ref12_Seen (a0 : (List En)) (a1 : Int) (a2 : Bool) (a3 : Int) (a4 : Int) : evGX cx_ref12_Seen keeps 8 28 ash_ref12_Seen (.dat tI) ((a0, a1, a2, a3, a4, ()) : ((List En) × (Int × (Bool × (Int × (Int × Unit)))))) = g_ref12_Seen a0 a1 a2 a3 a4 := by kernel_rfl
noncomputable def G_ref12_Seen (x : ((List En) × (Int × (Bool × (Int × (Int × Unit)))))) : Option I := g_ref12_Seen x.1 x.2.1 x.2.2.1 x.2.2.2.1 x.2.2.2.2.1
noncomputable def con_ref12_Seen : List AV → Prog AV := conP true ash_ref12_Seen (.dat tI) G_ref12_Seen
theorem snd_ref12_Seen : SoundA Try.prog 28 con_ref12_Seen := conP_sound (cal_ref12_Seen 28) true (by rfl) (by rfl) (fun x r e => (evGX_eq _ _ _ _ _ _ _).trans ((raw_ref12_Seen x.1 x.2.1 x.2.2.1 x.2.2.2.1 x.2.2.2.2.1).trans e)) (.inl rfl)
end Go.Proofs.Ytbdcblpjemmipaa.Ex

namespace Go.Proofs.Ytbdcblpjemmipaa.Ex
set_option maxRecDepth 100000
set_option maxHeartbeats 2000000
set_option linter.unusedVariables false
set_option linter.unusedSimpArgs false
noncomputable def bd_ref12_Seen_28_0_0 (s1 : Int) (s2 : Bool) (s3 : Int) (s4 : Int) (b0 : Int) (b0_1 : Int) (s0 : (List En)) (i : Nat) (b1 : Int) (b1_1 : Int) (d : En) : Option ((Int × Int) ⊕ (Int × Int × Int × Int)) :=
  bif d.1 != s1 then
   bif d.2.1 == s2 then
   bif d.2.2.1 == s3 then
   bif Go.IntKind.i64.wrap (↑(BitVec.ofInt Go.IntKind.i64.bits (Go.IntKind.i64.wrap (↑(BitVec.ofInt Go.IntKind.i64.bits d.2.2.2.1 &&& BitVec.ofInt Go.IntKind.i64.bits s4).toNat : Int)) &&& BitVec.ofInt Go.IntKind.i64.bits 2147483647).toNat : Int) == 0 then
   optC (G_ref2_Join ((b1, b1_1), d.2.2.2.2, ())) (none) fun d13 ↦
   some (Sum.inl (d13.1, d13.2))
 else some (Sum.inl (b1, b1_1))
 else some (Sum.inl (b1, b1_1))
 else some (Sum.inl (b1, b1_1))
 else some (Sum.inl (b1, b1_1))
noncomputable def fn_ref12_Seen_28_0_0 (s1 : Int) (s2 : Bool) (s3 : Int) (s4 : Int) (b0 : Int) (b0_1 : Int) (s0 : (List En)) (b1 : Int) (b1_1 : Int) : Option (Int × Int × Int × Int) :=
  some (b0, b0_1, b1, b1_1)
noncomputable abbrev rx_ref12_Seen_28_0_0 (s1 : Int) (s2 : Bool) (s3 : Int) (s4 : Int) (b0 : Int) (b0_1 : Int) (s0 : (List En)) (i : Nat) (s : (Int × Int)) : ((List En) × Int × Bool × Int × Int × Int × Int × Int × Int × Int) := (s0, s1, s2, s3, s4, (i : Int), b0, b0_1, s.1, s.2)
noncomputable def rv_ref12_Seen_28_0_0 (s1 : Int) (s2 : Bool) (s3 : Int) (s4 : Int) (b0 : Int) (b0_1 : Int) (s0 : (List En)) (s : (Int × Int)) : Option (Int × Int × Int × Int) := rangeO (fun i s d => bd_ref12_Seen_28_0_0 s1 s2 s3 s4 b0 b0_1 s0 i s.1 s.2 d) (fun s => fn_ref12_Seen_28_0_0 s1 s2 s3 s4 b0 b0_1 s0 s.1 s.2) 0 s0 s
theorem rg_ref12_Seen_28_0_0 (s1 : Int) (s2 : Bool) (s3 : Int) (s4 : Int) (b0 : Int) (b0_1 : Int) (s0 : (List En)) (s : (Int × Int)) (hl : s0.length < 9223372036854775807) : L_ref12_Seen_28_0_0 (s0, s1, s2, s3, s4, 0, b0, b0_1, s.1, s.2) = rv_ref12_Seen_28_0_0 s1 s2 s3 s4 b0 b0_1 s0 s := by
  unfold L_ref12_Seen_28_0_0 rv_ref12_Seen_28_0_0
  refine iterO_range0 s0 (rx_ref12_Seen_28_0_0 s1 s2 s3 s4 b0 b0_1 s0) _ _ ?_ ?_ s (by unfold FUEL; omega)
  · intro i s d hi hd
    have e1 : decide ((i : Int) < (s0.length : Int)) = true := decide_eq_true (by omega)
    have e2 : decide (0 ≤ (i : Int)) = true := decide_eq_true (by omega)
    have e3 : Int.toNat (i : Int) = i := Int.toNat_natCast i
    have e4 := wrap_next hi (Nat.le_of_lt hl)
    show st_ref12_Seen_28_0_0 (s0) (s1) (s2) (s3) (s4) ((i : Int)) (b0) (b0_1) (s.1) (s.2) = upd _ (bd_ref12_Seen_28_0_0 s1 s2 s3 s4 b0 b0_1 s0 i s.1 s.2 d)
    unfold st_ref12_Seen_28_0_0 bd_ref12_Seen_28_0_0
    simp only [e1, e2, e3, e4, hd, cond_true, cond_false, optC_some, upd_cond, upd_optC, upd_elim, upd_inl, upd_inr, upd_none]
  · intro s
    have e1 : decide ((s0.length : Int) < (s0.length : Int)) = false := decide_eq_false (by omega)
    show st_ref12_Seen_28_0_0 (s0) (s1) (s2) (s3) (s4) ((s0.length : Int)) (b0) (b0_1) (s.1) (s.2) = _
    unfold st_ref12_Seen_28_0_0 fn_ref12_Seen_28_0_0
    rw [e1]
    rfl
end Go.Proofs.Ytbdcblpjemmipaa.Ex

namespace Go.Proofs.Ytbdcblpjemmipaa.Ex
open Go.Proofs Go.Proofs.Ytbdcblpjemmipaa
set_option maxRecDepth 100000
set_option maxHeartbeats 2000000
set_option linter.unusedVariables false
set_option linter.unusedSimpArgs false
def ash_ref3_Has : List Sh := [.dat (.int .i64), .dat (.int .i64)]
noncomputable def sp_ref3_Has : Nat → Option (List AV → Prog AV)
  | _ => none
theorem hsp_ref3_Has : ∀ g p, sp_ref3_Has g = some p → SoundA Try.prog g p := by
  intro g p h
  unfold sp_ref3_Has at h
  split at h
  · cases h
noncomputable def cx_ref3_Has : Ctx := { tab := tab, spec := sp_ref3_Has, inl := inl, lps := fun _ _ => none, fuel := 40 }
theorem in_ref3_Has : InlOk Try.prog cx_ref3_Has := ⟨inl_ok, fun _ _ _ _ _ _ _ _ h => nomatch h⟩
theorem cal_ref3_Has (g : Nat) : SoundA Try.prog g (evF cx_ref3_Has keeps 8 g) := evF_sound (tabOk_of tab_ok) (cmpsOk_of tab_ok cmps_ok) mixed in_ref3_Has hsp_ref3_Has keeps 8 g
noncomputable def g_ref3_Has (a0 : Int) (a1 : Int) : Option Bool :=
  bif decide (a1 ≥ 0) then
 bif decide (a1 ≤ 30) then
 bif decide (Go.IntKind.u64.wrap a1 < 0) then none
 else
 some
 (Go.IntKind.i64.wrap (↑(BitVec.ofInt Go.IntKind.i64.bits (a0.fdiv (2 ^ Min.min (Go.IntKind.u64.wrap a1).toNat Go.IntKind.i64.bits)) &&& BitVec.ofInt Go.IntKind.i64.bits 1).toNat : Int) == 1)
 else some false
 else some false
theorem raw_ref3_Has (a0 : Int) (a1 : Int) : evGX cx_ref3_Has keeps 8 67 ash_ref3_Has (.dat .bool) ((a0, a1, ()) : (Int × (Int × Unit))) = g_ref3_Has a0 a1 := by kernel_rfl
noncomputable def G_ref3_Has (x : (Int × (Int × Unit))) : Option Bool := g_ref3_Has x.1 x.2.1
noncomputable def con_ref3_Has : List AV → Prog AV := conP true ash_ref3_Has (.dat .bool) G_ref3_Has
theorem snd_ref3_Has : SoundA Try.prog 67 con_ref3_Has := conP_sound (cal_ref3_Has 67) true (by rfl) (by rfl) (fun x r e => (evGX_eq _ _ _ _ _ _ _).trans ((raw_ref3_Has x.1 x.2.1).trans e)) (.inl rfl)
end Go.Proofs.Ytbdcblpjemmipaa.Ex

namespace Go.Proofs.Ytbdcblpjemmipaa.Ex
open Go.Proofs Go.Proofs.Ytbdcblpjemmipaa
set_option maxRecDepth 100000
set_option maxHeartbeats 2000000
set_option linter.unusedVariables false
set_option linter.unusedSimpArgs false
abbrev ty_66_0 : Type := (((List En) × (Int × (Bool × (Int × (Int × (Int × (Unit × (Unit × (Int × Unit))))))))) × ((Int × (Int × Unit)) × ((List En) × Unit)))
abbrev ty_66_1 : Type := ((Int × (Bool × (Int × (Int × (Unit × (Unit × Unit)))))) × ((Int × (Int × Unit)) × ((List En) × Unit)))
abbrev ty_66_2 : Type := ((List En) × Int × Bool × Int × Int × Int × Int × Int × Int × (List En))
abbrev fn_66_0 := (fun (x : (Int × Bool × Int × Int × Int × Int × (List En))) => (((x.1, x.2.1, x.2.2.1, x.2.2.2.1, (), (), ()), ((x.2.2.2.2.1, x.2.2.2.2.2.1, ()), x.2.2.2.2.2.2, ())) : ty_66_1))
abbrev fn_66_1 := (fun (d : ty_66_0) => ((d.1.1, d.1.2.1, d.1.2.2.1, d.1.2.2.2.1, d.1.2.2.2.2.1, d.1.2.2.2.2.2.1, d.1.2.2.2.2.2.2.2.2.1, d.2.1.1, d.2.1.2.1, d.2.2.1) : ty_66_2))
def ash_ref12_Gained : List Sh := [.dat (.sl tEn), .dat (.int .i64), .dat .bool, .dat (.int .i64), .dat (.int .i64), .dat (.int .i64)]
def kp_ref12_Gained_29_0 : Nat → List Nat := fun c => bif c.beq 0 then [0, 1, 2, 3, 4, 5, 12, 13, 14] else [1, 2, 3, 4, 12, 13]
noncomputable def sp_ref12_Gained : Nat → Option (List AV → Prog AV)
  | 67 => some (con_ref3_Has)
  | 28 => some (con_ref12_Seen)
  | _ => none
theorem hsp_ref12_Gained : ∀ g p, sp_ref12_Gained g = some p → SoundA Try.prog g p := by
  intro g p h
  unfold sp_ref12_Gained at h
  split at h
  · cases h; exact snd_ref3_Has
  · cases h; exact snd_ref12_Seen
  · cases h
noncomputable def cx_ref12_Gained0 : Ctx := { tab := tab, spec := sp_ref12_Gained, inl := inl, lps := fun _ _ => none, fuel := 40 }
theorem in_ref12_Gained0 : InlOk Try.prog cx_ref12_Gained0 := ⟨inl_ok, fun _ _ _ _ _ _ _ _ h => nomatch h⟩
theorem cal_ref12_Gained0 (g : Nat) : SoundA Try.prog g (evF cx_ref12_Gained0 keeps 8 g) := evF_sound (tabOk_of tab_ok) (cmpsOk_of tab_ok cmps_ok) mixed in_ref12_Gained0 hsp_ref12_Gained keeps 8 g
noncomputable def F_ref12_Gained_29_0 (base : Nat) : Tm → Prog (Nat × Tm) := evC cx_ref12_Gained0 (evF cx_ref12_Gained0 keeps 8) ⟨29, 41, keeps 29, base⟩ 0 (bodyX 29 0)
def s_ref12_Gained_29_0_0 : StS := ⟨[(0, .sl tEn), (1, .int .i64), (2, .bool), (3, .int .i64), (4, .int .i64), (5, .int .i64), (12, .ptr 0 0), (13, .row 1), (14, .int .i64)], [(0, .box [.int .i64, .int .i64]), (1, .row tEn)], 2⟩
def x_ref12_Gained_29_0_0_0 : StS := ⟨[(1, .int .i64), (2, .bool), (3, .int .i64), (4, .int .i64), (12, .ptr 0 0), (13, .row 1)], [(0, .box [.int .i64, .int .i64]), (1, .row tEn)], 2⟩
noncomputable def st_ref12_Gained_29_0_0 (s0 : (List En)) (s1 : Int) (s2 : Bool) (s3 : Int) (s4 : Int) (s5 : Int) (s14 : Int) (b0 : Int) (b0_1 : Int) (b1 : (List En)) : Option (ty_66_2 ⊕ (Int × Bool × Int × Int × Int × Int × (List En))) :=
  bif decide (s14 < (↑s0.length : Int)) then
 bif decide (0 ≤ s14) then
 optC s0[s14.toNat]? none fun d12 ↦
 optC (G_ref3_Has (d12.2.2.2.1, s5, ())) none fun d13 ↦
 bif d13 then
 bif decide (0 ≤ s14) then
 optC s0[s14.toNat]? none fun d14 ↦
 bif decide ((b1.length + [d14].length + 1) * 48 ≤ lim) then some (Sum.inl (s0, s1, s2, s3, s4, s5, Go.IntKind.i64.wrap (s14 + 1), b0, b0_1, b1 ++ [d14]))
 else none
 else none
 else some (Sum.inl (s0, s1, s2, s3, s4, s5, Go.IntKind.i64.wrap (s14 + 1), b0, b0_1, b1))
 else none
 else some (Sum.inr (s1, s2, s3, s4, b0, b0_1, b1))
theorem rn_ref12_Gained_29_0_0 (s0 : (List En)) (s1 : Int) (s2 : Bool) (s3 : Int) (s4 : Int) (s5 : Int) (s14 : Int) (b0 : Int) (b0_1 : Int) (b1 : (List En)) : rdX cx_ref12_Gained0 keeps 8 ⟨29, 41, keeps 29, 0⟩ 0 (bodyX 29 0) 0 kp_ref12_Gained_29_0 (sT s_ref12_Gained_29_0_0 ((s0, s1, s2, s3, s4, s5, (), (), s14, ()), ((b0, b0_1, ()), b1, ()))) (sH s_ref12_Gained_29_0_0 ((s0, s1, s2, s3, s4, s5, (), (), s14, ()), ((b0, b0_1, ()), b1, ()))) (rdO (fun T h => (rdS s_ref12_Gained_29_0_0 T h).map fn_66_1) (getE 2 x_ref12_Gained_29_0_0_0 (fun (d : ty_66_1) => ((d.1.1, d.1.2.1, d.1.2.2.1, d.1.2.2.2.1, d.2.1.1, d.2.1.2.1, d.2.2.1) : (Int × Bool × Int × Int × Int × Int × (List En)))))) = st_ref12_Gained_29_0_0 s0 s1 s2 s3 s4 s5 s14 b0 b0_1 b1 := by kernel_rfl
noncomputable def L_ref12_Gained_29_0_0 (x : ty_66_2) : Option (Int × Bool × Int × Int × Int × Int × (List En)) := iterO (fun x => st_ref12_Gained_29_0_0 x.1 x.2.1 x.2.2.1 x.2.2.2.1 x.2.2.2.2.1 x.2.2.2.2.2.1 x.2.2.2.2.2.2.1 x.2.2.2.2.2.2.2.1 x.2.2.2.2.2.2.2.2.1 x.2.2.2.2.2.2.2.2.2) FUEL x
noncomputable def q_ref12_Gained_29_0 : Nat → Tm → Prog (Nat × Tm) := (varP 0 (fun T h => (rdS s_ref12_Gained_29_0_0 T h).map fn_66_1) L_ref12_Gained_29_0_0 (altE 2 x_ref12_Gained_29_0_0_0 fn_66_0) (fun _ _ => .fail))
theorem ok_ref12_Gained_29_0 : VarOk kp_ref12_Gained_29_0 F_ref12_Gained_29_0 q_ref12_Gained_29_0 := (varX_ok (s := s_ref12_Gained_29_0_0) (un := (fun (x : ty_66_2) => (((x.1, x.2.1, x.2.2.1, x.2.2.2.1, x.2.2.2.2.1, x.2.2.2.2.2.1, (), (), x.2.2.2.2.2.2.1, ()), ((x.2.2.2.2.2.2.2.1, x.2.2.2.2.2.2.2.2.1, ()), x.2.2.2.2.2.2.2.2.2, ())) : ty_66_0))) (by rfl) (fun _ => rfl) (getE_ok (s := x_ref12_Gained_29_0_0_0) (un := fn_66_0) (by rfl) (fun _ => rfl)) (step := fun x => st_ref12_Gained_29_0_0 x.1 x.2.1 x.2.2.1 x.2.2.2.1 x.2.2.2.2.1 x.2.2.2.2.2.1 x.2.2.2.2.2.2.1 x.2.2.2.2.2.2.2.1 x.2.2.2.2.2.2.2.2.1 x.2.2.2.2.2.2.2.2.2) (fun x => rn_ref12_Gained_29_0_0 x.1 x.2.1 x.2.2.1 x.2.2.2.1 x.2.2.2.2.1 x.2.2.2.2.2.1 x.2.2.2.2.2.2.1 x.2.2.2.2.2.2.2.1 x.2.2.2.2.2.2.2.2.1 x.2.2.2.2.2.2.2.2.2) (fun _ _ e => ⟨_, e⟩) (altE_ok 2 x_ref12_Gained_29_0_0_0 fn_66_0) (VarOk.fail _ _))
noncomputable def lpI_ref12_Gained_29_0 (base : Nat) (T : Tm) : Prog (Nat × Tm) := .norm base (kp_ref12_Gained_29_0 0) T (q_ref12_Gained_29_0 base)
theorem sndI_ref12_Gained_29_0 : SoundC Try.prog 41 (.loop (bodyX 29 0)) lpI_ref12_Gained_29_0 := loopK_sound (cx := cx_ref12_Gained0) (cal := evF cx_ref12_Gained0 keeps 8) (kp := keeps 29) (tabOk_of tab_ok) (cmpsOk_of tab_ok cmps_ok) cal_ref12_Gained0 mixed (hl_of (g := 29) (b := 0) in_ref12_Gained0 (by kernel_rfl) (by kernel_rfl)) ok_ref12_Gained_29_0
noncomputable def lpL_ref12_Gained_29_0 : Nat → Tm → Prog (Nat × Tm) := (ownP [] [(13, tEn)] (kp_ref12_Gained_29_0 0) lpI_ref12_Gained_29_0)
theorem sndL_ref12_Gained_29_0 : SoundC Try.prog 41 (.loop (bodyX 29 0)) lpL_ref12_Gained_29_0 := (own_sound sndI_ref12_Gained_29_0)
noncomputable def lp_ref12_Gained : Nat → Nat → Option (Nat → Tm → Prog (Nat × Tm))
  | 29, 0 => some lpL_ref12_Gained_29_0
  | _, _ => none
noncomputable def cx_ref12_Gained : Ctx := { tab := tab, spec := sp_ref12_Gained, inl := inl, lps := lp_ref12_Gained, fuel := 40 }
theorem in_ref12_Gained : InlOk Try.prog cx_ref12_Gained := ⟨inl_ok, fun g fn c hg hb q hq p hp => by
  change lp_ref12_Gained g q.1 = some p at hp
  change inl g = some fn at hg
  generalize hq1 : q.1 = b at hp
  unfold lp_ref12_Gained at hp
  split at hp
  · cases hp; exact lps_case (inl := inl) hg hb hq hq1 (by kernel_rfl) (by kernel_rfl) sndL_ref12_Gained_29_0
  · cases hp⟩
theorem cal_ref12_Gained (g : Nat) : SoundA Try.prog g (evF cx_ref12_Gained keeps 8 g) := evF_sound (tabOk_of tab_ok) (cmpsOk_of tab_ok cmps_ok) mixed in_ref12_Gained hsp_ref12_Gained keeps 8 g
noncomputable def g_ref12_Gained (a0 : (List En)) (a1 : Int) (a2 : Bool) (a3 : Int) (a4 : Int) (a5 : Int) : Option I :=
  optC (L_ref12_Gained_29_0_0 (a0, a1, a2, a3, a4, a5, 0, 0, 0, [])) none fun d8 ↦
 optC (G_ref12_Seen (d8.2.2.2.2.2.2, d8.1, d8.2.1, d8.2.2.1, d8.2.2.2.1, ())) none fun d9 ↦ some (d9.1, d9.2)
theorem raw_ref12_Gained (a0 : (List En)) (a1 : Int) (a2 : Bool) (a3 : Int) (a4 : Int) (a5 : Int) : evGX cx_ref12_Gained keeps 8 29 ash_ref12_Gained (.dat tI) ((a0, a1, a2, a3, a4, a5, ()) : ((List En) × (Int × (Bool × (Int × (Int × (Int × Unit))))))) = g_ref12_Gained a0 a1 a2 a3 a4 a5 := by kernel_rfl
noncomputable def G_ref12_Gained (x : ((List En) × (Int × (Bool × (Int × (Int × (Int × Unit))))))) : Option I := g_ref12_Gained x.1 x.2.1 x.2.2.1 x.2.2.2.1 x.2.2.2.2.1 x.2.2.2.2.2.1
noncomputable def con_ref12_Gained : List AV → Prog AV := conP true ash_ref12_Gained (.dat tI) G_ref12_Gained
theorem snd_ref12_Gained : SoundA Try.prog 29 con_ref12_Gained := conP_sound (cal_ref12_Gained 29) true (by rfl) (by rfl) (fun x r e => (evGX_eq _ _ _ _ _ _ _).trans ((raw_ref12_Gained x.1 x.2.1 x.2.2.1 x.2.2.2.1 x.2.2.2.2.1 x.2.2.2.2.2.1).trans e)) (.inl rfl)
end Go.Proofs.Ytbdcblpjemmipaa.Ex

namespace Go.Proofs.Ytbdcblpjemmipaa.Ex
set_option maxRecDepth 100000
set_option maxHeartbeats 2000000
set_option linter.unusedVariables false
set_option linter.unusedSimpArgs false
noncomputable def bd_ref12_Gained_29_0_0 (s1 : Int) (s2 : Bool) (s3 : Int) (s4 : Int) (s5 : Int) (b0 : Int) (b0_1 : Int) (s0 : (List En)) (i : Nat) (b1 : (List En)) (d : En) : Option ((List En) ⊕ (Int × Bool × Int × Int × Int × Int × (List En))) :=
  optC (G_ref3_Has (d.2.2.2.1, s5, ())) (none) fun d13 ↦
   bif d13 then
   bif decide ((b1.length + [d].length + 1) * 48 ≤ lim) then
   some (Sum.inl (b1 ++ [d]))
 else none
 else some (Sum.inl (b1))
noncomputable def fn_ref12_Gained_29_0_0 (s1 : Int) (s2 : Bool) (s3 : Int) (s4 : Int) (s5 : Int) (b0 : Int) (b0_1 : Int) (s0 : (List En)) (b1 : (List En)) : Option (Int × Bool × Int × Int × Int × Int × (List En)) :=
  some (s1, s2, s3, s4, b0, b0_1, b1)
noncomputable abbrev rx_ref12_Gained_29_0_0 (s1 : Int) (s2 : Bool) (s3 : Int) (s4 : Int) (s5 : Int) (b0 : Int) (b0_1 : Int) (s0 : (List En)) (i : Nat) (s : (List En)) : ((List En) × Int × Bool × Int × Int × Int × Int × Int × Int × (List En)) := (s0, s1, s2, s3, s4, s5, (i : Int), b0, b0_1, s)
noncomputable def rv_ref12_Gained_29_0_0 (s1 : Int) (s2 : Bool) (s3 : Int) (s4 : Int) (s5 : Int) (b0 : Int) (b0_1 : Int) (s0 : (List En)) (s : (List En)) : Option (Int × Bool × Int × Int × Int × Int × (List En)) := rangeO (fun i s d => bd_ref12_Gained_29_0_0 s1 s2 s3 s4 s5 b0 b0_1 s0 i s d) (fun s => fn_ref12_Gained_29_0_0 s1 s2 s3 s4 s5 b0 b0_1 s0 s) 0 s0 s
theorem rg_ref12_Gained_29_0_0 (s1 : Int) (s2 : Bool) (s3 : Int) (s4 : Int) (s5 : Int) (b0 : Int) (b0_1 : Int) (s0 : (List En)) (s : (List En)) (hl : s0.length < 9223372036854775807) : L_ref12_Gained_29_0_0 (s0, s1, s2, s3, s4, s5, 0, b0, b0_1, s) = rv_ref12_Gained_29_0_0 s1 s2 s3 s4 s5 b0 b0_1 s0 s := by
  unfold L_ref12_Gained_29_0_0 rv_ref12_Gained_29_0_0
  refine iterO_range0 s0 (rx_ref12_Gained_29_0_0 s1 s2 s3 s4 s5 b0 b0_1 s0) _ _ ?_ ?_ s (by unfold FUEL; omega)
  · intro i s d hi hd
    have e1 : decide ((i : Int) < (s0.length : Int)) = true := decide_eq_true (by omega)
    have e2 : decide (0 ≤ (i : Int)) = true := decide_eq_true (by omega)
    have e3 : Int.toNat (i : Int) = i := Int.toNat_natCast i
    have e4 := wrap_next hi (Nat.le_of_lt hl)
    show st_ref12_Gained_29_0_0 (s0) (s1) (s2) (s3) (s4) (s5) ((i : Int)) (b0) (b0_1) (s) = upd _ (bd_ref12_Gained_29_0_0 s1 s2 s3 s4 s5 b0 b0_1 s0 i s d)
    unfold st_ref12_Gained_29_0_0 bd_ref12_Gained_29_0_0
    simp only [e1, e2, e3, e4, hd, cond_true, cond_false, optC_some, upd_cond, upd_optC, upd_elim, upd_inl, upd_inr, upd_none]
  · intro s
    have e1 : decide ((s0.length : Int) < (s0.length : Int)) = false := decide_eq_false (by omega)
    show st_ref12_Gained_29_0_0 (s0) (s1) (s2) (s3) (s4) (s5) ((s0.length : Int)) (b0) (b0_1) (s) = _
    unfold st_ref12_Gained_29_0_0 fn_ref12_Gained_29_0_0
    rw [e1]
    rfl
end Go.Proofs.Ytbdcblpjemmipaa.Ex

namespace Go.Proofs.Ytbdcblpjemmipaa.Ex
open Go.Proofs Go.Proofs.Ytbdcblpjemmipaa
set_option maxRecDepth 100000
set_option maxHeartbeats 2000000
set_option linter.unusedVariables false
set_option linter.unusedSimpArgs false
noncomputable def g_ref8_in (a0 : Int) (a1 : Int) : Option Bool :=
  bif decide (a0 ≥ 0) then some (decide (a0 < a1)) else some false
noncomputable def G_ref8_in (x : (Int × (Int × Unit))) : Option Bool := g_ref8_in x.1 x.2.1
end Go.Proofs.Ytbdcblpjemmipaa.Ex

namespace Go.Proofs.Ytbdcblpjemmipaa.Ex
open Go.Proofs Go.Proofs.Ytbdcblpjemmipaa
set_option maxRecDepth 100000
set_option maxHeartbeats 2000000
set_option linter.unusedVariables false
set_option linter.unusedSimpArgs false
def ash_ref1_Fits : List Sh := [.dat (.int .i64)]
noncomputable def sp_ref1_Fits : Nat → Option (List AV → Prog AV)
  | _ => none
theorem hsp_ref1_Fits : ∀ g p, sp_ref1_Fits g = some p → SoundA Try.prog g p := by
  intro g p h
  unfold sp_ref1_Fits at h
  split at h
  · cases h
noncomputable def cx_ref1_Fits : Ctx := { tab := tab, spec := sp_ref1_Fits, inl := inl, lps := fun _ _ => none, fuel := 40 }
theorem in_ref1_Fits : InlOk Try.prog cx_ref1_Fits := ⟨inl_ok, fun _ _ _ _ _ _ _ _ h => nomatch h⟩
theorem cal_ref1_Fits (g : Nat) : SoundA Try.prog g (evF cx_ref1_Fits keeps 8 g) := evF_sound (tabOk_of tab_ok) (cmpsOk_of tab_ok cmps_ok) mixed in_ref1_Fits hsp_ref1_Fits keeps 8 g
noncomputable def g_ref1_Fits (a0 : Int) : Option Bool :=
  bif decide (a0 ≥ -2147483648) then some (decide (a0 ≤ 2147483647)) else some false
theorem raw_ref1_Fits (a0 : Int) : evGX cx_ref1_Fits keeps 8 51 ash_ref1_Fits (.dat .bool) ((a0, ()) : (Int × Unit)) = g_ref1_Fits a0 := by kernel_rfl
noncomputable def G_ref1_Fits (x : (Int × Unit)) : Option Bool := g_ref1_Fits x.1
noncomputable def con_ref1_Fits : List AV → Prog AV := conP true ash_ref1_Fits (.dat .bool) G_ref1_Fits
theorem snd_ref1_Fits : SoundA Try.prog 51 con_ref1_Fits := conP_sound (cal_ref1_Fits 51) true (by rfl) (by rfl) (fun x r e => (evGX_eq _ _ _ _ _ _ _).trans ((raw_ref1_Fits x.1).trans e)) (.inl rfl)
end Go.Proofs.Ytbdcblpjemmipaa.Ex

namespace Go.Proofs.Ytbdcblpjemmipaa.Ex
open Go.Proofs Go.Proofs.Ytbdcblpjemmipaa
set_option maxRecDepth 100000
set_option maxHeartbeats 2000000
set_option linter.unusedVariables false
set_option linter.unusedSimpArgs false
noncomputable def st_ref8_uses_153_0_0 (s5 : ByteArray) (s6 : Int) (s7 : Int) : Option ((ByteArray × Int × Int) ⊕ (Unit ⊕ Bool)) :=
  bif decide (s7 < (↑s5.size : Int)) then
 bif decide (0 ≤ s7) then
 optC s5[s7.toNat]? none fun d5 ↦ bif (↑d5.toNat : Int) == s6 then some (Sum.inr (Sum.inr true)) else some (Sum.inl (s5, s6, Go.IntKind.i64.wrap (s7 + 1)))
 else none
 else some (Sum.inr (Sum.inl PUnit.unit))
noncomputable def L_ref8_uses_153_0_0 (x : (ByteArray × Int × Int)) : Option (Unit ⊕ Bool) := iterO (fun x => st_ref8_uses_153_0_0 x.1 x.2.1 x.2.2) FUEL x
noncomputable def g_ref8_uses (a0 : Int) (a1 : Int) : Option Bool :=
  bif decide (0 ≤ a0) then
 optC
 [ByteArray.mk #[], ByteArray.mk #[84], ByteArray.mk #[84, 88], ByteArray.mk #[84], ByteArray.mk #[84, 88, 89], ByteArray.mk #[84, 71], ByteArray.mk #[71, 88], ByteArray.mk #[84, 71, 88],
 ByteArray.mk #[71, 88, 89], ByteArray.mk #[71], ByteArray.mk #[71], ByteArray.mk #[88, 89], ByteArray.mk #[], ByteArray.mk #[], ByteArray.mk #[]][a0.toNat]?
 none fun d4 ↦
 optC
 [ByteArray.mk #[], ByteArray.mk #[84], ByteArray.mk #[84, 88], ByteArray.mk #[84], ByteArray.mk #[84, 88, 89], ByteArray.mk #[84, 71], ByteArray.mk #[71, 88], ByteArray.mk #[84, 71, 88],
 ByteArray.mk #[71, 88, 89], ByteArray.mk #[71], ByteArray.mk #[71], ByteArray.mk #[88, 89], ByteArray.mk #[], ByteArray.mk #[], ByteArray.mk #[]][a0.toNat]?
 none fun d5 ↦
 bif decide (0 ≤ a1) then
 optC (ByteArray.mk #[32, 84, 88, 89, 71])[a1.toNat]? none fun d6 ↦
 optC (L_ref8_uses_153_0_0 (d5, (↑d6.toNat : Int), 0)) none fun d7 ↦ Sum.elim (fun e8 ↦ some false) (fun e8 ↦ some e8) d7
 else none
 else none
noncomputable def G_ref8_uses (x : (Int × (Int × Unit))) : Option Bool := g_ref8_uses x.1 x.2.1
end Go.Proofs.Ytbdcblpjemmipaa.Ex

namespace Go.Proofs.Ytbdcblpjemmipaa.Ex
open Go.Proofs Go.Proofs.Ytbdcblpjemmipaa
set_option maxRecDepth 100000
set_option maxHeartbeats 2000000
set_option linter.unusedVariables false
set_option linter.unusedSimpArgs false
noncomputable def g_ref8_has (a0 : Int) (a1 : Int) (a2 : Int) (a3 : Int) : Option Bool :=
  optC (G_ref8_uses (a0, a1, ())) none fun d5 ↦ bif d5 then optC (G_ref8_in (a2, a3, ())) none fun d6 ↦ some d6 else some (a2 == 0)
noncomputable def G_ref8_has (x : (Int × (Int × (Int × (Int × Unit))))) : Option Bool := g_ref8_has x.1 x.2.1 x.2.2.1 x.2.2.2.1
end Go.Proofs.Ytbdcblpjemmipaa.Ex

namespace Go.Proofs.Ytbdcblpjemmipaa.Ex
open Go.Proofs Go.Proofs.Ytbdcblpjemmipaa
set_option maxRecDepth 100000
set_option maxHeartbeats 2000000
set_option linter.unusedVariables false
set_option linter.unusedSimpArgs false
noncomputable def g_ref8_act (a0 : U) (a1 : C) (a2 : A) : Option Bool :=
  bif a2.1 == 1 then
 bif a2.1 != 1 then
 bif a2.2.2.2.2.2.1 != 0 then some false
 else
 optC (G_ref1_Fits (a2.2.2.2.2.2.1, ())) none fun d4 ↦
 bif !d4 then some false
 else
 optC (G_ref8_in (a2.2.2.2.2.2.2.2.1, (↑(List.length a1.2) : Int), ())) none fun d5 ↦
 bif !d5 then some false
 else
 optC (G_ref8_in (a2.2.2.2.2.2.2.2.2, (↑(List.length a1.2) : Int), ())) none fun d6 ↦
 bif !d6 then some false
 else
 bif a2.1 != 11 then
 bif a2.2.2.2.2.2.2.2.2 != 0 then some false
 else
 bif a2.2.2.2.2.2.2.1 != 0 then some false
 else
 optC (G_ref8_has (a2.1, 1, a2.2.1, a1.1, ())) none fun d7 ↦
 bif d7 then
 optC (G_ref8_has (a2.1, 2, a2.2.2.1, 0, ())) none fun d8 ↦
 bif d8 then
 optC (G_ref8_has (a2.1, 3, a2.2.2.2.1, 0, ())) none fun d9 ↦
 bif d9 then optC (G_ref8_has (a2.1, 4, a2.2.2.2.2.1, 0, ())) none fun d10 ↦ some d10 else some false
 else some false
 else some false
 else
 bif a2.2.2.2.2.2.2.1 != 0 then some false
 else
 optC (G_ref8_has (a2.1, 1, a2.2.1, a1.1, ())) none fun d7 ↦
 bif d7 then
 optC (G_ref8_has (a2.1, 2, a2.2.2.1, 0, ())) none fun d8 ↦
 bif d8 then
 optC (G_ref8_has (a2.1, 3, a2.2.2.2.1, 0, ())) none fun d9 ↦
 bif d9 then optC (G_ref8_has (a2.1, 4, a2.2.2.2.2.1, 0, ())) none fun d10 ↦ some d10 else some false
 else some false
 else some false
 else
 optC (G_ref1_Fits (a2.2.2.2.2.2.1, ())) none fun d4 ↦
 bif !d4 then some false
 else
 optC (G_ref8_in (a2.2.2.2.2.2.2.2.1, (↑(List.length a1.2) : Int), ())) none fun d5 ↦
 bif !d5 then some false
 else
 optC (G_ref8_in (a2.2.2.2.2.2.2.2.2, (↑(List.length a1.2) : Int), ())) none fun d6 ↦
 bif !d6 then some false
 else
 bif a2.1 != 11 then
 bif a2.2.2.2.2.2.2.2.2 != 0 then some false
 else
 bif a2.2.2.2.2.2.2.1 != 0 then some false
 else
 optC (G_ref8_has (a2.1, 1, a2.2.1, a1.1, ())) none fun d7 ↦
 bif d7 then
 optC (G_ref8_has (a2.1, 2, a2.2.2.1, 0, ())) none fun d8 ↦
 bif d8 then
 optC (G_ref8_has (a2.1, 3, a2.2.2.2.1, 0, ())) none fun d9 ↦
 bif d9 then optC (G_ref8_has (a2.1, 4, a2.2.2.2.2.1, 0, ())) none fun d10 ↦ some d10 else some false
 else some false
 else some false
 else
 bif a2.2.2.2.2.2.2.1 != 0 then some false
 else
 optC (G_ref8_has (a2.1, 1, a2.2.1, a1.1, ())) none fun d7 ↦
 bif d7 then
 optC (G_ref8_has (a2.1, 2, a2.2.2.1, 0, ())) none fun d8 ↦
 bif d8 then
 optC (G_ref8_has (a2.1, 3, a2.2.2.2.1, 0, ())) none fun d9 ↦
 bif d9 then optC (G_ref8_has (a2.1, 4, a2.2.2.2.2.1, 0, ())) none fun d10 ↦ some d10 else some false
 else some false
 else some false
 else
 bif a2.1 == 3 then
 bif a2.1 != 1 then
 bif a2.2.2.2.2.2.1 != 0 then some false
 else
 optC (G_ref1_Fits (a2.2.2.2.2.2.1, ())) none fun d4 ↦
 bif !d4 then some false
 else
 optC (G_ref8_in (a2.2.2.2.2.2.2.2.1, (↑(List.length a1.2) : Int), ())) none fun d5 ↦
 bif !d5 then some false
 else
 optC (G_ref8_in (a2.2.2.2.2.2.2.2.2, (↑(List.length a1.2) : Int), ())) none fun d6 ↦
 bif !d6 then some false
 else
 bif a2.1 != 11 then
 bif a2.2.2.2.2.2.2.2.2 != 0 then some false
 else
 bif a2.2.2.2.2.2.2.1 != 0 then some false
 else
 optC (G_ref8_has (a2.1, 1, a2.2.1, a1.1, ())) none fun d7 ↦
 bif d7 then
 optC (G_ref8_has (a2.1, 2, a2.2.2.1, 0, ())) none fun d8 ↦
 bif d8 then
 optC (G_ref8_has (a2.1, 3, a2.2.2.2.1, 0, ())) none fun d9 ↦
 bif d9 then optC (G_ref8_has (a2.1, 4, a2.2.2.2.2.1, 0, ())) none fun d10 ↦ some d10 else some false
 else some false
 else some false
 else
 bif a2.2.2.2.2.2.2.1 != 0 then some false
 else
 optC (G_ref8_has (a2.1, 1, a2.2.1, a1.1, ())) none fun d7 ↦
 bif d7 then
 optC (G_ref8_has (a2.1, 2, a2.2.2.1, 0, ())) none fun d8 ↦
 bif d8 then
 optC (G_ref8_has (a2.1, 3, a2.2.2.2.1, 0, ())) none fun d9 ↦
 bif d9 then optC (G_ref8_has (a2.1, 4, a2.2.2.2.2.1, 0, ())) none fun d10 ↦ some d10 else some false
 else some false
 else some false
 else
 optC (G_ref1_Fits (a2.2.2.2.2.2.1, ())) none fun d4 ↦
 bif !d4 then some false
 else
 optC (G_ref8_in (a2.2.2.2.2.2.2.2.1, (↑(List.length a1.2) : Int), ())) none fun d5 ↦
 bif !d5 then some false
 else
 optC (G_ref8_in (a2.2.2.2.2.2.2.2.2, (↑(List.length a1.2) : Int), ())) none fun d6 ↦
 bif !d6 then some false
 else
 bif a2.1 != 11 then
 bif a2.2.2.2.2.2.2.2.2 != 0 then some false
 else
 bif a2.2.2.2.2.2.2.1 != 0 then some false
 else
 optC (G_ref8_has (a2.1, 1, a2.2.1, a1.1, ())) none fun d7 ↦
 bif d7 then
 optC (G_ref8_has (a2.1, 2, a2.2.2.1, 0, ())) none fun d8 ↦
 bif d8 then
 optC (G_ref8_has (a2.1, 3, a2.2.2.2.1, 0, ())) none fun d9 ↦
 bif d9 then optC (G_ref8_has (a2.1, 4, a2.2.2.2.2.1, 0, ())) none fun d10 ↦ some d10 else some false
 else some false
 else some false
 else
 bif a2.2.2.2.2.2.2.1 != 0 then some false
 else
 optC (G_ref8_has (a2.1, 1, a2.2.1, a1.1, ())) none fun d7 ↦
 bif d7 then
 optC (G_ref8_has (a2.1, 2, a2.2.2.1, 0, ())) none fun d8 ↦
 bif d8 then
 optC (G_ref8_has (a2.1, 3, a2.2.2.2.1, 0, ())) none fun d9 ↦
 bif d9 then optC (G_ref8_has (a2.1, 4, a2.2.2.2.2.1, 0, ())) none fun d10 ↦ some d10 else some false
 else some false
 else some false
 else
 bif a2.1 == 2 then
 bif a2.1 != 1 then
 bif a2.2.2.2.2.2.1 != 0 then some false
 else
 optC (G_ref1_Fits (a2.2.2.2.2.2.1, ())) none fun d4 ↦
 bif !d4 then some false
 else
 optC (G_ref8_in (a2.2.2.2.2.2.2.2.1, (↑(List.length a1.2) : Int), ())) none fun d5 ↦
 bif !d5 then some false
 else
 optC (G_ref8_in (a2.2.2.2.2.2.2.2.2, (↑(List.length a1.2) : Int), ())) none fun d6 ↦
 bif !d6 then some false
 else
 bif a2.1 != 11 then
 bif a2.2.2.2.2.2.2.2.2 != 0 then some false
 else
 bif a2.2.2.2.2.2.2.1 != 0 then some false
 else
 optC (G_ref8_has (a2.1, 1, a2.2.1, a1.1, ())) none fun d7 ↦
 bif d7 then
 optC (G_ref8_has (a2.1, 2, a2.2.2.1, a1.1, ())) none fun d8 ↦
 bif d8 then
 optC (G_ref8_has (a2.1, 3, a2.2.2.2.1, 0, ())) none fun d9 ↦
 bif d9 then optC (G_ref8_has (a2.1, 4, a2.2.2.2.2.1, 0, ())) none fun d10 ↦ some d10 else some false
 else some false
 else some false
 else
 bif a2.2.2.2.2.2.2.1 != 0 then some false
 else
 optC (G_ref8_has (a2.1, 1, a2.2.1, a1.1, ())) none fun d7 ↦
 bif d7 then
 optC (G_ref8_has (a2.1, 2, a2.2.2.1, a1.1, ())) none fun d8 ↦
 bif d8 then
 optC (G_ref8_has (a2.1, 3, a2.2.2.2.1, 0, ())) none fun d9 ↦
 bif d9 then optC (G_ref8_has (a2.1, 4, a2.2.2.2.2.1, 0, ())) none fun d10 ↦ some d10 else some false
 else some false
 else some false
 else
 optC (G_ref1_Fits (a2.2.2.2.2.2.1, ())) none fun d4 ↦
 bif !d4 then some false
 else
 optC (G_ref8_in (a2.2.2.2.2.2.2.2.1, (↑(List.length a1.2) : Int), ())) none fun d5 ↦
 bif !d5 then some false
 else
 optC (G_ref8_in (a2.2.2.2.2.2.2.2.2, (↑(List.length a1.2) : Int), ())) none fun d6 ↦
 bif !d6 then some false
 else
 bif a2.1 != 11 then
 bif a2.2.2.2.2.2.2.2.2 != 0 then some false
 else
 bif a2.2.2.2.2.2.2.1 != 0 then some false
 else
 optC (G_ref8_has (a2.1, 1, a2.2.1, a1.1, ())) none fun d7 ↦
 bif d7 then
 optC (G_ref8_has (a2.1, 2, a2.2.2.1, a1.1, ())) none fun d8 ↦
 bif d8 then
 optC (G_ref8_has (a2.1, 3, a2.2.2.2.1, 0, ())) none fun d9 ↦
 bif d9 then optC (G_ref8_has (a2.1, 4, a2.2.2.2.2.1, 0, ())) none fun d10 ↦ some d10 else some false
 else some false
 else some false
 else
 bif a2.2.2.2.2.2.2.1 != 0 then some false
 else
 optC (G_ref8_has (a2.1, 1, a2.2.1, a1.1, ())) none fun d7 ↦
 bif d7 then
 optC (G_ref8_has (a2.1, 2, a2.2.2.1, a1.1, ())) none fun d8 ↦
 bif d8 then
 optC (G_ref8_has (a2.1, 3, a2.2.2.2.1, 0, ())) none fun d9 ↦
 bif d9 then optC (G_ref8_has (a2.1, 4, a2.2.2.2.2.1, 0, ())) none fun d10 ↦ some d10 else some false
 else some false
 else some false
 else
 bif a2.1 == 4 then
 bif a2.1 != 1 then
 bif a2.2.2.2.2.2.1 != 0 then some false
 else
 optC (G_ref1_Fits (a2.2.2.2.2.2.1, ())) none fun d4 ↦
 bif !d4 then some false
 else
 optC (G_ref8_in (a2.2.2.2.2.2.2.2.1, (↑(List.length a1.2) : Int), ())) none fun d5 ↦
 bif !d5 then some false
 else
 optC (G_ref8_in (a2.2.2.2.2.2.2.2.2, (↑(List.length a1.2) : Int), ())) none fun d6 ↦
 bif !d6 then some false
 else
 bif a2.1 != 11 then
 bif a2.2.2.2.2.2.2.2.2 != 0 then some false
 else
 bif decide (a2.2.2.2.2.2.2.1 < 1) then some false
 else
 bif decide (a2.2.2.2.2.2.2.1 ≥ 6) then some false
 else
 optC (G_ref8_has (a2.1, 1, a2.2.1, a1.1, ())) none fun d7 ↦
 bif d7 then
 optC (G_ref8_has (a2.1, 2, a2.2.2.1, a1.1, ())) none fun d8 ↦
 bif d8 then
 optC (G_ref8_has (a2.1, 3, a2.2.2.2.1, a1.1, ())) none fun d9 ↦
 bif d9 then optC (G_ref8_has (a2.1, 4, a2.2.2.2.2.1, 0, ())) none fun d10 ↦ some d10 else some false
 else some false
 else some false
 else
 bif decide (a2.2.2.2.2.2.2.1 < 1) then some false
 else
 bif decide (a2.2.2.2.2.2.2.1 ≥ 6) then some false
 else
 optC (G_ref8_has (a2.1, 1, a2.2.1, a1.1, ())) none fun d7 ↦
 bif d7 then
 optC (G_ref8_has (a2.1, 2, a2.2.2.1, a1.1, ())) none fun d8 ↦
 bif d8 then
 optC (G_ref8_has (a2.1, 3, a2.2.2.2.1, a1.1, ())) none fun d9 ↦
 bif d9 then optC (G_ref8_has (a2.1, 4, a2.2.2.2.2.1, 0, ())) none fun d10 ↦ some d10 else some false
 else some false
 else some false
 else
 optC (G_ref1_Fits (a2.2.2.2.2.2.1, ())) none fun d4 ↦
 bif !d4 then some false
 else
 optC (G_ref8_in (a2.2.2.2.2.2.2.2.1, (↑(List.length a1.2) : Int), ())) none fun d5 ↦
 bif !d5 then some false
 else
 optC (G_ref8_in (a2.2.2.2.2.2.2.2.2, (↑(List.length a1.2) : Int), ())) none fun d6 ↦
 bif !d6 then some false
 else
 bif a2.1 != 11 then
 bif a2.2.2.2.2.2.2.2.2 != 0 then some false
 else
 bif decide (a2.2.2.2.2.2.2.1 < 1) then some false
 else
 bif decide (a2.2.2.2.2.2.2.1 ≥ 6) then some false
 else
 optC (G_ref8_has (a2.1, 1, a2.2.1, a1.1, ())) none fun d7 ↦
 bif d7 then
 optC (G_ref8_has (a2.1, 2, a2.2.2.1, a1.1, ())) none fun d8 ↦
 bif d8 then
 optC (G_ref8_has (a2.1, 3, a2.2.2.2.1, a1.1, ())) none fun d9 ↦
 bif d9 then optC (G_ref8_has (a2.1, 4, a2.2.2.2.2.1, 0, ())) none fun d10 ↦ some d10 else some false
 else some false
 else some false
 else
 bif decide (a2.2.2.2.2.2.2.1 < 1) then some false
 else
 bif decide (a2.2.2.2.2.2.2.1 ≥ 6) then some false
 else
 optC (G_ref8_has (a2.1, 1, a2.2.1, a1.1, ())) none fun d7 ↦
 bif d7 then
 optC (G_ref8_has (a2.1, 2, a2.2.2.1, a1.1, ())) none fun d8 ↦
 bif d8 then
 optC (G_ref8_has (a2.1, 3, a2.2.2.2.1, a1.1, ())) none fun d9 ↦
 bif d9 then optC (G_ref8_has (a2.1, 4, a2.2.2.2.2.1, 0, ())) none fun d10 ↦ some d10 else some false
 else some false
 else some false
 else
 bif a2.1 == 5 then
 bif a2.1 != 1 then
 bif a2.2.2.2.2.2.1 != 0 then some false
 else
 optC (G_ref1_Fits (a2.2.2.2.2.2.1, ())) none fun d4 ↦
 bif !d4 then some false
 else
 optC (G_ref8_in (a2.2.2.2.2.2.2.2.1, (↑(List.length a1.2) : Int), ())) none fun d5 ↦
 bif !d5 then some false
 else
 optC (G_ref8_in (a2.2.2.2.2.2.2.2.2, (↑(List.length a1.2) : Int), ())) none fun d6 ↦
 bif !d6 then some false
 else
 bif a2.1 != 11 then
 bif a2.2.2.2.2.2.2.2.2 != 0 then some false
 else
 bif a2.2.2.2.2.2.2.1 != 0 then some false
 else
 optC (G_ref8_has (a2.1, 1, a2.2.1, a1.1, ())) none fun d7 ↦
 bif d7 then
 optC (G_ref8_has (a2.1, 2, a2.2.2.1, 0, ())) none fun d8 ↦
 bif d8 then
 optC (G_ref8_has (a2.1, 3, a2.2.2.2.1, 0, ())) none fun d9 ↦
 bif d9 then optC (G_ref8_has (a2.1, 4, a2.2.2.2.2.1, (↑(List.length a0.1) : Int), ())) none fun d10 ↦ some d10
 else some false
 else some false
 else some false
 else
 bif a2.2.2.2.2.2.2.1 != 0 then some false
 else
 optC (G_ref8_has (a2.1, 1, a2.2.1, a1.1, ())) none fun d7 ↦
 bif d7 then
 optC (G_ref8_has (a2.1, 2, a2.2.2.1, 0, ())) none fun d8 ↦
 bif d8 then
 optC (G_ref8_has (a2.1, 3, a2.2.2.2.1, 0, ())) none fun d9 ↦
 bif d9 then optC (G_ref8_has (a2.1, 4, a2.2.2.2.2.1, (↑(List.length a0.1) : Int), ())) none fun d10 ↦ some d10
 else some false
 else some false
 else some false
 else
 optC (G_ref1_Fits (a2.2.2.2.2.2.1, ())) none fun d4 ↦
 bif !d4 then some false
 else
 optC (G_ref8_in (a2.2.2.2.2.2.2.2.1, (↑(List.length a1.2) : Int), ())) none fun d5 ↦
 bif !d5 then some false
 else
 optC (G_ref8_in (a2.2.2.2.2.2.2.2.2, (↑(List.length a1.2) : Int), ())) none fun d6 ↦
 bif !d6 then some false
 else
 bif a2.1 != 11 then
 bif a2.2.2.2.2.2.2.2.2 != 0 then some false
 else
 bif a2.2.2.2.2.2.2.1 != 0 then some false
 else
 optC (G_ref8_has (a2.1, 1, a2.2.1, a1.1, ())) none fun d7 ↦
 bif d7 then
 optC (G_ref8_has (a2.1, 2, a2.2.2.1, 0, ())) none fun d8 ↦
 bif d8 then
 optC (G_ref8_has (a2.1, 3, a2.2.2.2.1, 0, ())) none fun d9 ↦
 bif d9 then optC (G_ref8_has (a2.1, 4, a2.2.2.2.2.1, (↑(List.length a0.1) : Int), ())) none fun d10 ↦ some d10
 else some false
 else some false
 else some false
 else
 bif a2.2.2.2.2.2.2.1 != 0 then some false
 else
 optC (G_ref8_has (a2.1, 1, a2.2.1, a1.1, ())) none fun d7 ↦
 bif d7 then
 optC (G_ref8_has (a2.1, 2, a2.2.2.1, 0, ())) none fun d8 ↦
 bif d8 then
 optC (G_ref8_has (a2.1, 3, a2.2.2.2.1, 0, ())) none fun d9 ↦
 bif d9 then optC (G_ref8_has (a2.1, 4, a2.2.2.2.2.1, (↑(List.length a0.1) : Int), ())) none fun d10 ↦ some d10
 else some false
 else some false
 else some false
 else
 bif a2.1 == 6 then
 bif a2.1 != 1 then
 bif a2.2.2.2.2.2.1 != 0 then some false
 else
 optC (G_ref1_Fits (a2.2.2.2.2.2.1, ())) none fun d4 ↦
 bif !d4 then some false
 else
 optC (G_ref8_in (a2.2.2.2.2.2.2.2.1, (↑(List.length a1.2) : Int), ())) none fun d5 ↦
 bif !d5 then some false
 else
 optC (G_ref8_in (a2.2.2.2.2.2.2.2.2, (↑(List.length a1.2) : Int), ())) none fun d6 ↦
 bif !d6 then some false
 else
 bif a2.1 != 11 then
 bif a2.2.2.2.2.2.2.2.2 != 0 then some false
 else
 bif a2.2.2.2.2.2.2.1 != 0 then some false
 else
 optC (G_ref8_has (a2.1, 1, a2.2.1, 0, ())) none fun d7 ↦
 bif d7 then
 optC (G_ref8_has (a2.1, 2, a2.2.2.1, a1.1, ())) none fun d8 ↦
 bif d8 then
 optC (G_ref8_has (a2.1, 3, a2.2.2.2.1, 0, ())) none fun d9 ↦
 bif d9 then optC (G_ref8_has (a2.1, 4, a2.2.2.2.2.1, (↑(List.length a0.1) : Int), ())) none fun d10 ↦ some d10
 else some false
 else some false
 else some false
 else
 bif a2.2.2.2.2.2.2.1 != 0 then some false
 else
 optC (G_ref8_has (a2.1, 1, a2.2.1, 0, ())) none fun d7 ↦
 bif d7 then
 optC (G_ref8_has (a2.1, 2, a2.2.2.1, a1.1, ())) none fun d8 ↦
 bif d8 then
 optC (G_ref8_has (a2.1, 3, a2.2.2.2.1, 0, ())) none fun d9 ↦
 bif d9 then optC (G_ref8_has (a2.1, 4, a2.2.2.2.2.1, (↑(List.length a0.1) : Int), ())) none fun d10 ↦ some d10
 else some false
 else some false
 else some false
 else
 optC (G_ref1_Fits (a2.2.2.2.2.2.1, ())) none fun d4 ↦
 bif !d4 then some false
 else
 optC (G_ref8_in (a2.2.2.2.2.2.2.2.1, (↑(List.length a1.2) : Int), ())) none fun d5 ↦
 bif !d5 then some false
 else
 optC (G_ref8_in (a2.2.2.2.2.2.2.2.2, (↑(List.length a1.2) : Int), ())) none fun d6 ↦
 bif !d6 then some false
 else
 bif a2.1 != 11 then
 bif a2.2.2.2.2.2.2.2.2 != 0 then some false
 else
 bif a2.2.2.2.2.2.2.1 != 0 then some false
 else
 optC (G_ref8_has (a2.1, 1, a2.2.1, 0, ())) none fun d7 ↦
 bif d7 then
 optC (G_ref8_has (a2.1, 2, a2.2.2.1, a1.1, ())) none fun d8 ↦
 bif d8 then
 optC (G_ref8_has (a2.1, 3, a2.2.2.2.1, 0, ())) none fun d9 ↦
 bif d9 then optC (G_ref8_has (a2.1, 4, a2.2.2.2.2.1, (↑(List.length a0.1) : Int), ())) none fun d10 ↦ some d10
 else some false
 else some false
 else some false
 else
 bif a2.2.2.2.2.2.2.1 != 0 then some false
 else
 optC (G_ref8_has (a2.1, 1, a2.2.1, 0, ())) none fun d7 ↦
 bif d7 then
 optC (G_ref8_has (a2.1, 2, a2.2.2.1, a1.1, ())) none fun d8 ↦
 bif d8 then
 optC (G_ref8_has (a2.1, 3, a2.2.2.2.1, 0, ())) none fun d9 ↦
 bif d9 then optC (G_ref8_has (a2.1, 4, a2.2.2.2.2.1, (↑(List.length a0.1) : Int), ())) none fun d10 ↦ some d10
 else some false
 else some false
 else some false
 else
 bif a2.1 == 7 then
 bif a2.1 != 1 then
 bif a2.2.2.2.2.2.1 != 0 then some false
 else
 optC (G_ref1_Fits (a2.2.2.2.2.2.1, ())) none fun d4 ↦
 bif !d4 then some false
 else
 optC (G_ref8_in (a2.2.2.2.2.2.2.2.1, (↑(List.length a1.2) : Int), ())) none fun d5 ↦
 bif !d5 then some false
 else
 optC (G_ref8_in (a2.2.2.2.2.2.2.2.2, (↑(List.length a1.2) : Int), ())) none fun d6 ↦
 bif !d6 then some false
 else
 bif a2.1 != 11 then
 bif a2.2.2.2.2.2.2.2.2 != 0 then some false
 else
 bif a2.2.2.2.2.2.2.1 != 0 then some false
 else
 optC (G_ref8_has (a2.1, 1, a2.2.1, a1.1, ())) none fun d7 ↦
 bif d7 then
 optC (G_ref8_has (a2.1, 2, a2.2.2.1, a1.1, ())) none fun d8 ↦
 bif d8 then
 optC (G_ref8_has (a2.1, 3, a2.2.2.2.1, 0, ())) none fun d9 ↦
 bif d9 then optC (G_ref8_has (a2.1, 4, a2.2.2.2.2.1, (↑(List.length a0.2.1) : Int), ())) none fun d10 ↦ some d10
 else some false
 else some false
 else some false
 else
 bif a2.2.2.2.2.2.2.1 != 0 then some false
 else
 optC (G_ref8_has (a2.1, 1, a2.2.1, a1.1, ())) none fun d7 ↦
 bif d7 then
 optC (G_ref8_has (a2.1, 2, a2.2.2.1, a1.1, ())) none fun d8 ↦
 bif d8 then
 optC (G_ref8_has (a2.1, 3, a2.2.2.2.1, 0, ())) none fun d9 ↦
 bif d9 then optC (G_ref8_has (a2.1, 4, a2.2.2.2.2.1, (↑(List.length a0.2.1) : Int), ())) none fun d10 ↦ some d10
 else some false
 else some false
 else some false
 else
 optC (G_ref1_Fits (a2.2.2.2.2.2.1, ())) none fun d4 ↦
 bif !d4 then some false
 else
 optC (G_ref8_in (a2.2.2.2.2.2.2.2.1, (↑(List.length a1.2) : Int), ())) none fun d5 ↦
 bif !d5 then some false
 else
 optC (G_ref8_in (a2.2.2.2.2.2.2.2.2, (↑(List.length a1.2) : Int), ())) none fun d6 ↦
 bif !d6 then some false
 else
 bif a2.1 != 11 then
 bif a2.2.2.2.2.2.2.2.2 != 0 then some false
 else
 bif a2.2.2.2.2.2.2.1 != 0 then some false
 else
 optC (G_ref8_has (a2.1, 1, a2.2.1, a1.1, ())) none fun d7 ↦
 bif d7 then
 optC (G_ref8_has (a2.1, 2, a2.2.2.1, a1.1, ())) none fun d8 ↦
 bif d8 then
 optC (G_ref8_has (a2.1, 3, a2.2.2.2.1, 0, ())) none fun d9 ↦
 bif d9 then optC (G_ref8_has (a2.1, 4, a2.2.2.2.2.1, (↑(List.length a0.2.1) : Int), ())) none fun d10 ↦ some d10
 else some false
 else some false
 else some false
 else
 bif a2.2.2.2.2.2.2.1 != 0 then some false
 else
 optC (G_ref8_has (a2.1, 1, a2.2.1, a1.1, ())) none fun d7 ↦
 bif d7 then
 optC (G_ref8_has (a2.1, 2, a2.2.2.1, a1.1, ())) none fun d8 ↦
 bif d8 then
 optC (G_ref8_has (a2.1, 3, a2.2.2.2.1, 0, ())) none fun d9 ↦
 bif d9 then optC (G_ref8_has (a2.1, 4, a2.2.2.2.2.1, (↑(List.length a0.2.1) : Int), ())) none fun d10 ↦ some d10
 else some false
 else some false
 else some false
 else
 bif a2.1 == 8 then
 bif a2.1 != 1 then
 bif a2.2.2.2.2.2.1 != 0 then some false
 else
 optC (G_ref1_Fits (a2.2.2.2.2.2.1, ())) none fun d4 ↦
 bif !d4 then some false
 else
 optC (G_ref8_in (a2.2.2.2.2.2.2.2.1, (↑(List.length a1.2) : Int), ())) none fun d5 ↦
 bif !d5 then some false
 else
 optC (G_ref8_in (a2.2.2.2.2.2.2.2.2, (↑(List.length a1.2) : Int), ())) none fun d6 ↦
 bif !d6 then some false
 else
 bif a2.1 != 11 then
 bif a2.2.2.2.2.2.2.2.2 != 0 then some false
 else
 bif a2.2.2.2.2.2.2.1 != 0 then some false
 else
 optC (G_ref8_has (a2.1, 1, a2.2.1, 0, ())) none fun d7 ↦
 bif d7 then
 optC (G_ref8_has (a2.1, 2, a2.2.2.1, a1.1, ())) none fun d8 ↦
 bif d8 then
 optC (G_ref8_has (a2.1, 3, a2.2.2.2.1, a1.1, ())) none fun d9 ↦
 bif d9 then
 optC (G_ref8_has (a2.1, 4, a2.2.2.2.2.1, (↑(List.length a0.2.1) : Int), ())) none fun d10 ↦ some d10
 else some false
 else some false
 else some false
 else
 bif a2.2.2.2.2.2.2.1 != 0 then some false
 else
 optC (G_ref8_has (a2.1, 1, a2.2.1, 0, ())) none fun d7 ↦
 bif d7 then
 optC (G_ref8_has (a2.1, 2, a2.2.2.1, a1.1, ())) none fun d8 ↦
 bif d8 then
 optC (G_ref8_has (a2.1, 3, a2.2.2.2.1, a1.1, ())) none fun d9 ↦
 bif d9 then optC (G_ref8_has (a2.1, 4, a2.2.2.2.2.1, (↑(List.length a0.2.1) : Int), ())) none fun d10 ↦ some d10
 else some false
 else some false
 else some false
 else
 optC (G_ref1_Fits (a2.2.2.2.2.2.1, ())) none fun d4 ↦
 bif !d4 then some false
 else
 optC (G_ref8_in (a2.2.2.2.2.2.2.2.1, (↑(List.length a1.2) : Int), ())) none fun d5 ↦
 bif !d5 then some false
 else
 optC (G_ref8_in (a2.2.2.2.2.2.2.2.2, (↑(List.length a1.2) : Int), ())) none fun d6 ↦
 bif !d6 then some false
 else
 bif a2.1 != 11 then
 bif a2.2.2.2.2.2.2.2.2 != 0 then some false
 else
 bif a2.2.2.2.2.2.2.1 != 0 then some false
 else
 optC (G_ref8_has (a2.1, 1, a2.2.1, 0, ())) none fun d7 ↦
 bif d7 then
 optC (G_ref8_has (a2.1, 2, a2.2.2.1, a1.1, ())) none fun d8 ↦
 bif d8 then
 optC (G_ref8_has (a2.1, 3, a2.2.2.2.1, a1.1, ())) none fun d9 ↦
 bif d9 then optC (G_ref8_has (a2.1, 4, a2.2.2.2.2.1, (↑(List.length a0.2.1) : Int), ())) none fun d10 ↦ some d10
 else some false
 else some false
 else some false
 else
 bif a2.2.2.2.2.2.2.1 != 0 then some false
 else
 optC (G_ref8_has (a2.1, 1, a2.2.1, 0, ())) none fun d7 ↦
 bif d7 then
 optC (G_ref8_has (a2.1, 2, a2.2.2.1, a1.1, ())) none fun d8 ↦
 bif d8 then
 optC (G_ref8_has (a2.1, 3, a2.2.2.2.1, a1.1, ())) none fun d9 ↦
 bif d9 then optC (G_ref8_has (a2.1, 4, a2.2.2.2.2.1, (↑(List.length a0.2.1) : Int), ())) none fun d10 ↦ some d10
 else some false
 else some false
 else some false
 else
 bif a2.1 == 9 then
 bif a2.1 != 1 then
 bif a2.2.2.2.2.2.1 != 0 then some false
 else
 optC (G_ref1_Fits (a2.2.2.2.2.2.1, ())) none fun d4 ↦
 bif !d4 then some false
 else
 optC (G_ref8_in (a2.2.2.2.2.2.2.2.1, (↑(List.length a1.2) : Int), ())) none fun d5 ↦
 bif !d5 then some false
 else
 optC (G_ref8_in (a2.2.2.2.2.2.2.2.2, (↑(List.length a1.2) : Int), ())) none fun d6 ↦
 bif !d6 then some false
 else
 bif a2.1 != 11 then
 bif a2.2.2.2.2.2.2.2.2 != 0 then some false
 else
 bif a2.2.2.2.2.2.2.1 != 0 then some false
 else
 optC (G_ref8_has (a2.1, 1, a2.2.1, 0, ())) none fun d7 ↦
 bif d7 then
 optC (G_ref8_has (a2.1, 2, a2.2.2.1, 0, ())) none fun d8 ↦
 bif d8 then
 optC (G_ref8_has (a2.1, 3, a2.2.2.2.1, 0, ())) none fun d9 ↦
 bif d9 then optC (G_ref8_has (a2.1, 4, a2.2.2.2.2.1, a0.2.2.1, ())) none fun d10 ↦ some d10
 else some false
 else some false
 else some false
 else
 bif a2.2.2.2.2.2.2.1 != 0 then some false
 else
 optC (G_ref8_has (a2.1, 1, a2.2.1, 0, ())) none fun d7 ↦
 bif d7 then
 optC (G_ref8_has (a2.1, 2, a2.2.2.1, 0, ())) none fun d8 ↦
 bif d8 then
 optC (G_ref8_has (a2.1, 3, a2.2.2.2.1, 0, ())) none fun d9 ↦
 bif d9 then optC (G_ref8_has (a2.1, 4, a2.2.2.2.2.1, a0.2.2.1, ())) none fun d10 ↦ some d10
 else some false
 else some false
 else some false
 else
 optC (G_ref1_Fits (a2.2.2.2.2.2.1, ())) none fun d4 ↦
 bif !d4 then some false
 else
 optC (G_ref8_in (a2.2.2.2.2.2.2.2.1, (↑(List.length a1.2) : Int), ())) none fun d5 ↦
 bif !d5 then some false
 else
 optC (G_ref8_in (a2.2.2.2.2.2.2.2.2, (↑(List.length a1.2) : Int), ())) none fun d6 ↦
 bif !d6 then some false
 else
 bif a2.1 != 11 then
 bif a2.2.2.2.2.2.2.2.2 != 0 then some false
 else
 bif a2.2.2.2.2.2.2.1 != 0 then some false
 else
 optC (G_ref8_has (a2.1, 1, a2.2.1, 0, ())) none fun d7 ↦
 bif d7 then
 optC (G_ref8_has (a2.1, 2, a2.2.2.1, 0, ())) none fun d8 ↦
 bif d8 then
 optC (G_ref8_has (a2.1, 3, a2.2.2.2.1, 0, ())) none fun d9 ↦
 bif d9 then optC (G_ref8_has (a2.1, 4, a2.2.2.2.2.1, a0.2.2.1, ())) none fun d10 ↦ some d10
 else some false
 else some false
 else some false
 else
 bif a2.2.2.2.2.2.2.1 != 0 then some false
 else
 optC (G_ref8_has (a2.1, 1, a2.2.1, 0, ())) none fun d7 ↦
 bif d7 then
 optC (G_ref8_has (a2.1, 2, a2.2.2.1, 0, ())) none fun d8 ↦
 bif d8 then
 optC (G_ref8_has (a2.1, 3, a2.2.2.2.1, 0, ())) none fun d9 ↦
 bif d9 then optC (G_ref8_has (a2.1, 4, a2.2.2.2.2.1, a0.2.2.1, ())) none fun d10 ↦ some d10
 else some false
 else some false
 else some false
 else
 bif a2.1 == 10 then
 bif a2.1 != 1 then
 bif a2.2.2.2.2.2.1 != 0 then some false
 else
 optC (G_ref1_Fits (a2.2.2.2.2.2.1, ())) none fun d4 ↦
 bif !d4 then some false
 else
 optC (G_ref8_in (a2.2.2.2.2.2.2.2.1, (↑(List.length a1.2) : Int), ())) none fun d5 ↦
 bif !d5 then some false
 else
 optC (G_ref8_in (a2.2.2.2.2.2.2.2.2, (↑(List.length a1.2) : Int), ())) none fun d6 ↦
 bif !d6 then some false
 else
 bif a2.1 != 11 then
 bif a2.2.2.2.2.2.2.2.2 != 0 then some false
 else
 bif a2.2.2.2.2.2.2.1 != 0 then some false
 else
 optC (G_ref8_has (a2.1, 1, a2.2.1, 0, ())) none fun d7 ↦
 bif d7 then
 optC (G_ref8_has (a2.1, 2, a2.2.2.1, 0, ())) none fun d8 ↦
 bif d8 then
 optC (G_ref8_has (a2.1, 3, a2.2.2.2.1, 0, ())) none fun d9 ↦
 bif d9 then optC (G_ref8_has (a2.1, 4, a2.2.2.2.2.1, a0.2.2.1, ())) none fun d10 ↦ some d10
 else some false
 else some false
 else some false
 else
 bif a2.2.2.2.2.2.2.1 != 0 then some false
 else
 optC (G_ref8_has (a2.1, 1, a2.2.1, 0, ())) none fun d7 ↦
 bif d7 then
 optC (G_ref8_has (a2.1, 2, a2.2.2.1, 0, ())) none fun d8 ↦
 bif d8 then
 optC (G_ref8_has (a2.1, 3, a2.2.2.2.1, 0, ())) none fun d9 ↦
 bif d9 then optC (G_ref8_has (a2.1, 4, a2.2.2.2.2.1, a0.2.2.1, ())) none fun d10 ↦ some d10
 else some false
 else some false
 else some false
 else
 optC (G_ref1_Fits (a2.2.2.2.2.2.1, ())) none fun d4 ↦
 bif !d4 then some false
 else
 optC (G_ref8_in (a2.2.2.2.2.2.2.2.1, (↑(List.length a1.2) : Int), ())) none fun d5 ↦
 bif !d5 then some false
 else
 optC (G_ref8_in (a2.2.2.2.2.2.2.2.2, (↑(List.length a1.2) : Int), ())) none fun d6 ↦
 bif !d6 then some false
 else
 bif a2.1 != 11 then
 bif a2.2.2.2.2.2.2.2.2 != 0 then some false
 else
 bif a2.2.2.2.2.2.2.1 != 0 then some false
 else
 optC (G_ref8_has (a2.1, 1, a2.2.1, 0, ())) none fun d7 ↦
 bif d7 then
 optC (G_ref8_has (a2.1, 2, a2.2.2.1, 0, ())) none fun d8 ↦
 bif d8 then
 optC (G_ref8_has (a2.1, 3, a2.2.2.2.1, 0, ())) none fun d9 ↦
 bif d9 then optC (G_ref8_has (a2.1, 4, a2.2.2.2.2.1, a0.2.2.1, ())) none fun d10 ↦ some d10
 else some false
 else some false
 else some false
 else
 bif a2.2.2.2.2.2.2.1 != 0 then some false
 else
 optC (G_ref8_has (a2.1, 1, a2.2.1, 0, ())) none fun d7 ↦
 bif d7 then
 optC (G_ref8_has (a2.1, 2, a2.2.2.1, 0, ())) none fun d8 ↦
 bif d8 then
 optC (G_ref8_has (a2.1, 3, a2.2.2.2.1, 0, ())) none fun d9 ↦
 bif d9 then optC (G_ref8_has (a2.1, 4, a2.2.2.2.2.1, a0.2.2.1, ())) none fun d10 ↦ some d10
 else some false
 else some false
 else some false
 else
 bif a2.1 == 11 then
 bif a2.1 != 1 then
 bif a2.2.2.2.2.2.1 != 0 then some false
 else
 optC (G_ref1_Fits (a2.2.2.2.2.2.1, ())) none fun d4 ↦
 bif !d4 then some false
 else
 optC (G_ref8_in (a2.2.2.2.2.2.2.2.1, (↑(List.length a1.2) : Int), ())) none fun d5 ↦
 bif !d5 then some false
 else
 optC (G_ref8_in (a2.2.2.2.2.2.2.2.2, (↑(List.length a1.2) : Int), ())) none fun d6 ↦
 bif !d6 then some false
 else
 bif a2.1 != 11 then
 bif a2.2.2.2.2.2.2.2.2 != 0 then some false
 else
 bif decide (a2.2.2.2.2.2.2.1 < 1) then some false
 else
 bif decide (a2.2.2.2.2.2.2.1 ≥ 7) then some false
 else
 optC (G_ref8_has (a2.1, 1, a2.2.1, 0, ())) none fun d7 ↦
 bif d7 then
 optC (G_ref8_has (a2.1, 2, a2.2.2.1, a1.1, ())) none fun d8 ↦
 bif d8 then
 optC (G_ref8_has (a2.1, 3, a2.2.2.2.1, a1.1, ())) none fun d9 ↦
 bif d9 then optC (G_ref8_has (a2.1, 4, a2.2.2.2.2.1, 0, ())) none fun d10 ↦ some d10
 else some false
 else some false
 else some false
 else
 bif decide (a2.2.2.2.2.2.2.1 < 1) then some false
 else
 bif decide (a2.2.2.2.2.2.2.1 ≥ 7) then some false
 else
 optC (G_ref8_has (a2.1, 1, a2.2.1, 0, ())) none fun d7 ↦
 bif d7 then
 optC (G_ref8_has (a2.1, 2, a2.2.2.1, a1.1, ())) none fun d8 ↦
 bif d8 then
 optC (G_ref8_has (a2.1, 3, a2.2.2.2.1, a1.1, ())) none fun d9 ↦
 bif d9 then optC (G_ref8_has (a2.1, 4, a2.2.2.2.2.1, 0, ())) none fun d10 ↦ some d10
 else some false
 else some false
 else some false
 else
 optC (G_ref1_Fits (a2.2.2.2.2.2.1, ())) none fun d4 ↦
 bif !d4 then some false
 else
 optC (G_ref8_in (a2.2.2.2.2.2.2.2.1, (↑(List.length a1.2) : Int), ())) none fun d5 ↦
 bif !d5 then some false
 else
 optC (G_ref8_in (a2.2.2.2.2.2.2.2.2, (↑(List.length a1.2) : Int), ())) none fun d6 ↦
 bif !d6 then some false
 else
 bif a2.1 != 11 then
 bif a2.2.2.2.2.2.2.2.2 != 0 then some false
 else
 bif decide (a2.2.2.2.2.2.2.1 < 1) then some false
 else
 bif decide (a2.2.2.2.2.2.2.1 ≥ 7) then some false
 else
 optC (G_ref8_has (a2.1, 1, a2.2.1, 0, ())) none fun d7 ↦
 bif d7 then
 optC (G_ref8_has (a2.1, 2, a2.2.2.1, a1.1, ())) none fun d8 ↦
 bif d8 then
 optC (G_ref8_has (a2.1, 3, a2.2.2.2.1, a1.1, ())) none fun d9 ↦
 bif d9 then optC (G_ref8_has (a2.1, 4, a2.2.2.2.2.1, 0, ())) none fun d10 ↦ some d10
 else some false
 else some false
 else some false
 else
 bif decide (a2.2.2.2.2.2.2.1 < 1) then some false
 else
 bif decide (a2.2.2.2.2.2.2.1 ≥ 7) then some false
 else
 optC (G_ref8_has (a2.1, 1, a2.2.1, 0, ())) none fun d7 ↦
 bif d7 then
 optC (G_ref8_has (a2.1, 2, a2.2.2.1, a1.1, ())) none fun d8 ↦
 bif d8 then
 optC (G_ref8_has (a2.1, 3, a2.2.2.2.1, a1.1, ())) none fun d9 ↦
 bif d9 then optC (G_ref8_has (a2.1, 4, a2.2.2.2.2.1, 0, ())) none fun d10 ↦ some d10
 else some false
 else some false
 else some false
 else
 bif a2.1 == 12 then
 bif a2.1 != 1 then
 bif a2.2.2.2.2.2.1 != 0 then some false
 else
 optC (G_ref1_Fits (a2.2.2.2.2.2.1, ())) none fun d4 ↦
 bif !d4 then some false
 else
 optC (G_ref8_in (a2.2.2.2.2.2.2.2.1, (↑(List.length a1.2) : Int), ())) none fun d5 ↦
 bif !d5 then some false
 else
 optC (G_ref8_in (a2.2.2.2.2.2.2.2.2, (↑(List.length a1.2) : Int), ())) none fun d6 ↦
 bif !d6 then some false
 else
 bif a2.1 != 11 then
 bif a2.2.2.2.2.2.2.2.2 != 0 then some false
 else
 bif a2.2.2.2.2.2.2.1 != 0 then some false
 else
 optC (G_ref8_has (a2.1, 1, a2.2.1, 0, ())) none fun d7 ↦
 bif d7 then
 optC (G_ref8_has (a2.1, 2, a2.2.2.1, 0, ())) none fun d8 ↦
 bif d8 then
 optC (G_ref8_has (a2.1, 3, a2.2.2.2.1, 0, ())) none fun d9 ↦
 bif d9 then optC (G_ref8_has (a2.1, 4, a2.2.2.2.2.1, 0, ())) none fun d10 ↦ some d10
 else some false
 else some false
 else some false
 else
 bif a2.2.2.2.2.2.2.1 != 0 then some false
 else
 optC (G_ref8_has (a2.1, 1, a2.2.1, 0, ())) none fun d7 ↦
 bif d7 then
 optC (G_ref8_has (a2.1, 2, a2.2.2.1, 0, ())) none fun d8 ↦
 bif d8 then
 optC (G_ref8_has (a2.1, 3, a2.2.2.2.1, 0, ())) none fun d9 ↦
 bif d9 then optC (G_ref8_has (a2.1, 4, a2.2.2.2.2.1, 0, ())) none fun d10 ↦ some d10
 else some false
 else some false
 else some false
 else
 optC (G_ref1_Fits (a2.2.2.2.2.2.1, ())) none fun d4 ↦
 bif !d4 then some false
 else
 optC (G_ref8_in (a2.2.2.2.2.2.2.2.1, (↑(List.length a1.2) : Int), ())) none fun d5 ↦
 bif !d5 then some false
 else
 optC (G_ref8_in (a2.2.2.2.2.2.2.2.2, (↑(List.length a1.2) : Int), ())) none fun d6 ↦
 bif !d6 then some false
 else
 bif a2.1 != 11 then
 bif a2.2.2.2.2.2.2.2.2 != 0 then some false
 else
 bif a2.2.2.2.2.2.2.1 != 0 then some false
 else
 optC (G_ref8_has (a2.1, 1, a2.2.1, 0, ())) none fun d7 ↦
 bif d7 then
 optC (G_ref8_has (a2.1, 2, a2.2.2.1, 0, ())) none fun d8 ↦
 bif d8 then
 optC (G_ref8_has (a2.1, 3, a2.2.2.2.1, 0, ())) none fun d9 ↦
 bif d9 then optC (G_ref8_has (a2.1, 4, a2.2.2.2.2.1, 0, ())) none fun d10 ↦ some d10
 else some false
 else some false
 else some false
 else
 bif a2.2.2.2.2.2.2.1 != 0 then some false
 else
 optC (G_ref8_has (a2.1, 1, a2.2.1, 0, ())) none fun d7 ↦
 bif d7 then
 optC (G_ref8_has (a2.1, 2, a2.2.2.1, 0, ())) none fun d8 ↦
 bif d8 then
 optC (G_ref8_has (a2.1, 3, a2.2.2.2.1, 0, ())) none fun d9 ↦
 bif d9 then optC (G_ref8_has (a2.1, 4, a2.2.2.2.2.1, 0, ())) none fun d10 ↦ some d10
 else some false
 else some false
 else some false
 else
 bif a2.1 == 13 then
 bif a2.1 != 1 then
 bif a2.2.2.2.2.2.1 != 0 then some false
 else
 optC (G_ref1_Fits (a2.2.2.2.2.2.1, ())) none fun d4 ↦
 bif !d4 then some false
 else
 optC (G_ref8_in (a2.2.2.2.2.2.2.2.1, (↑(List.length a1.2) : Int), ())) none fun d5 ↦
 bif !d5 then some false
 else
 optC (G_ref8_in (a2.2.2.2.2.2.2.2.2, (↑(List.length a1.2) : Int), ())) none fun d6 ↦
 bif !d6 then some false
 else
 bif a2.1 != 11 then
 bif a2.2.2.2.2.2.2.2.2 != 0 then some false
 else
 bif a2.2.2.2.2.2.2.1 != 0 then some false
 else
 optC (G_ref8_has (a2.1, 1, a2.2.1, 0, ())) none fun d7 ↦
 bif d7 then
 optC (G_ref8_has (a2.1, 2, a2.2.2.1, 0, ())) none fun d8 ↦
 bif d8 then
 optC (G_ref8_has (a2.1, 3, a2.2.2.2.1, 0, ())) none fun d9 ↦
 bif d9 then optC (G_ref8_has (a2.1, 4, a2.2.2.2.2.1, 0, ())) none fun d10 ↦ some d10
 else some false
 else some false
 else some false
 else
 bif a2.2.2.2.2.2.2.1 != 0 then some false
 else
 optC (G_ref8_has (a2.1, 1, a2.2.1, 0, ())) none fun d7 ↦
 bif d7 then
 optC (G_ref8_has (a2.1, 2, a2.2.2.1, 0, ())) none fun d8 ↦
 bif d8 then
 optC (G_ref8_has (a2.1, 3, a2.2.2.2.1, 0, ())) none fun d9 ↦
 bif d9 then optC (G_ref8_has (a2.1, 4, a2.2.2.2.2.1, 0, ())) none fun d10 ↦ some d10
 else some false
 else some false
 else some false
 else
 optC (G_ref1_Fits (a2.2.2.2.2.2.1, ())) none fun d4 ↦
 bif !d4 then some false
 else
 optC (G_ref8_in (a2.2.2.2.2.2.2.2.1, (↑(List.length a1.2) : Int), ())) none fun d5 ↦
 bif !d5 then some false
 else
 optC (G_ref8_in (a2.2.2.2.2.2.2.2.2, (↑(List.length a1.2) : Int), ())) none fun d6 ↦
 bif !d6 then some false
 else
 bif a2.1 != 11 then
 bif a2.2.2.2.2.2.2.2.2 != 0 then some false
 else
 bif a2.2.2.2.2.2.2.1 != 0 then some false
 else
 optC (G_ref8_has (a2.1, 1, a2.2.1, 0, ())) none fun d7 ↦
 bif d7 then
 optC (G_ref8_has (a2.1, 2, a2.2.2.1, 0, ())) none fun d8 ↦
 bif d8 then
 optC (G_ref8_has (a2.1, 3, a2.2.2.2.1, 0, ())) none fun d9 ↦
 bif d9 then optC (G_ref8_has (a2.1, 4, a2.2.2.2.2.1, 0, ())) none fun d10 ↦ some d10
 else some false
 else some false
 else some false
 else
 bif a2.2.2.2.2.2.2.1 != 0 then some false
 else
 optC (G_ref8_has (a2.1, 1, a2.2.1, 0, ())) none fun d7 ↦
 bif d7 then
 optC (G_ref8_has (a2.1, 2, a2.2.2.1, 0, ())) none fun d8 ↦
 bif d8 then
 optC (G_ref8_has (a2.1, 3, a2.2.2.2.1, 0, ())) none fun d9 ↦
 bif d9 then optC (G_ref8_has (a2.1, 4, a2.2.2.2.2.1, 0, ())) none fun d10 ↦ some d10
 else some false
 else some false
 else some false
 else
 bif a2.1 == 14 then
 bif a2.1 != 1 then
 bif a2.2.2.2.2.2.1 != 0 then some false
 else
 optC (G_ref1_Fits (a2.2.2.2.2.2.1, ())) none fun d4 ↦
 bif !d4 then some false
 else
 optC (G_ref8_in (a2.2.2.2.2.2.2.2.1, (↑(List.length a1.2) : Int), ())) none fun d5 ↦
 bif !d5 then some false
 else
 optC (G_ref8_in (a2.2.2.2.2.2.2.2.2, (↑(List.length a1.2) : Int), ())) none fun d6 ↦
 bif !d6 then some false
 else
 bif a2.1 != 11 then
 bif a2.2.2.2.2.2.2.2.2 != 0 then some false
 else
 bif a2.2.2.2.2.2.2.1 != 0 then some false
 else
 optC (G_ref8_has (a2.1, 1, a2.2.1, 0, ())) none fun d7 ↦
 bif d7 then
 optC (G_ref8_has (a2.1, 2, a2.2.2.1, 0, ())) none fun d8 ↦
 bif d8 then
 optC (G_ref8_has (a2.1, 3, a2.2.2.2.1, 0, ())) none fun d9 ↦
 bif d9 then optC (G_ref8_has (a2.1, 4, a2.2.2.2.2.1, 0, ())) none fun d10 ↦ some d10
 else some false
 else some false
 else some false
 else
 bif a2.2.2.2.2.2.2.1 != 0 then some false
 else
 optC (G_ref8_has (a2.1, 1, a2.2.1, 0, ())) none fun d7 ↦
 bif d7 then
 optC (G_ref8_has (a2.1, 2, a2.2.2.1, 0, ())) none fun d8 ↦
 bif d8 then
 optC (G_ref8_has (a2.1, 3, a2.2.2.2.1, 0, ())) none fun d9 ↦
 bif d9 then optC (G_ref8_has (a2.1, 4, a2.2.2.2.2.1, 0, ())) none fun d10 ↦ some d10
 else some false
 else some false
 else some false
 else
 optC (G_ref1_Fits (a2.2.2.2.2.2.1, ())) none fun d4 ↦
 bif !d4 then some false
 else
 optC (G_ref8_in (a2.2.2.2.2.2.2.2.1, (↑(List.length a1.2) : Int), ())) none fun d5 ↦
 bif !d5 then some false
 else
 optC (G_ref8_in (a2.2.2.2.2.2.2.2.2, (↑(List.length a1.2) : Int), ())) none fun d6 ↦
 bif !d6 then some false
 else
 bif a2.1 != 11 then
 bif a2.2.2.2.2.2.2.2.2 != 0 then some false
 else
 bif a2.2.2.2.2.2.2.1 != 0 then some false
 else
 optC (G_ref8_has (a2.1, 1, a2.2.1, 0, ())) none fun d7 ↦
 bif d7 then
 optC (G_ref8_has (a2.1, 2, a2.2.2.1, 0, ())) none fun d8 ↦
 bif d8 then
 optC (G_ref8_has (a2.1, 3, a2.2.2.2.1, 0, ())) none fun d9 ↦
 bif d9 then optC (G_ref8_has (a2.1, 4, a2.2.2.2.2.1, 0, ())) none fun d10 ↦ some d10
 else some false
 else some false
 else some false
 else
 bif a2.2.2.2.2.2.2.1 != 0 then some false
 else
 optC (G_ref8_has (a2.1, 1, a2.2.1, 0, ())) none fun d7 ↦
 bif d7 then
 optC (G_ref8_has (a2.1, 2, a2.2.2.1, 0, ())) none fun d8 ↦
 bif d8 then
 optC (G_ref8_has (a2.1, 3, a2.2.2.2.1, 0, ())) none fun d9 ↦
 bif d9 then optC (G_ref8_has (a2.1, 4, a2.2.2.2.2.1, 0, ())) none fun d10 ↦ some d10
 else some false
 else some false
 else some false
 else some false
noncomputable def G_ref8_act (x : (U × (C × (A × Unit)))) : Option Bool := g_ref8_act x.1 x.2.1 x.2.2.1
end Go.Proofs.Ytbdcblpjemmipaa.Ex

namespace Go.Proofs.Ytbdcblpjemmipaa.Ex
open Go.Proofs Go.Proofs.Ytbdcblpjemmipaa
set_option maxRecDepth 100000
set_option maxHeartbeats 2000000
set_option linter.unusedVariables false
set_option linter.unusedSimpArgs false
abbrev ty_73_6 : Type := (Int × Int × Int × (List Int) × (List Int) × Int × (List C) × Int × (List A))
noncomputable def st_ref8_Is_82_0_0 (s3 : Int) (b0 : (List Int)) (b0_1 : (List Int)) (b0_2 : Int) (b0_3 : (List C)) : Option ((Int × (List Int) × (List Int) × Int × (List C)) ⊕ (((List Int) × (List Int) × Int × (List C)) ⊕ (Bool × (List Int) × (List Int) × Int × (List C)))) :=
  bif decide (s3 < (↑b0.length : Int)) then
 bif decide (0 ≤ s3) then
 optC b0[s3.toNat]? none fun d10 ↦
 optC (G_ref1_Fits (d10, ())) none fun d11 ↦
 bif !d11 then some (Sum.inr (Sum.inr (false, b0, b0_1, b0_2, b0_3))) else some (Sum.inl (Go.IntKind.i64.wrap (s3 + 1), b0, b0_1, b0_2, b0_3))
 else none
 else some (Sum.inr (Sum.inl (b0, b0_1, b0_2, b0_3)))
noncomputable def L_ref8_Is_82_0_0 (x : (Int × (List Int) × (List Int) × Int × (List C))) : Option (((List Int) × (List Int) × Int × (List C)) ⊕ (Bool × (List Int) × (List Int) × Int × (List C))) := iterO (fun x => st_ref8_Is_82_0_0 x.1 x.2.1 x.2.2.1 x.2.2.2.1 x.2.2.2.2) FUEL x
noncomputable def st_ref8_Is_82_2_0 (s4 : Int) (b0 : (List Int)) (b0_1 : (List Int)) (b0_2 : Int) (b0_3 : (List C)) : Option ((Int × (List Int) × (List Int) × Int × (List C)) ⊕ (((List Int) × (List Int) × Int × (List C)) ⊕ (Bool × (List Int) × (List Int) × Int × (List C)))) :=
  bif decide (s4 < (↑b0_1.length : Int)) then
 bif decide (0 ≤ s4) then
 optC b0_1[s4.toNat]? none fun d10 ↦
 bif decide (d10 < 1) then some (Sum.inr (Sum.inr (false, b0, b0_1, b0_2, b0_3)))
 else
 bif decide (0 ≤ s4) then
 optC b0_1[s4.toNat]? none fun d11 ↦
 bif decide (d11 > 16) then some (Sum.inr (Sum.inr (false, b0, b0_1, b0_2, b0_3))) else some (Sum.inl (Go.IntKind.i64.wrap (s4 + 1), b0, b0_1, b0_2, b0_3))
 else none
 else none
 else some (Sum.inr (Sum.inl (b0, b0_1, b0_2, b0_3)))
noncomputable def L_ref8_Is_82_2_0 (x : (Int × (List Int) × (List Int) × Int × (List C))) : Option (((List Int) × (List Int) × Int × (List C)) ⊕ (Bool × (List Int) × (List Int) × Int × (List C))) := iterO (fun x => st_ref8_Is_82_2_0 x.1 x.2.1 x.2.2.1 x.2.2.2.1 x.2.2.2.2) FUEL x
noncomputable def st_ref8_Is_82_6_0 (s5 : Int) (s7 : Int) (s8 : Int) (b0 : (List Int)) (b0_1 : (List Int)) (b0_2 : Int) (b0_3 : (List C)) (b1 : Int) (b1_1 : (List A)) : Option (ty_73_6 ⊕ ((Int × (List Int) × (List Int) × Int × (List C)) ⊕ (Bool × Int × (List Int) × (List Int) × Int × (List C)))) :=
  bif decide (s8 < s7) then
 bif decide (0 ≤ s8) then
 optC b1_1[s8.toNat]? none fun d14 ↦
 optC (G_ref8_act ((b0, b0_1, b0_2, b0_3), (b1, b1_1), d14, ())) none fun d15 ↦
 bif !d15 then some (Sum.inr (Sum.inr (false, s5, b0, b0_1, b0_2, b0_3))) else some (Sum.inl (s5, s7, Go.IntKind.i64.wrap (s8 + 1), b0, b0_1, b0_2, b0_3, b1, b1_1))
 else none
 else some (Sum.inr (Sum.inl (s5, b0, b0_1, b0_2, b0_3)))
noncomputable def L_ref8_Is_82_6_0 (x : ty_73_6) : Option ((Int × (List Int) × (List Int) × Int × (List C)) ⊕ (Bool × Int × (List Int) × (List Int) × Int × (List C))) := iterO (fun x => st_ref8_Is_82_6_0 x.1 x.2.1 x.2.2.1 x.2.2.2.1 x.2.2.2.2.1 x.2.2.2.2.2.1 x.2.2.2.2.2.2.1 x.2.2.2.2.2.2.2.1 x.2.2.2.2.2.2.2.2) FUEL x
noncomputable def st_ref8_Is_82_4_0 (s5 : Int) (b0 : (List Int)) (b0_1 : (List Int)) (b0_2 : Int) (b0_3 : (List C)) : Option ((Int × (List Int) × (List Int) × Int × (List C)) ⊕ (Unit ⊕ Bool)) :=
  bif decide (s5 < (↑b0_3.length : Int)) then
 bif decide (0 ≤ s5) then
 optC b0_3[s5.toNat]? none fun d10 ↦
 optC (G_ref8_in (d10.1, 41, ())) none fun d11 ↦
 bif !d11 then some (Sum.inr (Sum.inr false))
 else
 bif decide ((↑(List.length d10.2) : Int) < 1) then some (Sum.inr (Sum.inr false))
 else
 bif decide ((↑(List.length d10.2) : Int) > 60) then some (Sum.inr (Sum.inr false))
 else
 bif decide (0 ≤ Go.IntKind.i64.wrap ((↑(List.length d10.2) : Int) - 1)) then
 optC d10.2[(Go.IntKind.i64.wrap ((↑(List.length d10.2) : Int) - 1)).toNat]? none fun d12 ↦
 bif d12.1 != 14 then some (Sum.inr (Sum.inr false))
 else
 optC (L_ref8_Is_82_6_0 (s5, (↑(List.length d10.2) : Int), 0, b0, b0_1, b0_2, b0_3, d10)) none fun d13 ↦
 Sum.elim (fun e14 ↦ some (Sum.inl (Go.IntKind.i64.wrap (e14.1 + 1), e14.2.1, e14.2.2.1, e14.2.2.2.1, e14.2.2.2.2)))
 (fun e14 ↦ some (Sum.inr (Sum.inr e14.1))) d13
 else none
 else none
 else some (Sum.inr (Sum.inl PUnit.unit))
noncomputable def L_ref8_Is_82_4_0 (x : (Int × (List Int) × (List Int) × Int × (List C))) : Option (Unit ⊕ Bool) := iterO (fun x => st_ref8_Is_82_4_0 x.1 x.2.1 x.2.2.1 x.2.2.2.1 x.2.2.2.2) FUEL x
end Go.Proofs.Ytbdcblpjemmipaa.Ex

namespace Go.Proofs.Ytbdcblpjemmipaa.Ex
set_option maxRecDepth 100000
set_option maxHeartbeats 2000000
set_option linter.unusedVariables false
set_option linter.unusedSimpArgs false
noncomputable def bd_ref8_Is_82_0_0 (b0_1 : (List Int)) (b0_2 : Int) (b0_3 : (List C)) (b0 : (List Int)) (i : Nat)  (d : Int) : Option (Unit ⊕ (((List Int) × (List Int) × Int × (List C)) ⊕ (Bool × (List Int) × (List Int) × Int × (List C)))) :=
  optC (G_ref1_Fits (d, ())) (none) fun d11 ↦
   bif !d11 then
   some (Sum.inr (Sum.inr (false, b0, b0_1, b0_2, b0_3)))
 else some (Sum.inl ())
noncomputable def fn_ref8_Is_82_0_0 (b0_1 : (List Int)) (b0_2 : Int) (b0_3 : (List C)) (b0 : (List Int))  : Option (((List Int) × (List Int) × Int × (List C)) ⊕ (Bool × (List Int) × (List Int) × Int × (List C))) :=
  some (Sum.inl (b0, b0_1, b0_2, b0_3))
noncomputable abbrev rx_ref8_Is_82_0_0 (b0_1 : (List Int)) (b0_2 : Int) (b0_3 : (List C)) (b0 : (List Int)) (i : Nat) (s : Unit) : (Int × (List Int) × (List Int) × Int × (List C)) := ((i : Int), b0, b0_1, b0_2, b0_3)
noncomputable def rv_ref8_Is_82_0_0 (b0_1 : (List Int)) (b0_2 : Int) (b0_3 : (List C)) (b0 : (List Int)) (s : Unit) : Option (((List Int) × (List Int) × Int × (List C)) ⊕ (Bool × (List Int) × (List Int) × Int × (List C))) := rangeO (fun i s d => bd_ref8_Is_82_0_0 b0_1 b0_2 b0_3 b0 i  d) (fun s => fn_ref8_Is_82_0_0 b0_1 b0_2 b0_3 b0 ) 0 b0 s
theorem rg_ref8_Is_82_0_0 (b0_1 : (List Int)) (b0_2 : Int) (b0_3 : (List C)) (b0 : (List Int)) (s : Unit) (hl : b0.length < 9223372036854775807) : L_ref8_Is_82_0_0 (0, b0, b0_1, b0_2, b0_3) = rv_ref8_Is_82_0_0 b0_1 b0_2 b0_3 b0 s := by
  unfold L_ref8_Is_82_0_0 rv_ref8_Is_82_0_0
  refine iterO_range0 b0 (rx_ref8_Is_82_0_0 b0_1 b0_2 b0_3 b0) _ _ ?_ ?_ s (by unfold FUEL; omega)
  · intro i s d hi hd
    have e1 : decide ((i : Int) < (b0.length : Int)) = true := decide_eq_true (by omega)
    have e2 : decide (0 ≤ (i : Int)) = true := decide_eq_true (by omega)
    have e3 : Int.toNat (i : Int) = i := Int.toNat_natCast i
    have e4 := wrap_next hi (Nat.le_of_lt hl)
    show st_ref8_Is_82_0_0 ((i : Int)) (b0) (b0_1) (b0_2) (b0_3) = upd _ (bd_ref8_Is_82_0_0 b0_1 b0_2 b0_3 b0 i  d)
    unfold st_ref8_Is_82_0_0 bd_ref8_Is_82_0_0
    simp only [e1, e2, e3, e4, hd, cond_true, cond_false, optC_some, upd_cond, upd_optC, upd_elim, upd_inl, upd_inr, upd_none]
  · intro s
    have e1 : decide ((b0.length : Int) < (b0.length : Int)) = false := decide_eq_false (by omega)
    show st_ref8_Is_82_0_0 ((b0.length : Int)) (b0) (b0_1) (b0_2) (b0_3) = _
    unfold st_ref8_Is_82_0_0 fn_ref8_Is_82_0_0
    rw [e1]
    rfl
noncomputable def bd_ref8_Is_82_2_0 (b0 : (List Int)) (b0_2 : Int) (b0_3 : (List C)) (b0_1 : (List Int)) (i : Nat)  (d : Int) : Option (Unit ⊕ (((List Int) × (List Int) × Int × (List C)) ⊕ (Bool × (List Int) × (List Int) × Int × (List C)))) :=
  bif decide (d < 1) then
   some (Sum.inr (Sum.inr (false, b0, b0_1, b0_2, b0_3)))
 else bif decide (d > 16) then
   some (Sum.inr (Sum.inr (false, b0, b0_1, b0_2, b0_3)))
 else some (Sum.inl ())
noncomputable def fn_ref8_Is_82_2_0 (b0 : (List Int)) (b0_2 : Int) (b0_3 : (List C)) (b0_1 : (List Int))  : Option (((List Int) × (List Int) × Int × (List C)) ⊕ (Bool × (List Int) × (List Int) × Int × (List C))) :=
  some (Sum.inl (b0, b0_1, b0_2, b0_3))
noncomputable abbrev rx_ref8_Is_82_2_0 (b0 : (List Int)) (b0_2 : Int) (b0_3 : (List C)) (b0_1 : (List Int)) (i : Nat) (s : Unit) : (Int × (List Int) × (List Int) × Int × (List C)) := ((i : Int), b0, b0_1, b0_2, b0_3)
noncomputable def rv_ref8_Is_82_2_0 (b0 : (List Int)) (b0_2 : Int) (b0_3 : (List C)) (b0_1 : (List Int)) (s : Unit) : Option (((List Int) × (List Int) × Int × (List C)) ⊕ (Bool × (List Int) × (List Int) × Int × (List C))) := rangeO (fun i s d => bd_ref8_Is_82_2_0 b0 b0_2 b0_3 b0_1 i  d) (fun s => fn_ref8_Is_82_2_0 b0 b0_2 b0_3 b0_1 ) 0 b0_1 s
theorem rg_ref8_Is_82_2_0 (b0 : (List Int)) (b0_2 : Int) (b0_3 : (List C)) (b0_1 : (List Int)) (s : Unit) (hl : b0_1.length < 9223372036854775807) : L_ref8_Is_82_2_0 (0, b0, b0_1, b0_2, b0_3) = rv_ref8_Is_82_2_0 b0 b0_2 b0_3 b0_1 s := by
  unfold L_ref8_Is_82_2_0 rv_ref8_Is_82_2_0
  refine iterO_range0 b0_1 (rx_ref8_Is_82_2_0 b0 b0_2 b0_3 b0_1) _ _ ?_ ?_ s (by unfold FUEL; omega)
  · intro i s d hi hd
    have e1 : decide ((i : Int) < (b0_1.length : Int)) = true := decide_eq_true (by omega)
    have e2 : decide (0 ≤ (i : Int)) = true := decide_eq_true (by omega)
    have e3 : Int.toNat (i : Int) = i := Int.toNat_natCast i
    have e4 := wrap_next hi (Nat.le_of_lt hl)
    show st_ref8_Is_82_2_0 ((i : Int)) (b0) (b0_1) (b0_2) (b0_3) = upd _ (bd_ref8_Is_82_2_0 b0 b0_2 b0_3 b0_1 i  d)
    unfold st_ref8_Is_82_2_0 bd_ref8_Is_82_2_0
    simp only [e1, e2, e3, e4, hd, cond_true, cond_false, optC_some, upd_cond, upd_optC, upd_elim, upd_inl, upd_inr, upd_none]
  · intro s
    have e1 : decide ((b0_1.length : Int) < (b0_1.length : Int)) = false := decide_eq_false (by omega)
    show st_ref8_Is_82_2_0 ((b0_1.length : Int)) (b0) (b0_1) (b0_2) (b0_3) = _
    unfold st_ref8_Is_82_2_0 fn_ref8_Is_82_2_0
    rw [e1]
    rfl
noncomputable def bd_ref8_Is_82_6_0 (s5 : Int) (b0 : (List Int)) (b0_1 : (List Int)) (b0_2 : Int) (b0_3 : (List C)) (b1 : Int) (b1_1 : (List A)) (i : Nat)  (d : A) : Option (Unit ⊕ ((Int × (List Int) × (List Int) × Int × (List C)) ⊕ (Bool × Int × (List Int) × (List Int) × Int × (List C)))) :=
  optC (G_ref8_act ((b0, b0_1, b0_2, b0_3), (b1, b1_1), d, ())) (none) fun d15 ↦
   bif !d15 then
   some (Sum.inr (Sum.inr (false, s5, b0, b0_1, b0_2, b0_3)))
 else some (Sum.inl ())
noncomputable def fn_ref8_Is_82_6_0 (s5 : Int) (b0 : (List Int)) (b0_1 : (List Int)) (b0_2 : Int) (b0_3 : (List C)) (b1 : Int) (b1_1 : (List A))  : Option ((Int × (List Int) × (List Int) × Int × (List C)) ⊕ (Bool × Int × (List Int) × (List Int) × Int × (List C))) :=
  some (Sum.inl (s5, b0, b0_1, b0_2, b0_3))
noncomputable abbrev rx_ref8_Is_82_6_0 (s5 : Int) (b0 : (List Int)) (b0_1 : (List Int)) (b0_2 : Int) (b0_3 : (List C)) (b1 : Int) (b1_1 : (List A)) (i : Nat) (s : Unit) : (Int × Int × Int × (List Int) × (List Int) × Int × (List C) × Int × (List A)) := (s5, (b1_1.length : Int), (i : Int), b0, b0_1, b0_2, b0_3, b1, b1_1)
noncomputable def rv_ref8_Is_82_6_0 (s5 : Int) (b0 : (List Int)) (b0_1 : (List Int)) (b0_2 : Int) (b0_3 : (List C)) (b1 : Int) (b1_1 : (List A)) (s : Unit) : Option ((Int × (List Int) × (List Int) × Int × (List C)) ⊕ (Bool × Int × (List Int) × (List Int) × Int × (List C))) := rangeO (fun i s d => bd_ref8_Is_82_6_0 s5 b0 b0_1 b0_2 b0_3 b1 b1_1 i  d) (fun s => fn_ref8_Is_82_6_0 s5 b0 b0_1 b0_2 b0_3 b1 b1_1 ) 0 b1_1 s
theorem rg_ref8_Is_82_6_0 (s5 : Int) (b0 : (List Int)) (b0_1 : (List Int)) (b0_2 : Int) (b0_3 : (List C)) (b1 : Int) (b1_1 : (List A)) (s : Unit) (hl : b1_1.length < 9223372036854775807) : L_ref8_Is_82_6_0 (s5, (b1_1.length : Int), 0, b0, b0_1, b0_2, b0_3, b1, b1_1) = rv_ref8_Is_82_6_0 s5 b0 b0_1 b0_2 b0_3 b1 b1_1 s := by
  unfold L_ref8_Is_82_6_0 rv_ref8_Is_82_6_0
  refine iterO_range0 b1_1 (rx_ref8_Is_82_6_0 s5 b0 b0_1 b0_2 b0_3 b1 b1_1) _ _ ?_ ?_ s (by unfold FUEL; omega)
  · intro i s d hi hd
    have e1 : decide ((i : Int) < (b1_1.length : Int)) = true := decide_eq_true (by omega)
    have e2 : decide (0 ≤ (i : Int)) = true := decide_eq_true (by omega)
    have e3 : Int.toNat (i : Int) = i := Int.toNat_natCast i
    have e4 := wrap_next hi (Nat.le_of_lt hl)
    show st_ref8_Is_82_6_0 (s5) ((b1_1.length : Int)) ((i : Int)) (b0) (b0_1) (b0_2) (b0_3) (b1) (b1_1) = upd _ (bd_ref8_Is_82_6_0 s5 b0 b0_1 b0_2 b0_3 b1 b1_1 i  d)
    unfold st_ref8_Is_82_6_0 bd_ref8_Is_82_6_0
    simp only [e1, e2, e3, e4, hd, cond_true, cond_false, optC_some, upd_cond, upd_optC, upd_elim, upd_inl, upd_inr, upd_none]
  · intro s
    have e1 : decide ((b1_1.length : Int) < (b1_1.length : Int)) = false := decide_eq_false (by omega)
    show st_ref8_Is_82_6_0 (s5) ((b1_1.length : Int)) ((b1_1.length : Int)) (b0) (b0_1) (b0_2) (b0_3) (b1) (b1_1) = _
    unfold st_ref8_Is_82_6_0 fn_ref8_Is_82_6_0
    rw [e1]
    rfl
end Go.Proofs.Ytbdcblpjemmipaa.Ex

namespace Go.Proofs.Ytbdcblpjemmipaa.Ex
open Go.Proofs Go.Proofs.Ytbdcblpjemmipaa
set_option maxRecDepth 100000
set_option maxHeartbeats 2000000
set_option linter.unusedVariables false
set_option linter.unusedSimpArgs false
def ash_ref2_Is : List Sh := [.dat tI]
noncomputable def sp_ref2_Is : Nat → Option (List AV → Prog AV)
  | 50 => some (con_ref2_None)
  | 51 => some (con_ref1_Fits)
  | _ => none
theorem hsp_ref2_Is : ∀ g p, sp_ref2_Is g = some p → SoundA Try.prog g p := by
  intro g p h
  unfold sp_ref2_Is at h
  split at h
  · cases h; exact snd_ref2_None
  · cases h; exact snd_ref1_Fits
  · cases h
noncomputable def cx_ref2_Is : Ctx := { tab := tab, spec := sp_ref2_Is, inl := inl, lps := fun _ _ => none, fuel := 40 }
theorem in_ref2_Is : InlOk Try.prog cx_ref2_Is := ⟨inl_ok, fun _ _ _ _ _ _ _ _ h => nomatch h⟩
theorem cal_ref2_Is (g : Nat) : SoundA Try.prog g (evF cx_ref2_Is keeps 8 g) := evF_sound (tabOk_of tab_ok) (cmpsOk_of tab_ok cmps_ok) mixed in_ref2_Is hsp_ref2_Is keeps 8 g
noncomputable def g_ref2_Is (a0 : I) : Option Bool :=
  bif a0.1 == 1 && a0.2 == 0 then some true
 else
 bif decide (a0.1 ≤ a0.2) then
 optC (G_ref1_Fits (a0.1, ())) none fun d2 ↦ bif d2 then optC (G_ref1_Fits (a0.2, ())) none fun d3 ↦ some d3 else some false
 else some false
theorem raw_ref2_Is (a0 : I) : evGX cx_ref2_Is keeps 8 19 ash_ref2_Is (.dat .bool) ((a0, ()) : (I × Unit)) = g_ref2_Is a0 := by kernel_rfl
noncomputable def G_ref2_Is (x : (I × Unit)) : Option Bool := g_ref2_Is x.1
noncomputable def con_ref2_Is : List AV → Prog AV := conP true ash_ref2_Is (.dat .bool) G_ref2_Is
theorem snd_ref2_Is : SoundA Try.prog 19 con_ref2_Is := conP_sound (cal_ref2_Is 19) true (by rfl) (by rfl) (fun x r e => (evGX_eq _ _ _ _ _ _ _).trans ((raw_ref2_Is x.1).trans e)) (.inl rfl)
end Go.Proofs.Ytbdcblpjemmipaa.Ex

