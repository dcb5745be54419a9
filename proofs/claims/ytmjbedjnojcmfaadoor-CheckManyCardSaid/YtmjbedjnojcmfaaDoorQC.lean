/- A part of the proofs of which programs may be: QC. -/
import Derived.Test.YtmjbedjnojcmfaaDoorQB
import Derived.LoopN
import Derived.Conc.MuLone
namespace Go.Proofs.YtmjbedjnojcmfaaDoor.Ex
set_option linter.unusedSectionVars false
section
variable [RT] {P : Program} {cx : Ctx} {cal : FuncId → List AV → Prog AV} {o : Oper} {a : Act} {w : World} {T : Tm} {tr : Bool} {ok : Nat → Prop} {hdr : Nat → Value} {S : Stb} {h h' : Hp} {f f' : Foot} {v : AV}

def Foot.app (x y : Foot) : Foot := ⟨x.rd ++ y.rd, x.wr ++ y.wr⟩

structure Local {α : Type} (p : Prog α) (h : Hp) (x : α) (h' : Hp) (fd : Foot) : Prop where
  self : ∀ g, ex p true h g = some (x, h', fd.app g)
  keep : ∀ id, id ∉ fd.wr → findB h'.blks id = findB h.blks id
  other : ∀ h2 : Hp, h2.c = h.c → (∀ id, id ∈ fd.rd ∨ id ∈ fd.wr → findB h2.blks id = findB h.blks id) →
    ∃ h2', (∀ g, ex p true h2 g = some (x, h2', fd.app g)) ∧ h2'.c = h'.c ∧ (∀ id, id ∈ fd.wr → findB h2'.blks id = findB h'.blks id) ∧ (∀ id, id ∉ fd.wr → findB h2'.blks id = findB h2.blks id)

theorem Foot.app_assoc (x y z : Foot) : (x.app y).app z = x.app (y.app z) := by simp [Foot.app]

theorem run_local {α : Type} (p : Prog α) : ∀ (h : Hp) (f : Foot) (x : α) (h' : Hp) (f' : Foot), ex p true h f = some (x, h', f') → ∃ fd : Foot, f' = fd.app f ∧ Local p h x h' fd := by
  induction p with
  | ret a =>
    intro h f x h' f' e
    cases ex_ret e
    exact ⟨⟨[], []⟩, rfl, ⟨fun g => rfl, fun _ _ => rfl, fun h2 hc _ => ⟨h2, fun g => rfl, hc, fun id k => absurd k (by simp), fun _ _ => rfl⟩⟩⟩
  | fail => intro h f x h' f' e; exact (ex_fail e).elim
  | ite b p q ihp ihq =>
    intro h f x h' f' e
    rcases ex_ite e with ⟨rfl, e⟩ | ⟨rfl, e⟩
    · obtain ⟨fd, e1, l⟩ := ihp h f x h' f' e
      exact ⟨fd, e1, ⟨l.self, l.keep, l.other⟩⟩
    · obtain ⟨fd, e1, l⟩ := ihq h f x h' f' e
      exact ⟨fd, e1, ⟨l.self, l.keep, l.other⟩⟩
  | opt y k ih =>
    intro h f x h' f' e
    obtain ⟨b, rfl, e⟩ := ex_opt e
    obtain ⟨fd, e1, l⟩ := ih b h f x h' f' e
    exact ⟨fd, e1, ⟨l.self, l.keep, l.other⟩⟩
  | alt y k l ihk ihl =>
    intro h f x h' f' e
    cases y with
    | inl b =>
      obtain ⟨fd, e1, l⟩ := ihk b h f x h' f' e
      exact ⟨fd, e1, ⟨l.self, l.keep, l.other⟩⟩
    | inr b =>
      obtain ⟨fd, e1, l⟩ := ihl b h f x h' f' e
      exact ⟨fd, e1, ⟨l.self, l.keep, l.other⟩⟩
  | get id k ih =>
    intro h f x h' f' e
    obtain ⟨b, hb, e⟩ := ex_get e
    obtain ⟨fd, e1, l⟩ := ih b h _ x h' f' e
    have hstep : ∀ (h2 : Hp) (g : Foot), findB h2.blks id = some b → ex (.get id k) true h2 g = ex (k b) true h2 (addR true g id) := fun h2 g k => by
      simp only [ex, run, k]
    have happ : ∀ g, fd.app (addR true g id) = (fd.app ⟨[id], []⟩).app g := fun g => by simp [Foot.app, addR]
    refine ⟨fd.app ⟨[id], []⟩, by rw [e1, happ], ⟨fun g => ?_, fun i hi => l.keep i (by simpa [Foot.app] using hi), fun h2 hc hag => ?_⟩⟩
    · rw [hstep h g hb, l.self, happ]
    · obtain ⟨h2', k1, k2, k3, k4⟩ := l.other h2 hc (fun i hi => hag i (by simp only [Foot.app, List.mem_append]; exact hi.imp (fun k => .inl k) (fun k => .inl k)))
      refine ⟨h2', fun g => ?_, k2, fun i hi => k3 i (by simpa [Foot.app] using hi), fun i hi => k4 i (by simpa [Foot.app] using hi)⟩
      rw [hstep h2 g (by rw [hag id (.inl (by simp [Foot.app]))]; exact hb), k1, happ]
  | put id b k ih =>
    intro h f x h' f' e
    obtain ⟨⟨b', hb⟩, e⟩ := ex_put e
    obtain ⟨fd, e1, l⟩ := ih _ _ x h' f' e
    have hstep : ∀ (h2 : Hp) (g : Foot) (b2 : Blk), findB h2.blks id = some b2 → ex (.put id b k) true h2 g = ex k true ⟨setB h2.blks id b, h2.c⟩ (addW true g id) := fun h2 g b2 k => by
      simp only [ex, run, k]
    have happ : ∀ g, fd.app (addW true g id) = (fd.app ⟨[], [id]⟩).app g := fun g => by simp [Foot.app, addW]
    refine ⟨fd.app ⟨[], [id]⟩, by rw [e1, happ], ⟨fun g => ?_, fun i hi => ?_, fun h2 hc hag => ?_⟩⟩
    · rw [hstep h g b' hb, l.self, happ]
    · simp only [Foot.app, List.mem_append, not_or, List.mem_singleton] at hi
      rw [l.keep i hi.1, findB_setB _ _ _ _ hb, if_neg hi.2]
    · have hb2 : findB h2.blks id = some b' := by rw [hag id (.inr (by simp [Foot.app]))]; exact hb
      obtain ⟨h2', k1, k2, k3, k4⟩ := l.other ⟨setB h2.blks id b, h2.c⟩ hc (fun i hi => by
        rw [findB_setB _ _ _ _ hb2, findB_setB _ _ _ _ hb]
        by_cases e : i = id
        · rw [if_pos e, if_pos e]
        · rw [if_neg e, if_neg e]; exact hag i (by simp only [Foot.app, List.mem_append]; exact hi.imp (fun k => .inl k) (fun k => .inl k)))
      refine ⟨h2', fun g => by rw [hstep h2 g b' hb2, k1, happ], k2, fun i hi => ?_, fun i hi => ?_⟩
      · by_cases hw : i ∈ fd.wr
        · exact k3 i hw
        · simp only [Foot.app, List.mem_append, hw, false_or, List.mem_singleton] at hi
          subst hi
          rw [k4 i hw, l.keep i hw, findB_setB _ _ _ _ hb2, findB_setB _ _ _ _ hb, if_pos rfl, if_pos rfl]
      · simp only [Foot.app, List.mem_append, not_or, List.mem_singleton] at hi
        rw [k4 i hi.1, findB_setB _ _ _ _ hb2, if_neg hi.2]
  | new b k ih =>
    intro h f x h' f' e
    have e := ex_new e
    obtain ⟨fd, e1, l⟩ := ih h.c _ _ x h' f' e
    have happ : ∀ g, fd.app (addW true g h.c) = (fd.app ⟨[], [h.c]⟩).app g := fun g => by simp [Foot.app, addW]
    refine ⟨fd.app ⟨[], [h.c]⟩, by rw [e1, happ], ⟨fun g => ?_, fun i hi => ?_, fun h2 hc hag => ?_⟩⟩
    · have := l.self (addW true g h.c)
      rw [happ] at this
      exact this
    · simp only [Foot.app, List.mem_append, not_or, List.mem_singleton] at hi
      rw [l.keep i hi.1, findB_cons, if_neg (Ne.symm hi.2)]
    · obtain ⟨h2', k1, k2, k3, k4⟩ := l.other ⟨(h2.c, b) :: h2.blks, h2.c + 1⟩ (by simp [hc]) (fun i hi => by
        rw [findB_cons, findB_cons, hc]
        by_cases e : h.c = i
        · rw [if_pos e, if_pos e]
        · rw [if_neg e, if_neg e]; exact hag i (by simp only [Foot.app, List.mem_append]; exact hi.imp (fun k => .inl k) (fun k => .inl k)))
      refine ⟨h2', fun g => ?_, k2, fun i hi => ?_, fun i hi => ?_⟩
      · have := k1 (addW true g h.c)
        rw [happ] at this
        have e2 : ex (.new b k) true h2 g = ex (k h2.c) true ⟨(h2.c, b) :: h2.blks, h2.c + 1⟩ (addW true g h2.c) := rfl
        rw [e2, hc]
        rw [hc] at this
        exact this
      · by_cases hw : i ∈ fd.wr
        · exact k3 i hw
        · simp only [Foot.app, List.mem_append, hw, false_or, List.mem_singleton] at hi
          subst hi
          rw [k4 _ hw, l.keep _ hw, findB_cons, findB_cons, hc, if_pos rfl, if_pos rfl]
      · simp only [Foot.app, List.mem_append, not_or, List.mem_singleton] at hi
        rw [k4 i hi.1, findB_cons, hc, if_neg (Ne.symm hi.2)]
  | del id k ih =>
    intro h f x h' f' e
    obtain ⟨⟨b', hb⟩, e⟩ := ex_del e
    obtain ⟨fd, e1, l⟩ := ih _ _ x h' f' e
    have hstep : ∀ (h2 : Hp) (g : Foot) (b2 : Blk), findB h2.blks id = some b2 → ex (.del id k) true h2 g = ex k true ⟨delB h2.blks id, h2.c⟩ (addW true g id) := fun h2 g b2 k => by
      simp only [ex, run, k]
    have happ : ∀ g, fd.app (addW true g id) = (fd.app ⟨[], [id]⟩).app g := fun g => by simp [Foot.app, addW]
    refine ⟨fd.app ⟨[], [id]⟩, by rw [e1, happ], ⟨fun g => ?_, fun i hi => ?_, fun h2 hc hag => ?_⟩⟩
    · rw [hstep h g b' hb, l.self, happ]
    · simp only [Foot.app, List.mem_append, not_or, List.mem_singleton] at hi
      rw [l.keep i hi.1, findB_delB, if_neg hi.2]
    · have hb2 : findB h2.blks id = some b' := by rw [hag id (.inr (by simp [Foot.app]))]; exact hb
      obtain ⟨h2', k1, k2, k3, k4⟩ := l.other ⟨delB h2.blks id, h2.c⟩ hc (fun i hi => by
        rw [findB_delB, findB_delB]
        by_cases e : i = id
        · rw [if_pos e, if_pos e]
        · rw [if_neg e, if_neg e]; exact hag i (by simp only [Foot.app, List.mem_append]; exact hi.imp (fun k => .inl k) (fun k => .inl k)))
      refine ⟨h2', fun g => by rw [hstep h2 g b' hb2, k1, happ], k2, fun i hi => ?_, fun i hi => ?_⟩
      · by_cases hw : i ∈ fd.wr
        · exact k3 i hw
        · simp only [Foot.app, List.mem_append, hw, false_or, List.mem_singleton] at hi
          subst hi
          rw [k4 i hw, l.keep i hw, findB_delB, findB_delB, if_pos rfl, if_pos rfl]
      · simp only [Foot.app, List.mem_append, not_or, List.mem_singleton] at hi
        rw [k4 i hi.1, findB_delB, if_neg hi.2]
  | ctr k ih =>
    intro h f x h' f' e
    obtain ⟨fd, e1, l⟩ := ih h.c h f x h' f' e
    refine ⟨fd, e1, ⟨l.self, l.keep, fun h2 hc hag => ?_⟩⟩
    obtain ⟨h2', k1, k2⟩ := l.other h2 hc hag
    refine ⟨h2', fun g => ?_, k2⟩
    rw [← hc] at k1
    exact k1 g
  | seek n k ih =>
    intro h f x h' f' e
    have e0 : ∀ (h2 : Hp) (g : Foot), ex (.seek n k) true h2 g = bif leB h2.c n then ex k true ⟨h2.blks, n⟩ g else none := fun h2 g => by
      simp only [ex, run]
    rw [e0] at e
    cases hl : leB h.c n <;> rw [hl] at e
    · cases e
    · obtain ⟨fd, e1, l⟩ := ih _ f x h' f' e
      refine ⟨fd, e1, ⟨fun g => by rw [e0, hl]; exact l.self g, l.keep, fun h2 hc hag => ?_⟩⟩
      obtain ⟨h2', k1, k2⟩ := l.other ⟨h2.blks, n⟩ rfl hag
      exact ⟨h2', fun g => by rw [e0, hc, hl]; exact k1 g, k2⟩
  | trace p k ihp ihk =>
    intro h f x h' f' e
    have e0 : ∀ (h2 : Hp) (g : Foot), ex (.trace p k) true h2 g = (ex p true h2 ⟨[], []⟩).bind fun y => ex (k y.1 y.2.2) true y.2.1 (y.2.2.app g) := fun h2 g => by
      simp only [ex, run]
      rw [run_ex]
      rfl
    rw [e0, Option.bind_eq_some_iff] at e
    obtain ⟨⟨y, h1, f1⟩, e1, e2⟩ := e
    obtain ⟨fd1, q1, l1⟩ := ihp h _ y h1 f1 e1
    have q1' : f1 = fd1 := by rw [q1]; simp [Foot.app]
    subst q1'
    obtain ⟨fd2, q2, l2⟩ := ihk y f1 h1 _ x h' f' e2
    have s1 : ∀ h2 h2' : Hp, (∀ g, ex p true h2 g = some (y, h2', f1.app g)) → ex p true h2 ⟨[], []⟩ = some (y, h2', f1) := fun h2 h2' k => by
      rw [k]; simp [Foot.app]
    refine ⟨fd2.app f1, by rw [q2, Foot.app_assoc], ⟨fun g => ?_, fun i hi => ?_, fun h2 hc hag => ?_⟩⟩
    · rw [e0, s1 h h1 l1.self]
      show ex (k y f1) true h1 (f1.app g) = _
      rw [l2.self, Foot.app_assoc]
    · simp only [Foot.app, List.mem_append, not_or] at hi
      rw [l2.keep i hi.1, l1.keep i hi.2]
    · obtain ⟨h3, k1, k2, k3, k4⟩ := l1.other h2 hc (fun i hi => hag i (by simp only [Foot.app, List.mem_append]; exact hi.imp (fun k => .inr k) (fun k => .inr k)))
      obtain ⟨h4, m1, m2, m3, m4⟩ := l2.other h3 k2 (fun i hi => by
        by_cases hw : i ∈ f1.wr
        · exact k3 i hw
        · rw [k4 i hw, l1.keep i hw]
          exact hag i (by simp only [Foot.app, List.mem_append]; exact hi.imp (fun k => .inl k) (fun k => .inl k)))
      refine ⟨h4, fun g => ?_, m2, fun i hi => ?_, fun i hi => ?_⟩
      · rw [e0, s1 h2 h3 k1]
        show ex (k y f1) true h3 (f1.app g) = _
        rw [m1, Foot.app_assoc]
      · by_cases hw : i ∈ fd2.wr
        · exact m3 i hw
        · simp only [Foot.app, List.mem_append, hw, false_or] at hi
          rw [m4 i hw, l2.keep i hw, k3 i hi]
      · simp only [Foot.app, List.mem_append, not_or] at hi
        rw [m4 i hi.1, k4 i hi.2]
  | norm base keep T k ih => intro h f x h' f' e; cases e
  | glob g k ih => intro h f x h' f' e; cases e
end
end Go.Proofs.YtmjbedjnojcmfaaDoor.Ex

namespace Go.Proofs.YtmjbedjnojcmfaaDoor.Ex
set_option linter.unusedSectionVars false
section
variable [RT] {P : Program} {cx : Ctx} {cal : FuncId → List AV → Prog AV} {o : Oper} {a : Act} {w : World} {T : Tm} {tr : Bool} {ok : Nat → Prop} {hdr : Nat → Value} {S : Stb} {h h' : Hp} {f f' : Foot} {v : AV}

theorem mem_tmpL {t : Nat} : ∀ {l : List Operand}, .tmp t ∈ l → t ∈ tmpL l
  | x :: r, k => by
    rcases List.mem_cons.1 k with rfl | k'
    · simp [tmpL]
    · have ih := mem_tmpL k'
      cases x <;> simp only [tmpL, List.mem_cons] <;> first | exact ih | exact .inr ih

theorem evO_congr {T T2 : Tm} {l : List Operand} (k : ∀ t ∈ tmpL l, getT T t = getT T2 t) : ∀ x ∈ l, evO T x = evO T2 x := by
  intro x hx
  cases x with
  | tmp t => exact k t (mem_tmpL hx)
  | _ => rfl

theorem evL_congr {T T2 : Tm} : ∀ {l : List Operand}, (∀ x ∈ l, evO T x = evO T2 x) → evL T l = evL T2 l
  | [], _ => rfl
  | x :: r, k => by simp only [evL, k x (by simp), evL_congr (l := r) fun y hy => k y (by simp [hy])]

theorem fillP_congr {T T2 : Tm} (flds : List (Nat × Nat)) : ∀ (ps : List (Nat × Operand)) (cs : List AV), (∀ p ∈ ps, evO T p.2 = evO T2 p.2) → fillP flds T ps cs = fillP flds T2 ps cs
  | [], _, _ => rfl
  | (i, x) :: r, cs, k => by
    simp only [fillP, k (i, x) (by simp)]
    split
    · rename_i off n vs _ _
      rw [fillP_congr flds r _ fun p hp => k p (by simp [hp])]
    · rfl

theorem elemsP_congr {T T2 : Tm} (e : Ty) : ∀ (ps : List (Nat × Operand)) (j : Nat) (q : List (D e) → Prog AV), (∀ p ∈ ps, evO T p.2 = evO T2 p.2) → elemsP e T j ps q = elemsP e T2 j ps q
  | [], _, _, _ => rfl
  | (i, x) :: r, j, q, k => by
    simp only [elemsP, k (i, x) (by simp)]
    congr 1
    congr 1
    funext vs
    congr 1
    funext vs'
    congr 1
    funext d
    exact elemsP_congr e r (j + 1) _ fun p hp => k p (by simp [hp])

theorem needV_congr {T T2 : Tm} : ∀ (ps : List (Nat × Operand)), (∀ p ∈ ps, evO T p.2 = evO T2 p.2) → needV T ps = needV T2 ps
  | [], _ => rfl
  | (i, x) :: r, k => by
    simp only [needV, k (i, x) (by simp), needV_congr r fun p hp => k p (by simp [hp])]

theorem cellsV_congr {T T2 : Tm} (sz : Nat) : ∀ (ps : List (Nat × Operand)) (j : Nat), (∀ p ∈ ps, evO T p.2 = evO T2 p.2) → cellsV T sz j ps = cellsV T2 sz j ps
  | [], _, _ => rfl
  | (i, x) :: r, j, k => by
    simp only [cellsV, k (i, x) (by simp), cellsV_congr sz r (j + 1) fun p hp => k p (by simp [hp])]

theorem opP_congr {T T2 : Tm} (k : ∀ t ∈ tmpL o.op.operands.toList, getT T t = getT T2 t) : opP cx cal T o = opP cx cal T2 o := by
  have k := evO_congr k
  cases hop : o.op <;> simp only [opP, hop] <;> simp only [hop, Op.operands] at k
  case move x => rw [k x (by simp)]
  case assign x => rw [k x (by simp)]
  case pick c x y => rw [k c (by simp), k x (by simp), k y (by simp)]
  case box t x => rw [k x (by simp)]
  case build t ps =>
    congr 1; funext i
    rw [fillP_congr i.flds ps.toList _ fun p hp => k p.2 (by simp; exact ⟨p.1, by simpa using hp⟩)]
  case buildSlice t n ps =>
    congr 1; funext i; congr 1; funext _; congr 1; funext e
    have k2 : ∀ p ∈ ps.toList, evO T p.2 = evO T2 p.2 := fun p hp => k p.2 (by simp; exact ⟨p.1, by simpa using hp⟩)
    rw [elemsP_congr e ps.toList 0 _ k2, needV_congr ps.toList k2, cellsV_congr _ ps.toList 0 k2]
  case load t x => rw [k x (by simp)]
  case store t x y => rw [k x (by simp), k y (by simp)]
  case nilCheck x => rw [k x (by simp)]
  case index t x y => rw [k x (by simp), k y (by simp)]
  case binOp op t x y t' => rw [k x (by simp), k y (by simp)]
  case unOp op t x => rw [k x (by simp)]
  case convert s d x => rw [k x (by simp)]
  case makeFunc fn x y =>
    have e1 : evL T x.toList = evL T2 x.toList := evL_congr fun z hz => k z (by simp; exact .inl (by simpa using hz))
    have e2 : evL T y.toList = evL T2 y.toList := evL_congr fun z hz => k z (by simp; exact .inr (by simpa using hz))
    rw [e1, e2]
  case makeSlice t x y => rw [k x (by simp), k y (by simp)]
  case slice t x lo hi mx =>
    rw [k x (by simp)]
    have em : ∀ m, mx = some m → evO T m = evO T2 m := fun m hm => k m (by subst hm; simp)
    cases lo with
    | none => cases hi with
      | none => cases mx with
        | none => rfl
        | some m => simp only [em m rfl]
      | some y => cases mx with
        | none => simp only [k y (by simp)]
        | some m => simp only [k y (by simp), em m rfl]
    | some z =>
      simp only [k z (by simp)]
      cases hi with
      | none => cases mx with
        | none => rfl
        | some m => simp only [em m rfl]
      | some y => cases mx with
        | none => simp only [k y (by simp)]
        | some m => simp only [k y (by simp), em m rfl]
  case fieldAddr t x i => rw [k x (by simp)]
  case indexAddr t x i => rw [k x (by simp), k i (by simp)]
  case extract x i => rw [k x (by simp)]
  case field t x i => rw [k x (by simp)]
  case call c =>
    have e1 : evL T c.args.toList = evL T2 c.args.toList := evL_congr fun z hz => k z (by simp only [Call.operands, Array.toList_append, List.mem_append]; exact .inr hz)
    rw [e1]
    cases hc : c.callee with
    | value x => simp only; rw [k x (by simp [Call.operands, hc])]
    | invoke x m => rfl
    | builtin b => rfl

def WantA (ops : List Oper) (T : Tm) (o : Oper) : Prop := o.guard = none ∨ ∃ j want g, o.guard = some (j, want) ∧ dstOf ops j = some g ∧ getT T g = .bool want
def NotA (ops : List Oper) (T : Tm) (o : Oper) : Prop := ∃ j want g, o.guard = some (j, want) ∧ dstOf ops j = some g ∧ (getT T g = .bool (!want) ∨ getT T g = .tup [])

def Puts (T T' : Tm) (dst : Option Tmp) (v : AV) : Prop := ∀ t, getT T' t = if dst = some t then v else getT T t

theorem getT_cons (k : Nat) (v : AV) (T : Tm) (t : Nat) : getT ((k, v) :: T) t = if k = t then v else getT T t := by
  show (bif Nat.beq k t then v else getT T t) = _
  by_cases h : k = t
  · subst h; simp
  · simp [nb_ne h, h]

theorem puts_put (T : Tm) (dst : Option Tmp) (v : AV) : Puts T (putT T dst v) dst v := by
  intro t
  cases dst with
  | none => simp [putT]
  | some d => simp only [putT, getT_cons, Option.some.injEq]

theorem stepP_inv {n : Nat} {ops : List Oper} {T' : Tm} (e : ex (stepP cx cal n ops T o) tr h f = some (T', h', f')) :
    inN n o.dst = true ∧ ∃ v, Puts T T' o.dst v ∧ ((WantA ops T o ∧ ex (opP cx cal T o) tr h f = some (v, h', f')) ∨ (NotA ops T o ∧ v = .tup [] ∧ h' = h ∧ f' = f)) := by
  unfold stepP at e
  rcases ex_cond e with ⟨hn, e⟩ | ⟨_, e⟩
  case inr => exact (ex_fail e).elim
  refine ⟨hn, ?_⟩
  split at e
  · rename_i hg
    obtain ⟨v, h1, f1, e1, e2⟩ := ex_bind_some e
    cases ex_ret e2
    exact ⟨v, puts_put T o.dst v, .inl ⟨.inl hg, e1⟩⟩
  · rename_i j want hg
    split at e
    · exact (ex_fail e).elim
    · rename_i g hd
      split at e
      · rename_i b hb
        have same : ∀ c : Bool, b = c → ∀ t, getT ((g, .bool c) :: T) t = getT T t := fun c hc t => by
          rw [getT_cons]
          by_cases k : g = t
          · rw [if_pos k, ← k, hb, hc]
          · rw [if_neg k]
        have fin : ∀ (c : Bool) (v : AV), b = c → Puts T (putT ((g, .bool c) :: T) o.dst v) o.dst v := fun c v hc t => by
          rw [puts_put _ o.dst v t, same c hc t]
        rcases ex_ite e with ⟨rfl, e⟩ | ⟨rfl, e⟩
        · rcases ex_cond e with ⟨rfl, e⟩ | ⟨rfl, e⟩
          · obtain ⟨v, h1, f1, e1, e2⟩ := ex_bind_some e
            cases ex_ret e2
            exact ⟨v, fin true v rfl, .inl ⟨.inr ⟨j, true, g, hg, hd, hb⟩, by rw [← opP_congr (T := (g, .bool true) :: T) fun t _ => same true rfl t]; exact e1⟩⟩
          · cases ex_ret e
            exact ⟨.tup [], fin true _ rfl, .inr ⟨⟨j, false, g, hg, hd, .inl hb⟩, rfl, rfl, rfl⟩⟩
        · rcases ex_cond e with ⟨rfl, e⟩ | ⟨rfl, e⟩
          · cases ex_ret e
            exact ⟨.tup [], fin false _ rfl, .inr ⟨⟨j, true, g, hg, hd, .inl hb⟩, rfl, rfl, rfl⟩⟩
          · obtain ⟨v, h1, f1, e1, e2⟩ := ex_bind_some e
            cases ex_ret e2
            exact ⟨v, fin false v rfl, .inl ⟨.inr ⟨j, false, g, hg, hd, hb⟩, by rw [← opP_congr (T := (g, .bool false) :: T) fun t _ => same false rfl t]; exact e1⟩⟩
      · rename_i hb
        cases ex_ret e
        exact ⟨.tup [], puts_put T o.dst _, .inr ⟨⟨j, want, g, hg, hd, .inr hb⟩, rfl, rfl, rfl⟩⟩
      · exact (ex_fail e).elim

structure Left (P : Program) (tr : Bool) (ok : Nat → Prop) (hdr : Nat → Value) (S : Stb) (h : Hp) (w : World) (a : Act) (h' : Hp) (T' : Tm) (hdr' : Nat → Value) (S' : Stb) (a' : Act) (w' : World) : Prop where
  post : Post tr ok hdr S h w hdr' S' h' w'
  tmps : TReal hdr' S' T' a'.tmps
  tok : TOk (okn ok h.c h'.c) T'
  size : a'.tmps.size = a.tmps.size
  defers : a'.defers = a.defers

theorem bool_tmp {t : Nat} {b : Bool} (hT : TReal hdr S T a.tmps) (k : getT T t = .bool b) : a.tmps[t]? = some (.bool b) := by
  have := hT t
  rw [k] at this
  generalize hv : a.tmps.getD t undef = v at this
  cases this
  rw [Array.getD_eq_getD_getElem?] at hv
  cases hg : a.tmps[t]? with
  | none => rw [hg] at hv; simp [undef] at hv
  | some u => rw [hg] at hv; simp at hv; rw [hv]

theorem wanted_of {ops : Array Oper} (hT : TReal hdr S T a.tmps) (k : WantA ops.toList T o) : Region.wanted o (yielded ops a.tmps) = true := by
  unfold Region.wanted
  rcases k with k | ⟨j, want, g, k1, k2, k3⟩
  · rw [k]
  · have : dstOf ops.toList j = (ops[j]?).bind (·.dst) := by simp [dstOf]
    rw [this] at k2
    simp [k1, yielded, k2, bool_tmp hT k3]

theorem unwanted_of {ops : Array Oper} (hT : TReal hdr S T a.tmps) (k : NotA ops.toList T o) : Region.wanted o (yielded ops a.tmps) = false := by
  unfold Region.wanted
  obtain ⟨j, want, g, k1, k2, k3⟩ := k
  have : dstOf ops.toList j = (ops[j]?).bind (·.dst) := by simp [dstOf]
  rw [this] at k2
  rcases k3 with k3 | k3
  · simp only [k1, yielded, k2, Option.bind_some, bool_tmp hT k3]
    cases want <;> rfl
  · have hg := hT g
    rw [k3] at hg
    generalize hv : a.tmps.getD g undef = v at hg
    cases hg with | tup _ vs hr =>
    cases hr
    rw [Array.getD_eq_getD_getElem?] at hv
    simp only [k1, yielded, k2, Option.bind_some]
    cases hq : a.tmps[g]? with
    | none => simp
    | some u => rw [hq] at hv; simp only [Option.getD_some] at hv; subst hv; simp

theorem TReal.puts {T' : Tm} {dst : Option Tmp} {u : Value} (hT : TReal hdr S T a.tmps) (hp : Puts T T' dst v) (hv : VRep hdr S v u) (hn : inN a.tmps.size dst = true) : TReal hdr S T' (a.put dst u).tmps := by
  intro t
  rw [hp t]
  cases dst with
  | none => simpa [Act.put] using hT t
  | some d =>
    have hd : d < a.tmps.size := leB_iff.1 hn
    by_cases e : d = t
    · subst e
      simpa [Act.put, hd] using hv
    · have := hT t
      simp only [Option.some.injEq, e, if_false]
      simpa [Act.put, Array.getElem?_setIfInBounds_ne e] using this

theorem TOk.puts {T' : Tm} {dst : Option Tmp} {ok' : Nat → Prop} (hT : TOk ok T) (hp : Puts T T' dst v) (hk : ∀ n, ok n → ok' n) (hv : ∀ n ∈ v.ids, ok' n) : TOk ok' T' := by
  intro t n hn
  rw [hp t] at hn
  split at hn
  · exact hv n hn
  · exact hk n (hT t n hn)

theorem stepP_sound (hcx : TabOk P cx.tab) (hcmp : CmpsOk P cx.tab) (hcal : CalOk P cal) (pre : Pre P tr ok hdr S h w T a) (hO : ∀ id, ok id → Out tr h.c h'.c id) {ops : Array Oper} {i : Nat} (hi : ops[i]? = some o) {T' : Tm}
    (e : ex (stepP cx cal a.tmps.size ops.toList T o) tr h f = some (T', h', f')) {K : Act → World → Prop} {Q : Exit → Act → World → Prop}
    (hK : ∀ hdr' S' a' w', Left P tr ok hdr S h w a h' T' hdr' S' a' w' → K a' w') : wpOp P ops Q i K a w := by
  obtain ⟨hn, v, hp, hc⟩ := stepP_inv e
  unfold wpOp
  simp only [hi]
  rcases hc with ⟨hwant, e1⟩ | ⟨hnot, rfl, rfl, rfl⟩
  · rw [if_pos (wanted_of pre.tmps hwant)]
    refine .inl (opP_sound hcx hcmp hcal pre hO e1 K Q fun u w' hdr' S' post hv hvi => hK hdr' S' _ w' ⟨post, ?_, pre.tok.puts hp (fun n k => .inl k) hvi, ?_, ?_⟩)
    · have hT' : TReal hdr' S' T a.tmps := fun t => post.vrep (pre.tmps t) (pre.tok t) hO
      exact hT'.puts hp hv hn
    · cases o.dst <;> simp [Act.put]
    · cases o.dst <;> simp [Act.put]
  · rw [unwanted_of pre.tmps hnot]
    simp only [Bool.false_eq_true, if_false]
    refine hK hdr S _ w ⟨Post.refl pre.real pre.ment, pre.tmps.puts hp (.tup [] [] .nil) hn, pre.tok.puts hp (fun n k => .inl k) (fun n hn => by simp [AV.ids, AV.idsL] at hn), ?_, ?_⟩
    · cases o.dst <;> simp [Act.put]
    · cases o.dst <;> simp [Act.put]

theorem Left.pre {hdr' : Nat → Value} {S' : Stb} {T' : Tm} {a' : Act} {w' : World} (l : Left P tr ok hdr S h w a h' T' hdr' S' a' w') : Pre P tr (okn ok h.c h'.c) hdr' S' h' w' T' a' :=
  ⟨l.post.real, l.post.ment, l.tmps, l.tok⟩

theorem Left.trans {hdr1 hdr2 : Nat → Value} {S1 S2 : Stb} {h1 h2 : Hp} {T1 T2 : Tm} {a1 a2 : Act} {w1 w2 : World} (l : Left P tr ok hdr S h w a h1 T1 hdr1 S1 a1 w1) (l2 : Left P tr (okn ok h.c h1.c) hdr1 S1 h1 w1 a1 h2 T2 hdr2 S2 a2 w2) :
    Left P tr ok hdr S h w a h2 T2 hdr2 S2 a2 w2 :=
  ⟨l.post.trans l2.post, l2.tmps, fun t n hn => okn_trans l.post.mono l2.post.mono n (l2.tok t n hn), l2.size.trans l.size, l2.defers.trans l.defers⟩
end
end Go.Proofs.YtmjbedjnojcmfaaDoor.Ex

namespace Go.Proofs.YtmjbedjnojcmfaaDoor.Ex
set_option linter.unusedSectionVars false
section
variable [RT] {P : Program} {cx : Ctx} {cal : FuncId → List AV → Prog AV} {o : Oper} {a : Act} {w : World} {T : Tm} {tr : Bool} {ok : Nat → Prop} {hdr : Nat → Value} {S : Stb} {h h' : Hp} {f f' : Foot} {v : AV}

theorem Out.less {c c1 c' id : Nat} (k : Out tr c c' id) (hm : tr = true → c1 ≤ c') : Out tr c c1 id := by
  rcases k with k | ⟨ht, k⟩
  · exact .inl k
  · exact .inr ⟨ht, Nat.le_trans (hm ht) k⟩

theorem out_okn {c c1 c' : Nat} (k : ∀ id, ok id → Out tr c c' id) (hc : c ≤ c1) (id : Nat) (h : okn ok c c1 id) : Out tr c1 c' id := by
  rcases h with h | ⟨_, h⟩
  · rcases k id h with k | k
    · exact .inl (Nat.lt_of_lt_of_le k hc)
    · exact .inr k
  · exact .inl h

theorem seqP_sound (hcx : TabOk P cx.tab) (hcmp : CmpsOk P cx.tab) (hcal : CalOk P cal) {ops : Array Oper} {Q : Exit → Act → World → Prop} : ∀ (rest : List Oper) (i : Nat) (T : Tm) (a : Act) (w : World) (ok : Nat → Prop) (hdr : Nat → Value) (S : Stb) (h : Hp) (f : Foot) (T' : Tm),
    ops.toList.drop i = rest → ex (seqP cx cal a.tmps.size ops.toList rest T) tr h f = some (T', h', f') → Pre P tr ok hdr S h w T a → (∀ id, ok id → Out tr h.c h'.c id) →
    (∀ hdr' S' a' w', Left P tr ok hdr S h w a h' T' hdr' S' a' w' → Q .normal a' w') → wpOps P ops Q (List.range' i rest.length) a w := by
  intro rest
  induction rest with
  | nil =>
    intro i T a w ok hdr S h f T' _ e pre _ hK
    cases ex_ret e
    exact hK hdr S a w ⟨Post.refl pre.real pre.ment, pre.tmps, fun t n hn => .inl (pre.tok t n hn), rfl, rfl⟩
  | cons o rest ih =>
    intro i T a w ok hdr S h f T' hd e pre hO hK
    obtain ⟨T1, h1, f1, e1, e2⟩ := ex_bind_some e
    have hm : tr = true → h1.c ≤ h'.c := fun ht => by subst ht; exact ex_mono _ _ _ _ e2
    have hi : ops[i]? = some o := by
      have : (ops.toList.drop i)[0]? = some o := by rw [hd]; rfl
      rw [List.getElem?_drop, Nat.add_zero, Array.getElem?_toList] at this
      exact this
    have hd' : ops.toList.drop (i + 1) = rest := by rw [← List.drop_drop, hd]; rfl
    rw [List.length_cons, List.range'_succ, wpOps_cons]
    refine stepP_sound hcx hcmp hcal pre (fun id k => (hO id k).less hm) hi e1 fun hdr1 S1 a1 w1 l1 => ?_
    refine ih (i + 1) T1 a1 w1 _ hdr1 S1 h1 f1 T' hd' (by rw [l1.size]; exact e2) l1.pre (out_okn hO l1.post.mono) fun hdr2 S2 a2 w2 l2 => hK hdr2 S2 a2 w2 (l1.trans l2)

structure Trail (cx : Ctx) (cal : FuncId → List AV → Prog AV) (n : Nat) (ops : List Oper) (c0 : Nat) (Ts : Nat → Tm) (Bs : Nat → List (Nat × Blk)) (cs : Nat → Nat) (fs : Nat → Foot) : Prop where
  step : ∀ j o, ops[j]? = some o → ex (stepP cx cal n ops (Ts j) o) true ⟨Bs j, c0 + j * cx.spn⟩ ⟨[], []⟩ = some (Ts (j + 1), ⟨Bs (j + 1), cs j⟩, fs j)
  top : ∀ j, j < ops.length → cs j ≤ c0 + (j + 1) * cx.spn
  apart : ∀ i j, i < j → j < ops.length → clash (fs i) (fs j) = true → isAhead ops ops.length i j = true

theorem seek_some {α : Type} {n : Nat} {k : Prog α} {r : α × Hp × Foot} (e : ex (.seek n k) tr h f = some r) : h.c ≤ n ∧ ex k tr ⟨h.blks, n⟩ f = some r := by
  have e0 : ex (.seek n k) tr h f = bif leB h.c n then ex k tr ⟨h.blks, n⟩ f else none := by simp only [ex, run]
  rw [e0] at e
  cases hl : leB h.c n <;> rw [hl] at e
  · cases e
  · exact ⟨leB_iff.1 hl, e⟩

theorem trace_some {α β : Type} {p : Prog β} {k : β → Foot → Prog α} {r : α × Hp × Foot} (e : ex (.trace p k) tr h f = some r) :
    ∃ y h1 f1, ex p true h ⟨[], []⟩ = some (y, h1, f1) ∧ ex (k y f1) tr h1 (f1.app f) = some r := by
  have e0 : ex (.trace p k) tr h f = (ex p true h ⟨[], []⟩).bind fun y => ex (k y.1 y.2.2) tr y.2.1 (y.2.2.app f) := by
    simp only [ex, run]
    rw [run_ex]
    rfl
  rw [e0, Option.bind_eq_some_iff] at e
  obtain ⟨⟨y, h1, f1⟩, e1, e2⟩ := e
  exact ⟨y, h1, f1, e1, e2⟩

theorem apartP_some {ops : List Oper} {j : Nat} {x : Foot} : ∀ (l : List Foot) (i : Nat), apartP ops j x i l = true → ∀ k g, l[k]? = some g → clash g x = true → isAhead ops ops.length (i + k) j = true
  | [], _, _, k, g, hk, _ => by simp at hk
  | y :: l, i, e, k, g, hk, hc => by
    simp only [apartP, Bool.and_eq_true] at e
    cases k with
    | zero =>
      simp only [List.getElem?_cons_zero, Option.some.injEq] at hk
      subst hk
      have := e.1
      rw [hc, cond_true] at this
      simpa using this
    | succ k =>
      have := apartP_some l (i + 1) e.2 k g (by simpa using hk) hc
      rwa [show i + 1 + k = i + (k + 1) by omega] at this

theorem trail_of {n : Nat} {ops : List Oper} {c0 : Nat} : ∀ (rest : List Oper) (j : Nat) (past : List Foot) (T : Tm) (h : Hp) (f : Foot) (T' : Tm) (h' : Hp) (f' : Foot), ops.drop j = rest → j + rest.length = ops.length → past.length = j →
    ex (drawP cx cal n ops c0 rest j past T) tr h f = some (T', h', f') →
    ∃ (Ts : Nat → Tm) (Bs : Nat → List (Nat × Blk)) (cs : Nat → Nat) (fs : Nat → Foot), Ts j = T ∧ Bs j = h.blks ∧ h.c ≤ c0 + j * cx.spn ∧ (∀ k o, j ≤ k → ops[k]? = some o → ex (stepP cx cal n ops (Ts k) o) true ⟨Bs k, c0 + k * cx.spn⟩ ⟨[], []⟩ = some (Ts (k + 1), ⟨Bs (k + 1), cs k⟩, fs k)) ∧
      (∀ k, j ≤ k → k < ops.length → cs k ≤ c0 + (k + 1) * cx.spn) ∧ Ts ops.length = T' ∧ Bs ops.length = h'.blks ∧ h'.c = c0 + ops.length * cx.spn ∧
      (∀ k g, past[k]? = some g → fs k = g) ∧ (∀ i k, i < k → j ≤ k → k < ops.length → clash (fs i) (fs k) = true → isAhead ops ops.length i k = true) := by
  intro rest
  induction rest with
  | nil =>
    intro j past T h f T' h' f' hd hl hp e
    obtain ⟨hc, e⟩ := seek_some e
    cases ex_ret e
    simp only [List.length_nil, Nat.add_zero] at hl
    subst hl
    refine ⟨fun _ => T, fun _ => h.blks, fun _ => 0, fun k => past.getD k ⟨[], []⟩, rfl, rfl, hc, fun k o hk ho => ?_, fun k hk hk2 => by omega, rfl, rfl, rfl, fun k g hg => by simp [List.getD, hg], fun i k _ hk hk2 => by omega⟩
    have := (List.getElem?_eq_some_iff.1 ho).1
    omega
  | cons o rest ih =>
    intro j past T h f T' h' f' hd hl hp e
    obtain ⟨hc, e⟩ := seek_some e
    obtain ⟨T1, h1, f1, e1, e2⟩ := trace_some e
    rcases ex_cond e2 with ⟨hap, e3⟩ | ⟨_, e3⟩
    case inr => exact (ex_fail e3).elim
    simp only [List.length_cons] at hl
    have hd' : ops.drop (j + 1) = rest := by rw [← List.drop_drop, hd]; rfl
    have ho : ops[j]? = some o := by
      have : (ops.drop j)[0]? = some o := by rw [hd]; rfl
      rwa [List.getElem?_drop, Nat.add_zero] at this
    obtain ⟨Ts, Bs, cs, fs, k1, k2, k3, k4, k5, k6, k7, k8, k9, k10⟩ := ih (j + 1) (past ++ [f1]) T1 h1 _ T' h' f' hd' (by omega) (by simp [hp]) e3
    have hfj : fs j = f1 := k9 j f1 (by rw [List.getElem?_append_right (by omega)]; simp [hp])
    refine ⟨fun k => if k ≤ j then T else Ts k, fun k => if k ≤ j then h.blks else Bs k, fun k => if k = j then h1.c else cs k, fs, by simp, by simp, hc, fun k o' hk ho' => ?_, fun k hk hk2 => ?_, ?_, ?_, k8, fun k g hg => ?_, fun i k hik hk hk2 hcl => ?_⟩
    · show ex (stepP cx cal n ops (if k ≤ j then T else Ts k) o') true ⟨if k ≤ j then h.blks else Bs k, c0 + k * cx.spn⟩ ⟨[], []⟩ = some (if k + 1 ≤ j then T else Ts (k + 1), ⟨if k + 1 ≤ j then h.blks else Bs (k + 1), if k = j then h1.c else cs k⟩, fs k)
      by_cases hkj : k = j
      · subst hkj
        rw [ho] at ho'
        cases ho'
        rw [if_pos (Nat.le_refl _), if_pos (Nat.le_refl _), if_neg (by omega), if_neg (by omega), if_pos rfl, k1, k2, hfj]
        exact e1
      · have := k4 k o' (by omega) ho'
        rw [if_neg (by omega), if_neg (by omega), if_neg (by omega), if_neg (by omega), if_neg hkj]
        exact this
    · show (if k = j then h1.c else cs k) ≤ _
      by_cases hkj : k = j
      · subst hkj; rw [if_pos rfl]; exact k3
      · rw [if_neg hkj]; exact k5 k (by omega) hk2
    · show (if ops.length ≤ j then T else Ts ops.length) = T'
      rw [if_neg (by omega)]; exact k6
    · show (if ops.length ≤ j then h.blks else Bs ops.length) = h'.blks
      rw [if_neg (by omega)]; exact k7
    · refine k9 k g ?_
      rw [List.getElem?_append_left (List.getElem?_eq_some_iff.1 hg).1]
      exact hg
    · by_cases hkj : k = j
      · subst hkj
        have hpi : past[i]? = some (fs i) := by
          have hlt : i < past.length := by omega
          rw [List.getElem?_eq_getElem hlt]
          congr 1
          exact (k9 i _ (by rw [List.getElem?_append_left hlt, List.getElem?_eq_getElem hlt])).symm
        have := apartP_some past 0 hap i (fs i) hpi (by rw [← hfj]; exact hcl)
        rwa [Nat.zero_add] at this
      · exact k10 i k hik (by omega) hk2 hcl

theorem trail_all {n : Nat} {ops : List Oper} {T' : Tm} {c0 : Nat} (e : ex (drawP cx cal n ops c0 ops 0 [] T) tr h f = some (T', h', f')) :
    ∃ (Ts : Nat → Tm) (Bs : Nat → List (Nat × Blk)) (cs : Nat → Nat) (fs : Nat → Foot), Trail cx cal n ops c0 Ts Bs cs fs ∧ Ts 0 = T ∧ Bs 0 = h.blks ∧ Ts ops.length = T' ∧ Bs ops.length = h'.blks ∧ h'.c = c0 + ops.length * cx.spn := by
  obtain ⟨Ts, Bs, cs, fs, k1, k2, k3, k4, k5, k6, k7, k8, k9, k10⟩ := trail_of ops 0 [] T h f T' h' f' rfl (by simp) rfl e
  exact ⟨Ts, Bs, cs, fs, ⟨fun j o ho => k4 j o (Nat.zero_le _) ho, fun j hj => k5 j (Nat.zero_le _) hj, fun i j hij hj hc => k10 i j hij (Nat.zero_le _) hj hc⟩, k1, k2, k6, k7, k8⟩

def VT (ops : List Oper) (Ts : Nat → Tm) (L : Nat → Bool) : Nat → Nat → AV
  | 0, t => getT (Ts 0) t
  | k + 1, t => if L k = true ∧ dstOf ops k = some t then getT (Ts (k + 1)) t else VT ops Ts L k t

def VB (Bs : Nat → List (Nat × Blk)) (fs : Nat → Foot) (L : Nat → Bool) : Nat → Nat → Option Blk
  | 0, id => findB (Bs 0) id
  | k + 1, id => if L k = true ∧ id ∈ (fs k).wr then findB (Bs (k + 1)) id else VB Bs fs L k id

theorem VT_skip {ops : List Oper} {Ts : Nat → Tm} {L : Nat → Bool} {t : Nat} {m : Nat} : ∀ k, m ≤ k → (∀ i, m ≤ i → i < k → L i = true → dstOf ops i ≠ some t) → VT ops Ts L k t = VT ops Ts L m t := by
  intro k hk
  induction k with
  | zero => intro _; rw [Nat.le_zero.1 hk]
  | succ k ih =>
    intro hno
    by_cases e : m = k + 1
    · rw [e]
    · simp only [VT]
      rw [if_neg (fun c => hno k (by omega) (Nat.lt_succ_self _) c.1 c.2)]
      exact ih (by omega) fun i h1 h2 => hno i h1 (by omega)

theorem VB_skip {Bs : Nat → List (Nat × Blk)} {fs : Nat → Foot} {L : Nat → Bool} {id : Nat} {m : Nat} : ∀ k, m ≤ k → (∀ i, m ≤ i → i < k → L i = true → id ∉ (fs i).wr) → VB Bs fs L k id = VB Bs fs L m id := by
  intro k hk
  induction k with
  | zero => intro _; rw [Nat.le_zero.1 hk]
  | succ k ih =>
    intro hno
    by_cases e : m = k + 1
    · rw [e]
    · simp only [VB]
      rw [if_neg (fun c => hno k (by omega) (Nat.lt_succ_self _) c.1 c.2)]
      exact ih (by omega) fun i h1 h2 => hno i h1 (by omega)

theorem VT_text {ops : List Oper} {Ts : Nat → Tm} {L : Nat → Bool} {t : Nat} (hput : ∀ k, k < ops.length → dstOf ops k ≠ some t → getT (Ts (k + 1)) t = getT (Ts k) t) : ∀ k, k ≤ ops.length → (∀ i, i < k → dstOf ops i = some t → L i = true) → VT ops Ts L k t = getT (Ts k) t := by
  intro k
  induction k with
  | zero => intro _ _; rfl
  | succ k ih =>
    intro hk hL
    simp only [VT]
    by_cases e : dstOf ops k = some t
    · rw [if_pos ⟨hL k (Nat.lt_succ_self _) e, e⟩]
    · rw [if_neg (fun c => e c.2), ih (by omega) fun i hi => hL i (by omega), hput k (by omega) e]

theorem VB_text {ops : List Oper} {Bs : Nat → List (Nat × Blk)} {fs : Nat → Foot} {L : Nat → Bool} {id : Nat} (hput : ∀ k, k < ops.length → id ∉ (fs k).wr → findB (Bs (k + 1)) id = findB (Bs k) id) : ∀ k, k ≤ ops.length → (∀ i, i < k → id ∈ (fs i).wr → L i = true) → VB Bs fs L k id = findB (Bs k) id := by
  intro k
  induction k with
  | zero => intro _ _; rfl
  | succ k ih =>
    intro hk hL
    simp only [VB]
    by_cases e : id ∈ (fs k).wr
    · rw [if_pos ⟨hL k (Nat.lt_succ_self _) e, e⟩]
    · rw [if_neg (fun c => e c.2), ih (by omega) fun i hi => hL i (by omega), hput k (by omega) e]

theorem VT_congr {ops : List Oper} {Ts : Nat → Tm} {L L' : Nat → Bool} {t : Nat} : ∀ k, (∀ i, i < k → dstOf ops i = some t → L i = L' i) → VT ops Ts L k t = VT ops Ts L' k t := by
  intro k
  induction k with
  | zero => intro _; rfl
  | succ k ih =>
    intro hL
    simp only [VT]
    rw [ih fun i hi => hL i (by omega)]
    by_cases e : dstOf ops k = some t
    · rw [hL k (Nat.lt_succ_self _) e]
    · rw [if_neg (fun c => e c.2), if_neg (fun c => e c.2)]

theorem VB_congr {Bs : Nat → List (Nat × Blk)} {fs : Nat → Foot} {L L' : Nat → Bool} {id : Nat} : ∀ k, (∀ i, i < k → id ∈ (fs i).wr → L i = L' i) → VB Bs fs L k id = VB Bs fs L' k id := by
  intro k
  induction k with
  | zero => intro _; rfl
  | succ k ih =>
    intro hL
    simp only [VB]
    rw [ih fun i hi => hL i (by omega)]
    by_cases e : id ∈ (fs k).wr
    · rw [hL k (Nat.lt_succ_self _) e]
    · rw [if_neg (fun c => e c.2), if_neg (fun c => e c.2)]

theorem hasN_iff {l : List Nat} {n : Nat} : hasN l n = true ↔ n ∈ l := by
  induction l with
  | nil => simp [hasN]
  | cons k r ih =>
    show (bif Nat.beq k n then true else hasN r n) = true ↔ _
    by_cases h : k = n
    · subst h; simp
    · simp [nb_ne h, ih, Ne.symm h]

theorem isAhead_in {ops : List Oper} {L : Nat → Bool} {i : Nat} (hcl : ∀ j o, L j = true → ops[j]? = some o → ∀ m ∈ needs o, L m = true) : ∀ (n j : Nat) (o : Oper), ops[j]? = some o → (∀ m ∈ needs o, L m = true) → isAhead ops n i j = true → L i = true := by
  intro n
  induction n with
  | zero => intro j o _ _ e; cases e
  | succ n ih =>
    intro j o ho hn e
    simp only [isAhead, ho, Bool.or_eq_true, List.any_eq_true, Bool.and_eq_true] at e
    rcases e with e | ⟨m, hm, _, e⟩
    · exact hn i (hasN_iff.1 e)
    · cases hom : ops[m]? with
      | none => cases n <;> simp [isAhead, hom] at e
      | some om => exact ih m om hom (fun q hq => hcl m om (hn m hm) hom q hq) e

theorem meet_true {a b : List Nat} {x : Nat} (ha : x ∈ a) (hb : x ∈ b) : meet a b = true := by
  simp only [meet, List.any_eq_true]
  exact ⟨x, ha, hasN_iff.2 hb⟩

theorem tmpsOkAt_some {ops : List Oper} {j : Nat} {y : Oper} : ∀ (l : List Oper) (i : Nat), tmpsOkAt ops j y i l = true → ∀ k x, l[k]? = some x → i + k < j → tmpClash ops x y = true → isAhead ops ops.length (i + k) j = true
  | [], _, _, k, x, hk, _, _ => by simp at hk
  | z :: l, i, e, k, x, hk, hlt, hc => by
    simp only [tmpsOkAt, Bool.and_eq_true] at e
    cases k with
    | zero =>
      simp only [List.getElem?_cons_zero, Option.some.injEq] at hk
      subst hk
      have := e.1
      rw [hc, Bool.and_true, leB_iff.2 (show i + 1 ≤ j by omega), cond_true] at this
      simpa using this
    | succ k =>
      have := tmpsOkAt_some l (i + 1) e.2 k x (by simpa using hk) (by omega) hc
      rwa [show i + 1 + k = i + (k + 1) by omega] at this

theorem tmpsOk_some {ops : List Oper} : ∀ (l : List Oper) (j : Nat), tmpsOk ops j l = true → ∀ k y, l[k]? = some y → tmpsOkAt ops (j + k) y 0 ops = true ∧ (∀ m ∈ needs y, m < j + k)
  | [], _, _, k, y, hk => by simp at hk
  | z :: l, j, e, k, y, hk => by
    simp only [tmpsOk, Bool.and_eq_true, List.all_eq_true] at e
    cases k with
    | zero =>
      simp only [List.getElem?_cons_zero, Option.some.injEq] at hk
      subst hk
      exact ⟨e.1.1, fun m hm => leB_iff.1 (e.1.2 m hm)⟩
    | succ k =>
      have := tmpsOk_some l (j + 1) e.2 k y (by simpa using hk)
      rwa [show j + 1 + k = j + (k + 1) by omega] at this
end
end Go.Proofs.YtmjbedjnojcmfaaDoor.Ex

namespace Go.Proofs.YtmjbedjnojcmfaaDoor.Ex
set_option linter.unusedSectionVars false
section
variable [RT] {P : Program} {cx : Ctx} {cal : FuncId → List AV → Prog AV}

def okD (sp : Nat) (ok : Nat → Prop) (c0 : Nat) (cs : Nat → Nat) (L : Nat → Bool) (id : Nat) : Prop := ok id ∨ ∃ i, L i = true ∧ c0 + i * sp ≤ id ∧ id < cs i

structure RInv (sp : Nat) (tr : Bool) (ok : Nat → Prop) (hdr : Nat → Value) (S : Stb) (h : Hp) (w : World) (a : Act) (ops : List Oper) (Ts : Nat → Tm) (Bs : Nat → List (Nat × Blk)) (cs : Nat → Nat) (fs : Nat → Foot) (L : Nat → Bool)
    (T' : Tm) (B : List (Nat × Blk)) (hdr' : Nat → Value) (S' : Stb) (a' : Act) (w' : World) : Prop where
  tm : TReal hdr' S' T' a'.tmps
  tok : TOk (okD sp ok h.c cs L) T'
  real : HReal hdr' S' B w'
  ment : Ment (okD sp ok h.c cs L) B
  agree : ∀ id, Out tr h.c (h.c + ops.length * sp) id → hdr' id = hdr id
  step : Step h.blks hdr S w B hdr' S' w'
  vt : ∀ t, getT T' t = VT ops Ts L ops.length t
  vb : ∀ id, findB B id = VB Bs fs L ops.length id
  size : a'.tmps.size = a.tmps.size
  defers : a'.defers = a.defers

theorem looks_op {ops : List Oper} {o : Oper} {t : Nat} (h : t ∈ tmpL o.op.operands.toList) : t ∈ looks ops o := List.mem_append_left _ h
theorem looks_guard {ops : List Oper} {o : Oper} {j g : Nat} {want : Bool} (h : o.guard = some (j, want)) (hd : dstOf ops j = some g) : g ∈ looks ops o := by
  unfold looks
  rw [h]
  simp [hd]

section
variable {tr : Bool} {ok : Nat → Prop} {hdr : Nat → Value} {S : Stb} {h : Hp} {w : World} {a : Act} {ops : Array Oper} {Ts : Nat → Tm} {Bs : Nat → List (Nat × Blk)} {cs : Nat → Nat} {fs : Nat → Foot}

theorem rinv_step (hcx : TabOk P cx.tab) (hcmp : CmpsOk P cx.tab) (hcal : CalOk P cal) (tl : Trail cx cal a.tmps.size ops.toList h.c Ts Bs cs fs) (htm : tmpsOk ops.toList 0 ops.toList = true)
    (hO : ∀ id, ok id → Out tr h.c (h.c + ops.toList.length * cx.spn) id) {L : Nat → Bool} {T' : Tm} {B : List (Nat × Blk)} {hdr' : Nat → Value} {S' : Stb} {a' : Act} {w' : World}
    (R : RInv cx.spn tr ok hdr S h w a ops.toList Ts Bs cs fs L T' B hdr' S' a' w') (hL : ∀ i, L i = true → i < ops.toList.length) (hcl : ∀ j o, L j = true → ops.toList[j]? = some o → ∀ m ∈ needs o, L m = true) {j : Nat} {o : Oper} (hj : ops.toList[j]? = some o) (hLj : L j = false) (hn : ∀ m ∈ needs o, L m = true)
    {K : Act → World → Prop} {Q : Exit → Act → World → Prop}
    (hK : ∀ T'' B'' hdr'' S'' a'' w'', RInv cx.spn tr ok hdr S h w a ops.toList Ts Bs cs fs (fun i => L i || decide (i = j)) T'' B'' hdr'' S'' a'' w'' → K a'' w'') : wpOp P ops Q j K a' w' := by
  have hjl : j < ops.toList.length := (List.getElem?_eq_some_iff.1 hj).1
  -- what the trail says of each step
  have hputT : ∀ k, k < ops.toList.length → ∀ t, dstOf ops.toList k ≠ some t → getT (Ts (k + 1)) t = getT (Ts k) t := fun k hk t ht => by
    obtain ⟨_, v, hp, _⟩ := stepP_inv (tl.step k _ (List.getElem?_eq_getElem hk))
    rw [hp t, if_neg]
    intro e
    exact ht (by unfold dstOf; rw [List.getElem?_eq_getElem hk]; exact e)
  have hputB : ∀ k, k < ops.toList.length → ∀ id, id ∉ (fs k).wr → findB (Bs (k + 1)) id = findB (Bs k) id := fun k hk id hid => by
    obtain ⟨fd, e1, l⟩ := run_local _ _ _ _ _ _ (tl.step k _ (List.getElem?_eq_getElem hk))
    have : fs k = fd := by rw [e1]; simp [Foot.app]
    rw [this] at hid
    exact l.keep id hid
  have ahead : ∀ i, i < j → isAhead ops.toList ops.toList.length i j = true → L i = true := fun i _ e => isAhead_in hcl _ j o hj hn e
  have behind : ∀ i, j < i → L i = true → isAhead ops.toList ops.toList.length j i = true → False := fun i hi hLi e => by
    obtain ⟨oi, hoi⟩ : ∃ oi, ops.toList[i]? = some oi := ⟨_, List.getElem?_eq_getElem (hL i hLi)⟩
    have := isAhead_in hcl _ i oi hoi (hcl i oi hLi hoi) e
    rw [hLj] at this; cases this
  have tclash : ∀ i k oi ok', i < k → ops.toList[i]? = some oi → ops.toList[k]? = some ok' → tmpClash ops.toList oi ok' = true → isAhead ops.toList ops.toList.length i k = true := fun i k oi ok' hik hi hk hc => by
    have h1 := (tmpsOk_some _ 0 htm k ok' hk).1
    rw [Nat.zero_add] at h1
    have := tmpsOkAt_some _ 0 h1 i oi hi (by omega) hc
    rwa [Nat.zero_add] at this
  have dst_of : ∀ i t, dstOf ops.toList i = some t → ∃ oi, ops.toList[i]? = some oi ∧ oi.dst = some t := fun i t e => by
    unfold dstOf at e
    rw [Option.bind_eq_some_iff] at e
    exact e
  -- the slots that it looks at are aZs they were in the text's order
  have hlook : ∀ t ∈ looks ops.toList o, getT T' t = getT (Ts j) t := fun t ht => by
    have q1 : VT ops.toList Ts L ops.toList.length t = VT ops.toList Ts L j t := VT_skip _ (by omega) fun i h1 h2 hLi hd => by
      by_cases e : i = j
      · subst e; rw [hLj] at hLi; cases hLi
      · obtain ⟨oi, hoi, hdi⟩ := dst_of i t hd
        refine behind i (by omega) hLi (tclash j i o oi (by omega) hj hoi ?_)
        simp only [tmpClash, hdi, hasO, hasN_iff.2 ht, Bool.or_true, Bool.true_or]
    have q2 : VT ops.toList Ts L j t = getT (Ts j) t := VT_text (fun k hk hd => hputT k hk t hd) j (by omega) fun i hi hd => by
      obtain ⟨oi, hoi, hdi⟩ := dst_of i t hd
      refine ahead i hi (tclash i j oi o hi hoi hj ?_)
      simp only [tmpClash, hdi, hasO, hasN_iff.2 ht, Bool.true_or]
    rw [R.vt t, q1, q2]
  have hstep := tl.step j o hj
  obtain ⟨fd, efd, loc⟩ := run_local _ _ _ _ _ _ hstep
  have hfd : fs j = fd := by rw [efd]; simp [Foot.app]
  -- so are the blocks
  have hblk : ∀ id, id ∈ (fs j).rd ∨ id ∈ (fs j).wr → findB B id = findB (Bs j) id := fun id hid => by
    have q1 : VB Bs fs L ops.toList.length id = VB Bs fs L j id := VB_skip _ (by omega) fun i h1 h2 hLi hw => by
      by_cases e : i = j
      · subst e; rw [hLj] at hLi; cases hLi
      · refine behind i (by omega) hLi (tl.apart j i (by omega) h2 ?_)
        simp only [clash, Bool.or_eq_true]
        exact hid.elim (fun k => .inl (.inr (meet_true k hw))) (fun k => .inr (meet_true k hw))
    have q2 : VB Bs fs L j id = findB (Bs j) id := VB_text (ops := ops.toList) (fun k hk hw => hputB k hk id hw) j (by omega) fun i hi hw => by
      refine ahead i hi (tl.apart i j hi hjl ?_)
      simp only [clash, Bool.or_eq_true]
      exact hid.elim (fun k => .inl (.inl (meet_true hw k))) (fun k => .inr (meet_true hw k))
    rw [R.vb id, q1, q2]
  have htop := tl.top j hjl
  have hmul : (j + 1) * cx.spn ≤ ops.toList.length * cx.spn := Nat.mul_le_mul_right _ (by omega)
  have hsucc : (j + 1) * cx.spn = j * cx.spn + cx.spn := Nat.succ_mul j cx.spn
  have outJ : ∀ id, Out tr h.c (h.c + ops.toList.length * cx.spn) id → Out true (h.c + j * cx.spn) (cs j) id := fun id k => by
    rcases k with k | ⟨_, k⟩
    · exact .inl (by omega)
    · exact .inr ⟨rfl, by omega⟩
  have hOD : ∀ id, okD cx.spn ok h.c cs L id → Out true (h.c + j * cx.spn) (cs j) id := fun id k => by
    rcases k with k | ⟨i, hi, k1, k2⟩
    · exact outJ id (hO id k)
    · have hil := hL i hi
      have hti := tl.top i hil
      rcases Nat.lt_trichotomy i j with c | c | c
      · have : (i + 1) * cx.spn ≤ j * cx.spn := Nat.mul_le_mul_right _ c
        exact .inl (by omega)
      · subst c; rw [hLj] at hi; cases hi
      · have : (j + 1) * cx.spn ≤ i * cx.spn := Nat.mul_le_mul_right _ c
        exact .inr ⟨rfl, by omega⟩
  obtain ⟨hin, v, hp, hc⟩ := stepP_inv hstep
  have hcongr : opP cx cal (Ts j) o = opP cx cal T' o := opP_congr fun t ht => (hlook t (looks_op ht)).symm
  have hj' : ops[j]? = some o := by simpa using hj
  have dstj : dstOf ops.toList j = o.dst := by simp [dstOf, hj]
  -- what is known behind it
  have fin : ∀ (u : Value) (w'' : World) (hdr'' : Nat → Value) (S'' : Stb) (B'' : List (Nat × Blk)), Post true (okD cx.spn ok h.c cs L) hdr' S' ⟨B, h.c + j * cx.spn⟩ w' hdr'' S'' ⟨B'', cs j⟩ w'' → VRep hdr'' S'' v u → (∀ n ∈ v.ids, okn (okD cx.spn ok h.c cs L) (h.c + j * cx.spn) (cs j) n) →
      (∀ id, id ∈ (fs j).wr → findB B'' id = findB (Bs (j + 1)) id) → (∀ id, id ∉ (fs j).wr → findB B'' id = findB B id) → K (a'.put o.dst u) w'' := by
    intro u w'' hdr'' S'' B'' post hv hvi hb1 hb2
    have okL : ∀ n, okn (okD cx.spn ok h.c cs L) (h.c + j * cx.spn) (cs j) n → okD cx.spn ok h.c cs (fun i => L i || decide (i = j)) n := fun n k => by
      rcases k with (k | ⟨i, k1, k2⟩) | k
      · exact .inl k
      · exact .inr ⟨i, by simp [k1], k2⟩
      · exact .inr ⟨j, by simp, k⟩
    refine hK (putT T' o.dst v) B'' hdr'' S'' _ w'' ⟨?_, ?_, post.real, post.ment.mono okL, fun id k => ?_, R.step.trans post.step, fun t => ?_, fun id => ?_, ?_, ?_⟩
    · have hT' : TReal hdr'' S'' T' a'.tmps := fun t => post.vrep (R.tm t) (R.tok t) hOD
      exact hT'.puts (puts_put T' o.dst v) hv (by rw [R.size]; exact hin)
    · exact R.tok.puts (puts_put T' o.dst v) (fun n k => okL n (.inl k)) (fun n k => okL n (hvi n k))
    · rw [post.agree id (outJ id k), R.agree id k]
    · rw [puts_put T' o.dst v t]
      by_cases e : o.dst = some t
      · have q1 : VT ops.toList Ts (fun i => L i || decide (i = j)) ops.toList.length t = VT ops.toList Ts (fun i => L i || decide (i = j)) (j + 1) t := VT_skip _ (by omega) fun i h1 h2 hLi hd => by
          obtain ⟨oi, hoi, hdi⟩ := dst_of i t hd
          have hLi' : L i = true := by simpa [show i ≠ j by omega] using hLi
          refine behind i (by omega) hLi' (tclash j i o oi (by omega) hj hoi ?_)
          have : hasN oi.dst.toList t = true := hasN_iff.2 (by simp [hdi])
          simp only [tmpClash, e, hasO, this, Bool.or_true]
        rw [if_pos e, q1]
        simp only [VT]
        rw [if_pos ⟨by simp, by rw [dstj, e]⟩, hp t, if_pos e]
      · rw [if_neg e, R.vt t]
        refine VT_congr _ fun i _ hd => ?_
        have : i ≠ j := fun c => by subst c; rw [dstj] at hd; exact e hd
        simp [this]
    · by_cases e : id ∈ (fs j).wr
      · have q1 : VB Bs fs (fun i => L i || decide (i = j)) ops.toList.length id = VB Bs fs (fun i => L i || decide (i = j)) (j + 1) id := VB_skip _ (by omega) fun i h1 h2 hLi hw => by
          have hLi' : L i = true := by simpa [show i ≠ j by omega] using hLi
          refine behind i (by omega) hLi' (tl.apart j i (by omega) h2 ?_)
          simp only [clash, Bool.or_eq_true]
          exact .inr (meet_true e hw)
        rw [hb1 id e, q1]
        simp only [VB]
        rw [if_pos ⟨by simp, e⟩]
      · rw [hb2 id e, R.vb id]
        refine VB_congr _ fun i _ hw => ?_
        have : i ≠ j := fun c => by subst c; exact e hw
        simp [this]
    · rw [← R.size]; cases o.dst <;> simp [Act.put]
    · rw [← R.defers]; cases o.dst <;> simp [Act.put]
  unfold wpOp
  simp only [hj']
  rcases hc with ⟨hwant, e1⟩ | ⟨hnot, rfl, e1, e2⟩
  · have hwant' : WantA ops.toList T' o := by
      rcases hwant with k | ⟨m, want, g, k1, k2, k3⟩
      · exact .inl k
      · exact .inr ⟨m, want, g, k1, k2, by rw [hlook g (looks_guard k1 k2)]; exact k3⟩
    rw [if_pos (wanted_of R.tm hwant')]
    rw [hcongr] at e1
    obtain ⟨fd2, efd2, loc2⟩ := run_local _ _ _ _ _ _ e1
    have hfd2 : fs j = fd2 := by rw [efd2]; simp [Foot.app]
    obtain ⟨h2', k1, k2, k3, k4⟩ := loc2.other ⟨B, h.c + j * cx.spn⟩ rfl (fun id hid => hblk id (by rw [hfd2]; exact hid))
    have k1 := k1 ⟨[], []⟩
    have hh2 : h2' = ⟨h2'.blks, cs j⟩ := by rw [← show h2'.c = cs j from k2]
    rw [hh2] at k1
    refine .inl (opP_sound hcx hcmp hcal ⟨R.real, R.ment, R.tm, R.tok⟩ hOD k1 K Q fun u w'' hdr'' S'' post hv hvi => fin u w'' hdr'' S'' h2'.blks post hv hvi (fun id hid => k3 id (by rw [← hfd2]; exact hid)) (fun id hid => k4 id (by rw [← hfd2]; exact hid)))
  · have hnot' : NotA ops.toList T' o := by
      obtain ⟨m, want, g, k1, k2, k3⟩ := hnot
      exact ⟨m, want, g, k1, k2, by rw [hlook g (looks_guard k1 k2)]; exact k3⟩
    rw [unwanted_of R.tm hnot']
    simp only [Bool.false_eq_true, if_false]
    have hB : Bs (j + 1) = Bs j := congrArg Hp.blks e1
    have hcj : cs j = h.c + j * cx.spn := congrArg Hp.c e1
    have hw0 : (fs j).wr = [] := by rw [e2]
    refine fin undef w' hdr' S' B ?_ (.tup [] [] .nil) (fun n hn => by simp [AV.ids, AV.idsL] at hn) (fun id hid => by rw [hw0] at hid; cases hid) (fun _ _ => rfl)
    rw [hcj]
    exact Post.refl R.real R.ment
end
end
end Go.Proofs.YtmjbedjnojcmfaaDoor.Ex

namespace Go.Proofs.YtmjbedjnojcmfaaDoor.Ex
set_option linter.unusedSectionVars false
section
variable [RT] {P : Program} {cx : Ctx} {cal : FuncId → List AV → Prog AV}
variable {tr : Bool} {ok : Nat → Prop} {hdr : Nat → Value} {S : Stb} {h h' : Hp} {f f' : Foot} {w : World} {a : Act} {T : Tm} {ops : Array Oper} {Ts : Nat → Tm} {Bs : Nat → List (Nat × Blk)} {cs : Nat → Nat} {fs : Nat → Foot}

def Lof (listed : Array Bool) (i : Nat) : Bool := listed.getD i false

theorem Lof_lt {listed : Array Bool} (hs : listed.size = ops.size) : ∀ i, Lof listed i = true → i < ops.toList.length := fun i hi => by
  unfold Lof at hi
  rcases Nat.lt_or_ge i listed.size with k | k
  · simpa [hs] using k
  · rw [Array.getD_eq_getD_getElem?, Array.getElem?_eq_none k] at hi
    cases hi

theorem all_listed {listed : Array Bool} (hs : listed.size = ops.size) (htm : tmpsOk ops.toList 0 ops.toList = true) (hr : Region.ready .any ops listed = []) : ∀ i, i < ops.size → Lof listed i = true := by
  intro i
  induction i using Nat.strongRecOn with
  | _ i ih =>
    intro hi
    cases hl : Lof listed i with
    | true => rfl
    | false =>
      exfalso
      have hmem : i ∈ Region.ready .any ops listed := by
        refine mem_ready.2 ⟨?_, ops[i], Array.getElem?_eq_getElem hi, fun e he hb => ?_⟩
        · unfold Lof at hl
          rw [Array.getD_eq_getD_getElem?, Array.getElem?_eq_getElem (by omega)] at hl ⊢
          exact hl
        · have hn : e.on ∈ needs ops[i] := by
            unfold needs
            rw [List.mem_map]
            exact ⟨e, by rw [List.mem_filter]; exact ⟨by simpa using he, hb⟩, rfl⟩
          have := (tmpsOk_some _ 0 htm i ops[i] (by simp [hi])).2 e.on hn
          exact ih e.on (by omega) (by omega)
      rw [hr] at hmem
      cases hmem

theorem HReal.congrF {hdr : Nat → Value} {S : Stb} {b b' : List (Nat × Blk)} {w : World} (hr : HReal hdr S b w) (he : ∀ id, findB b' id = findB b id) : HReal hdr S b' w :=
  ⟨fun id x hf => hr.blk id x (by rw [← he]; exact hf), fun i j x y n hij hi hj => hr.sep i j x y n hij (by rw [← he]; exact hi) (by rw [← he]; exact hj), fun i x n hi => hr.stb i x n (by rw [← he]; exact hi), hr.mem⟩

theorem own_congrF {hdr : Nat → Value} {b b' : List (Nat × Blk)} (he : ∀ id, findB b' id = findB b id) {n : Nat} (k : own b' hdr n) : own b hdr n := by
  obtain ⟨id, x, hf, hb⟩ := k
  exact ⟨id, x, by rw [← he]; exact hf, hb⟩

def unl (listed : Array Bool) : Nat := (listed.toList.filter (!·)).length

theorem unl_set {listed : Array Bool} {j : Nat} (hj : j < listed.size) (hl : listed.getD j true = false) : unl (listed.setIfInBounds j true) + 1 = unl listed := by
  have key : ∀ (l : List Bool) (j : Nat) (hj : j < l.length), l[j] = false → ((l.set j true).filter (!·)).length + 1 = (l.filter (!·)).length := by
    intro l
    induction l with
    | nil => intro j hj; simp at hj
    | cons x l ih =>
      intro j hj he
      cases j with
      | zero => simp only [List.getElem_cons_zero] at he; subst he; simp
      | succ j =>
        simp only [List.getElem_cons_succ] at he
        have := ih j (by simpa using hj) he
        simp only [List.set_cons_succ, List.filter_cons]
        split
        · simp only [List.length_cons]; omega
        · exact this
  unfold unl
  rw [Array.toList_setIfInBounds]
  refine key listed.toList j (by simpa using hj) ?_
  rw [Array.getD_eq_getD_getElem?, Array.getElem?_eq_getElem hj] at hl
  simpa using hl

theorem unl_zero {listed : Array Bool} (h0 : unl listed = 0) (i : Nat) (hi : i < listed.size) : Lof listed i = true := by
  unfold unl at h0
  have := List.length_eq_zero_iff.1 h0
  rw [List.filter_eq_nil_iff] at this
  have h1 := this listed[i] (by simp)
  unfold Lof
  rw [Array.getD_eq_getD_getElem?, Array.getElem?_eq_getElem hi]
  simpa using h1

theorem getD_set_self {listed : Array Bool} {j : Nat} (hj : j < listed.size) : (listed.setIfInBounds j true).getD j false = true := by
  rw [Array.getD_eq_getD_getElem?, Array.getElem?_setIfInBounds_self_of_lt hj]
  rfl

theorem draw_any (hcx : TabOk P cx.tab) (hcmp : CmpsOk P cx.tab) (hcal : CalOk P cal) (tl : Trail cx cal a.tmps.size ops.toList h.c Ts Bs cs fs) (htm : tmpsOk ops.toList 0 ops.toList = true)
    (hO : ∀ id, ok id → Out tr h.c (h.c + ops.toList.length * cx.spn) id) {Q : Exit → Act → World → Prop}
    (hQ : ∀ L T' B hdr' S' a' w', (∀ i, i < ops.toList.length → L i = true) → (∀ i, L i = true → i < ops.toList.length) → RInv cx.spn tr ok hdr S h w a ops.toList Ts Bs cs fs L T' B hdr' S' a' w' → Q .normal a' w') :
    ∀ (fuel : Nat) (listed : Array Bool) (T' : Tm) (B : List (Nat × Blk)) (hdr' : Nat → Value) (S' : Stb) (a' : Act) (w' : World), listed.size = ops.size → unl listed = fuel → (∀ j o, Lof listed j = true → ops.toList[j]? = some o → ∀ m ∈ needs o, Lof listed m = true) →
      RInv cx.spn tr ok hdr S h w a ops.toList Ts Bs cs fs (Lof listed) T' B hdr' S' a' w' → wpAny P .any ops Q fuel listed a' w' := by
  intro fuel
  induction fuel with
  | zero =>
    intro listed T' B hdr' S' a' w' hs hu hcl R
    have hall : ∀ i, i < ops.toList.length → Lof listed i = true := fun i hi => unl_zero hu i (by rw [hs]; simpa using hi)
    refine ⟨?_, hQ _ _ _ _ _ _ _ hall (Lof_lt hs) R⟩
    rw [List.eq_nil_iff_forall_not_mem]
    intro j hj
    obtain ⟨hj0, o, ho, _⟩ := mem_ready.1 hj
    have hjl : j < ops.size := (Array.getElem?_eq_some_iff.1 ho).1
    have := hall j (by simpa using hjl)
    unfold Lof at this
    rw [Array.getD_eq_getD_getElem?, Array.getElem?_eq_getElem (by omega)] at this hj0
    simp only [Option.getD_some] at this hj0
    rw [this] at hj0
    cases hj0
  | succ fuel ih =>
    intro listed T' B hdr' S' a' w' hs hu hcl R
    refine ⟨fun hr => hQ _ _ _ _ _ _ _ (fun i hi => all_listed hs htm hr i (by simpa using hi)) (Lof_lt hs) R, fun j hj => ?_⟩
    obtain ⟨hj0, o, ho, hbef⟩ := mem_ready.1 hj
    have hjl : j < ops.size := (Array.getElem?_eq_some_iff.1 ho).1
    have hjs : j < listed.size := by omega
    have hLj : Lof listed j = false := by
      unfold Lof
      rw [Array.getD_eq_getD_getElem?, Array.getElem?_eq_getElem hjs] at hj0 ⊢
      exact hj0
    have hn : ∀ m ∈ needs o, Lof listed m = true := fun m hm => by
      unfold needs at hm
      rw [List.mem_map] at hm
      obtain ⟨e, he, rfl⟩ := hm
      rw [List.mem_filter] at he
      exact hbef e (by simpa using he.1) he.2
    have hL' : ∀ i, Lof (listed.setIfInBounds j true) i = (Lof listed i || decide (i = j)) := fun i => by
      unfold Lof
      by_cases e : i = j
      · subst e
        rw [getD_set_self hjs]; simp
      · rw [getD_set_ne false (Ne.symm e)]; simp [e]
    refine rinv_step hcx hcmp hcal tl htm hO R (Lof_lt hs) hcl (by simpa using ho) hLj hn fun T'' B'' hdr'' S'' a'' w'' R' => ?_
    have hfun : (fun i => Lof listed i || decide (i = j)) = Lof (listed.setIfInBounds j true) := funext fun i => (hL' i).symm
    rw [hfun] at R'
    refine ih _ T'' B'' hdr'' S'' a'' w'' (by simp [hs]) (by have := unl_set hjs hj0; omega) (fun q oq hq hoq m hm => ?_) R'
    rw [hL'] at hq ⊢
    simp only [Bool.or_eq_true, decide_eq_true_eq] at hq ⊢
    rcases hq with hq | rfl
    · exact .inl (hcl q oq hq hoq m hm)
    · have : oq = o := by
        have h1 : ops.toList[q]? = some o := by simpa using ho
        rw [h1] at hoq; cases hoq; rfl
      subst this
      exact .inl (hn m hm)
end
end Go.Proofs.YtmjbedjnojcmfaaDoor.Ex

namespace Go.Proofs.YtmjbedjnojcmfaaDoor.Ex
set_option linter.unusedSectionVars false
section
variable [RT] {P : Program} {cx : Ctx} {cal : FuncId → List AV → Prog AV}
variable {tr : Bool} {ok : Nat → Prop} {hdr : Nat → Value} {S : Stb} {h h' : Hp} {f f' : Foot} {w : World} {a : Act} {T : Tm}

theorem drawP_sound (hcx : TabOk P cx.tab) (hcmp : CmpsOk P cx.tab) (hcal : CalOk P cal) (hmd : P.follows .mixedOrders = true) {id : Nat} {ops : Array Oper} (pre : Pre P tr ok hdr S h w T a) (htm : tmpsOk ops.toList 0 ops.toList = true) {T' : Tm}
    (e : ex (drawP cx cal a.tmps.size ops.toList h.c ops.toList 0 [] T) tr h f = some (T', h', f')) (hO : ∀ id, ok id → Out tr h.c h'.c id) {Q : Exit → Act → World → Prop}
    (hK : ∀ hdr' S' a' w', Left P tr ok hdr S h w a h' T' hdr' S' a' w' → Q .normal a' w') : (Code.region id ops true).wp P Q a w := by
  obtain ⟨Ts, Bs, cs, fs, tl, t0, b0, tn, bn, hc⟩ := trail_all e
  have hcn : h'.c = h.c + ops.toList.length * cx.spn := hc
  rw [hcn] at hO
  have hputT : ∀ k, k < ops.toList.length → ∀ t, dstOf ops.toList k ≠ some t → getT (Ts (k + 1)) t = getT (Ts k) t := fun k hk t ht => by
    obtain ⟨_, v, hp, _⟩ := stepP_inv (tl.step k _ (List.getElem?_eq_getElem hk))
    rw [hp t, if_neg]
    intro e
    exact ht (by unfold dstOf; rw [List.getElem?_eq_getElem hk]; exact e)
  have hputB : ∀ k, k < ops.toList.length → ∀ id, id ∉ (fs k).wr → findB (Bs (k + 1)) id = findB (Bs k) id := fun k hk id hid => by
    obtain ⟨fd, e1, l⟩ := run_local _ _ _ _ _ _ (tl.step k _ (List.getElem?_eq_getElem hk))
    have : fs k = fd := by rw [e1]; simp [Foot.app]
    rw [this] at hid
    exact l.keep id hid
  refine wp_region_any hmd ?_
  refine draw_any (w := w) (hdr := hdr) (S := S) hcx hcmp hcal tl htm hO (fun L T1 B hdr' S' a' w' hL hlt R => ?_) ops.size (Array.replicate ops.size false) T h.blks hdr S a w.drew (by simp) (by simp [unl, List.filter_eq_self.2]) (fun j o hj => ?_) ?_
  · -- in the end
    have hblk : ∀ id, findB h'.blks id = findB B id := fun id => by
      rw [R.vb id, VB_text (ops := ops.toList) (fun k hk hw => hputB k hk id hw) _ (Nat.le_refl _) fun i hi _ => hL i hi, bn]
    have htm' : ∀ t, getT T' t = getT T1 t := fun t => by
      rw [R.vt t, VT_text (fun k hk hd => hputT k hk t hd) _ (Nat.le_refl _) fun i hi _ => hL i hi, tn]
    have hok : ∀ n, okD cx.spn ok h.c cs L n → okn ok h.c h'.c n := fun n k => by
      rcases k with k | ⟨i, hi, k1, k2⟩
      · exact .inl k
      · rcases Nat.lt_or_ge i ops.toList.length with hil | hil
        · have h1 := tl.top i hil
          have h2 : (i + 1) * cx.spn ≤ ops.toList.length * cx.spn := Nat.mul_le_mul_right _ hil
          exact .inr ⟨by omega, by rw [hcn]; omega⟩
        · have := hlt i hi
          omega
    refine hK hdr' S' a' w' ⟨⟨by rw [hcn]; exact Nat.le_add_right _ _, fun id k => R.agree id (by rw [hcn] at k; exact k), R.real.congrF hblk, ?_, fun id b hf => ?_⟩, fun t => ?_, fun t n hn => ?_, R.size, R.defers⟩
    · have s := R.step
      exact ⟨s.os, s.tape, s.output, s.size, s.frame, fun n k => s.own' n (own_congrF hblk k), s.sle, s.snew⟩
    · rw [hblk] at hf
      have := R.ment id b hf
      exact ⟨hok _ this.1, fun n hn => hok _ (this.2 n hn)⟩
    · rw [htm' t]; exact R.tm t
    · rw [htm' t] at hn
      exact hok n (R.tok t n hn)
  · exfalso
    unfold Lof at hj
    rw [Array.getD_eq_getD_getElem?, Array.getElem?_replicate] at hj
    split at hj <;> simp at hj
  · have hnone : ∀ i, Lof (Array.replicate ops.size false) i = false := fun i => by
      unfold Lof
      rw [Array.getD_eq_getD_getElem?, Array.getElem?_replicate]
      split <;> rfl
    refine ⟨pre.tmps, fun t n hn => .inl (pre.tok t n hn), pre.real.drew, pre.ment.mono fun n k => .inl k, fun _ _ => rfl, ⟨rfl, rfl, rfl, Nat.le_refl _, fun _ _ _ => rfl, fun _ k => .inl k, fun _ _ k => k, fun _ _ k => .inl k⟩, fun t => ?_, fun id => ?_, rfl, rfl⟩
    · have : ∀ k, VT ops.toList Ts (Lof (Array.replicate ops.size false)) k t = getT (Ts 0) t := fun k => by
        induction k with
        | zero => rfl
        | succ k ih => simp only [VT, hnone, Bool.false_eq_true, false_and, if_false, ih]
      rw [this, t0]
    · have : ∀ k, VB Bs fs (Lof (Array.replicate ops.size false)) k id = findB (Bs 0) id := fun k => by
        induction k with
        | zero => rfl
        | succ k ih => simp only [VB, hnone, Bool.false_eq_true, false_and, if_false, ih]
      rw [this, b0]
end
end Go.Proofs.YtmjbedjnojcmfaaDoor.Ex

namespace Go.Proofs.YtmjbedjnojcmfaaDoor.Ex
set_option linter.unusedSectionVars false

def exitOf : Nat → Exit
  | 0 => .normal
  | 1 => .ret
  | n + 2 => .exit n

def SoundC [RT] (P : Program) (n : Nat) (c : Code) (p : Nat → Tm → Prog (Nat × Tm)) : Prop :=
  ∀ (tr : Bool) (ok : Nat → Prop) (hdr0 : Nat → Value) (S0 : Stb) (h0 : Hp) (w0 : World) (a0 : Act) (h : Hp) (T : Tm) (hdr : Nat → Value) (S : Stb) (a : Act) (w : World) (f : Foot) (e : Nat) (T' : Tm) (h' : Hp) (f' : Foot) (Q : Exit → Act → World → Prop),
    Left P tr ok hdr0 S0 h0 w0 a0 h T hdr S a w → a0.tmps.size = n → ex (p h0.c T) tr h f = some ((e, T'), h', f') → (∀ id, ok id → Out tr h0.c h'.c id) →
    (∀ hdr' S' a' w', Left P tr ok hdr0 S0 h0 w0 a0 h' T' hdr' S' a' w' → Q (exitOf e) a' w') → c.wp P Q a w

def loopsOf : Nat → Code → List (Nat × Code)
  | b, .seq x y => loopsOf b x ++ loopsOf b y
  | b, .cond _ x y => loopsOf b x ++ loopsOf b y
  | _, .block id x => loopsOf id x
  | b, .loop x => (b, x) :: loopsOf b x
  | _, _ => []

section
variable [RT] {P : Program} {cx : Ctx} {cal : FuncId → List AV → Prog AV}
variable {tr : Bool} {ok : Nat → Prop} {hdr hdr0 : Nat → Value} {S S0 : Stb} {h h' h0 : Hp} {f f' : Foot} {w w0 : World} {a a0 : Act} {T : Tm}

theorem getT_look (T : Tm) (t : Nat) : ∀ l : List Nat, getT (lookT T l) t = getT T t ∨ getT (lookT T l) t = .undef
  | [] => .inr rfl
  | k :: l => by
    rw [lookT, getT_cons]
    by_cases e : k = t
    · rw [if_pos e, e]; exact .inl rfl
    · rw [if_neg e]; exact getT_look T t l

theorem Left.look {T' : Tm} {hdr' : Nat → Value} {S' : Stb} {a' : Act} {w' : World} (l : Left P tr ok hdr S h w a h' T' hdr' S' a' w') (keep : List Nat) : Left P tr ok hdr S h w a h' (lookT T' keep) hdr' S' a' w' := by
  refine ⟨l.post, fun t => ?_, fun t n hn => ?_, l.size, l.defers⟩
  · rcases getT_look T' t keep with e | e
    · rw [e]; exact l.tmps t
    · rw [e]; exact .undef _
  · rcases getT_look T' t keep with e | e
    · rw [e] at hn; exact l.tok t n hn
    · rw [e] at hn; simp [AV.ids] at hn

theorem Left.same {T' T'' : Tm} {hdr' : Nat → Value} {S' : Stb} {a' : Act} {w' : World} (l : Left P tr ok hdr S h w a h' T' hdr' S' a' w') (hs : ∀ t, getT T'' t = getT T' t) : Left P tr ok hdr S h w a h' T'' hdr' S' a' w' :=
  ⟨l.post, fun t => by rw [hs]; exact l.tmps t, fun t n hn => l.tok t n (by rw [← hs]; exact hn), l.size, l.defers⟩

theorem evC_mono {α : Type} {p : Prog α} {r : α × Hp × Foot} (e : ex p tr h f = some r) (ht : tr = true) : h.c ≤ r.2.1.c := by
  subst ht; exact ex_mono _ _ _ _ e

theorem evC_sound (hcx : TabOk P cx.tab) (hcmp : CmpsOk P cx.tab) (hcal : CalOk P cal) (hmd : P.follows .mixedOrders = true) {fx : Fx} :
    ∀ (c : Code) (b : Nat), (∀ q ∈ loopsOf b c, ∀ p, cx.lps fx.id q.1 = some p → SoundC P fx.n (.loop q.2) p) →
      ∀ (h : Hp) (T : Tm) (hdr : Nat → Value) (S : Stb) (a : Act) (w : World) (f : Foot) (e : Nat) (T' : Tm) (h' : Hp) (f' : Foot) (Q : Exit → Act → World → Prop),
      fx.base = h0.c → a0.tmps.size = fx.n → Left P tr ok hdr0 S0 h0 w0 a0 h T hdr S a w → ex (evC cx cal fx b c T) tr h f = some ((e, T'), h', f') → (∀ id, ok id → Out tr h0.c h'.c id) →
      (∀ hdr' S' a' w', Left P tr ok hdr0 S0 h0 w0 a0 h' T' hdr' S' a' w' → Q (exitOf e) a' w') → c.wp P Q a w := by
  intro c
  induction c with
  | skip =>
    intro b _ h T hdr S a w f e T' h' f' Q _ _ l ev hO hK
    simp only [evC] at ev
    cases ex_ret ev
    exact wp_skip (hK _ _ _ _ l)
  | region id ops d =>
    intro b _ h T hdr S a w f e T' h' f' Q hb hn l ev hO hK
    simp only [evC] at ev
    obtain ⟨T1, h1, f1, e1, e2⟩ := ex_bind_some ev
    cases ex_ret e2
    have hsz : a.tmps.size = fx.n := l.size.trans hn
    cases d with
    | false =>
      simp only [cond_false] at e1
      have := seqP_sound (ops := ops) (Q := Q) hcx hcmp hcal ops.toList 0 T a w _ hdr S h f T1 (by simp) (by rw [hsz]; exact e1) l.pre (out_okn hO l.post.mono) fun hdr' S' a' w' l' => hK hdr' S' a' w' ((l.trans l').look fx.keep)
      refine wp_region ?_
      rw [List.range_eq_range']
      simpa using this
    | true =>
      simp only [cond_true] at e1
      rcases ex_cond e1 with ⟨htm, e1⟩ | ⟨_, e1⟩
      · have e3 : ex (drawP cx cal a.tmps.size ops.toList h.c ops.toList 0 [] T) tr h f = some (T1, h', f') := by rw [hsz]; exact e1
        exact drawP_sound hcx hcmp hcal hmd l.pre htm e3 (out_okn hO l.post.mono) fun hdr' S' a' w' l' => hK hdr' S' a' w' ((l.trans l').look fx.keep)
      · exact (ex_fail e1).elim
  | seq x y ihx ihy =>
    intro b hl h T hdr S a w f e T' h' f' Q hb hn l ev hO hK
    simp only [evC] at ev
    obtain ⟨⟨e1, T1⟩, h1, f1, ev1, ev2⟩ := ex_bind_some ev
    have hlx : ∀ q ∈ loopsOf b x, ∀ p, cx.lps fx.id q.1 = some p → SoundC P fx.n (.loop q.2) p := fun q hq => hl q (by simp only [loopsOf, List.mem_append]; exact .inl hq)
    have hly : ∀ q ∈ loopsOf b y, ∀ p, cx.lps fx.id q.1 = some p → SoundC P fx.n (.loop q.2) p := fun q hq => hl q (by simp only [loopsOf, List.mem_append]; exact .inr hq)
    have hm : tr = true → h1.c ≤ h'.c := fun ht => evC_mono ev2 ht
    refine wp_seq ?_
    refine ihx b hlx h T hdr S a w f e1 T1 h1 f1 _ hb hn l ev1 (fun id k => (hO id k).less hm) fun hdr1 S1 a1 w1 l1 => ?_
    match e1, ev2 with
    | 0, ev2 => exact ihy b hly h1 T1 hdr1 S1 a1 w1 f1 e T' h' f' Q hb hn l1 ev2 hO hK
    | 1, ev2 => cases ex_ret ev2; exact hK _ _ _ _ l1
    | n + 2, ev2 => cases ex_ret ev2; exact hK _ _ _ _ l1
  | cond c x y ihx ihy =>
    intro b hl h T hdr S a w f e T' h' f' Q hb hn l ev hO hK
    have hlx : ∀ q ∈ loopsOf b x, ∀ p, cx.lps fx.id q.1 = some p → SoundC P fx.n (.loop q.2) p := fun q hq => hl q (by simp only [loopsOf, List.mem_append]; exact .inl hq)
    have hly : ∀ q ∈ loopsOf b y, ∀ p, cx.lps fx.id q.1 = some p → SoundC P fx.n (.loop q.2) p := fun q hq => hl q (by simp only [loopsOf, List.mem_append]; exact .inr hq)
    cases c with
    | tmp t =>
      simp only [evC] at ev
      split at ev
      · rename_i v hv
        have hbt := bool_tmp l.tmps hv
        have hev : a.eval (.tmp t) = .bool v := by simp [Act.eval, Array.getD_eq_getD_getElem?, hbt]
        have same : ∀ s, getT ((t, .bool v) :: T) s = getT T s := fun s => by
          rw [getT_cons]
          by_cases k : t = s
          · rw [if_pos k, ← k, hv]
          · rw [if_neg k]
        refine wp_cond hev ?_
        rcases ex_ite ev with ⟨rfl, ev⟩ | ⟨rfl, ev⟩
        · exact ihx b hlx h _ hdr S a w f e T' h' f' Q hb hn (l.same same) ev hO hK
        · exact ihy b hly h _ hdr S a w f e T' h' f' Q hb hn (l.same same) ev hO hK
      · exact (ex_fail ev).elim
    | const u =>
      cases u with
      | bool v =>
        simp only [evC] at ev
        refine wp_cond (t := v) rfl ?_
        cases v with
        | true => exact ihx b hlx h _ hdr S a w f e T' h' f' Q hb hn l ev hO hK
        | false => exact ihy b hly h _ hdr S a w f e T' h' f' Q hb hn l ev hO hK
      | _ => simp only [evC] at ev; exact (ex_fail ev).elim
    | _ => simp only [evC] at ev; exact (ex_fail ev).elim
  | block id x ih =>
    intro b hl h T hdr S a w f e T' h' f' Q hb hn l ev hO hK
    simp only [evC] at ev
    obtain ⟨⟨e1, T1⟩, h1, f1, ev1, ev2⟩ := ex_bind_some ev
    cases ex_ret ev2
    refine wp_block ?_
    refine ih id (fun q hq => hl q (by simpa only [loopsOf] using hq)) h T hdr S a w f e1 _ _ _ _ hb hn l ev1 hO fun hdr1 S1 a1 w1 l1 => ?_
    have := hK hdr1 S1 a1 w1 l1
    match e1 with
    | 0 =>
      rw [nb_ne (show (0 : Nat) ≠ 2 + id by omega)] at this
      exact this
    | 1 =>
      rw [nb_ne (show (1 : Nat) ≠ 2 + id by omega)] at this
      exact this
    | n + 2 =>
      show if n = id then Q .normal a1 w1 else Q (.exit n) a1 w1
      by_cases k : n = id
      · subst k
        rw [show 2 + n = n + 2 from Nat.add_comm _ _] at this
        simp only [nb_self, cond_true] at this
        rw [if_pos rfl]
        exact this
      · rw [nb_ne (show n + 2 ≠ 2 + id by omega)] at this
        rw [if_neg k]
        exact this
  | loop x ih =>
    intro b hl h T hdr S a w f e T' h' f' Q hb hn l ev hO hK
    have hlx : ∀ q ∈ loopsOf b x, ∀ p, cx.lps fx.id q.1 = some p → SoundC P fx.n (.loop q.2) p := fun q hq => hl q (by simp only [loopsOf]; exact List.mem_cons_of_mem _ hq)
    simp only [evC] at ev
    split at ev
    · rename_i p hp
      refine hl (b, x) (by simp only [loopsOf]; exact List.mem_cons_self) p hp tr ok hdr0 S0 h0 w0 a0 h T hdr S a w f e T' h' f' Q l hn ?_ hO hK
      rw [← hb]; exact ev
    · refine wp_loop_rounds cx.fuel ?_
      have key : ∀ (n : Nat) (h : Hp) (T : Tm) (hdr : Nat → Value) (S : Stb) (a : Act) (w : World) (f : Foot), Left P tr ok hdr0 S0 h0 w0 a0 h T hdr S a w → ex (iterP (evC cx cal fx b x) n T) tr h f = some ((e, T'), h', f') → Code.rounds P x Q n a w := by
        intro n
        induction n with
        | zero => intro h T hdr S a w f _ ev; exact (ex_fail ev).elim
        | succ n ihn =>
          intro h T hdr S a w f l ev
          simp only [iterP] at ev
          obtain ⟨⟨e1, T1⟩, h1, f1, ev1, ev2⟩ := ex_bind_some ev
          have hm : tr = true → h1.c ≤ h'.c := fun ht => evC_mono ev2 ht
          rw [rounds_succ]
          refine ih b hlx h T hdr S a w f e1 T1 h1 f1 _ hb hn l ev1 (fun id k => (hO id k).less hm) fun hdr1 S1 a1 w1 l1 => ?_
          match e1, ev2 with
          | 0, ev2 => exact ihn h1 T1 hdr1 S1 a1 w1 f1 l1 ev2
          | 1, ev2 => cases ex_ret ev2; exact hK _ _ _ _ l1
          | n + 2, ev2 => cases ex_ret ev2; exact hK _ _ _ _ l1
      exact key cx.fuel h T hdr S a w f l ev
  | exit id =>
    intro b _ h T hdr S a w f e T' h' f' Q _ _ l ev hO hK
    simp only [evC] at ev
    cases ex_ret ev
    have := hK _ _ _ _ l
    rw [Nat.add_comm] at this
    exact wp_exit this
  | ret =>
    intro b _ h T hdr S a w f e T' h' f' Q _ _ l ev hO hK
    simp only [evC] at ev
    cases ex_ret ev
    exact wp_ret (hK _ _ _ _ l)
  | _ => intros; rename_i ev _ _; simp only [evC] at ev; exact (ex_fail ev).elim
end
end Go.Proofs.YtmjbedjnojcmfaaDoor.Ex

namespace Go.Proofs.YtmjbedjnojcmfaaDoor.Ex
set_option linter.unusedSectionVars false

section
variable [RT] {P : Program} {cx : Ctx} {cal : FuncId → List AV → Prog AV}
variable {tr : Bool} {ok : Nat → Prop} {hdr hdr0 : Nat → Value} {S S0 : Stb} {h h' h0 : Hp} {f f' : Foot} {w w0 : World} {a a0 : Act} {T : Tm}

def resG (tmps : Array Value) : ResultVar → Sem Value
  | .tmp t => pure (tmps.getD t undef)
  | .cell a t => do loadVar t (← asAddr (tmps.getD a undef))

theorem resP_sound (hcx : TabOk P cx.tab) (hT : TReal hdr S T a.tmps) (hok : TOk ok T) (hr : HReal hdr S h.blks w) (hm : Ment ok h.blks) :
    ∀ (rs : List ResultVar) (k : List AV → Prog AV) (f : Foot) (v : AV), ex (resP (tiL cx.tab) T rs k) tr h f = some (v, h', f') →
    ∃ vs us f1, (rs.mapM (resG a.tmps)).run P w = .ok us w ∧ VReps hdr S vs us ∧ (∀ n ∈ AV.idsL vs, ok n) ∧ ex (k vs) tr h f1 = some (v, h', f')
  | [], k, f, v, e => ⟨[], [], f, rfl, .nil, fun n hn => (by simp [AV.idsL] at hn), e⟩
  | .tmp t :: r, k, f, v, e => by
    simp only [resP] at e
    obtain ⟨vs, us, f1, e1, e2, e3, e4⟩ := resP_sound hcx hT hok hr hm r _ f v e
    refine ⟨getT T t :: vs, a.tmps.getD t undef :: us, f1, ?_, .cons _ _ _ _ (hT t) e2, fun n hn => ?_, e4⟩
    · simp only [List.mapM_cons, resG, Sem.run_bind, Sem.run_pure, Result.andThen_ok, e1]
    · simp only [AV.idsL, List.mem_append] at hn
      exact hn.elim (hok t n) (e3 n)
  | .cell c t :: r, k, f, v, e => by
    simp only [resP] at e
    obtain ⟨i, hi, e⟩ := ex_opt e
    split at e
    case h_2 => exact (ex_fail e).elim
    rename_i id off hev
    obtain ⟨b, hb, e⟩ := ex_get e
    split at e
    case h_2 => exact (ex_fail e).elim
    rename_i cs
    obtain ⟨ds, hds, e⟩ := ex_opt e
    obtain ⟨vs, us, f1, e1, e2, e3, e4⟩ := resP_sound hcx hT hok hr hm r _ _ v e
    have hx := hT c
    rw [hev] at hx
    generalize hxv : a.tmps.getD c undef = xv at hx
    cases hx with | ptr _ _ b hh =>
    have br := hr.blk id _ hb
    cases br with | box _ b' vs' et hh' hw hr' =>
    rw [hh] at hh'
    cases hh'
    obtain ⟨hl, rfl⟩ := subL_some hds
    obtain ⟨h1, h2⟩ := sub_cells (o0 := 0) (cells := vs'.toArray) hr' hl (fun j hj => by simp)
    have hld := run_loadVar_in (hcx t i hi) hw (0 + off) _ h1 h2
    rw [Nat.zero_add] at hld
    refine ⟨_, packV i.ty ((vs'.drop off).take i.ty.size) :: us, f1, ?_, .cons _ _ _ _ (pack_rep _ ((hr'.drop off).take _)) e2, fun n hn => ?_, e4⟩
    · simp only [List.mapM_cons, resG, hxv, asAddr, Sem.run_bind, Sem.run_pure, Result.andThen_ok, hld, e1]
    · simp only [AV.idsL, List.mem_append] at hn
      exact hn.elim (fun k => (hm id _ hb).2 n (idsL_drop (idsL_take (pack_ids k)))) (e3 n)

theorem results_sound {fn : Func} {us : List Value} (h : (fn.results.toList.mapM (resG a.tmps)).run P w = .ok us w) :
    (results fn a.tmps).run P w = .ok (if k : us.toArray.size = 1 then us.toArray[0] else .tuple us.toArray) w := by
  have key : ∀ F : ResultVar → Sem Value, (∀ x, F x = resG a.tmps x) → (do let vs ← fn.results.mapM F; pure (if k : vs.size = 1 then vs[0] else .tuple vs) : Sem Value).run P w = .ok (if k : us.toArray.size = 1 then us.toArray[0] else .tuple us.toArray) w := by
    intro F hF
    have hF' : F = resG a.tmps := funext hF
    subst hF'
    rw [Array.mapM_eq_mapM_toList]
    simp only [Sem.run_bind, Sem.run_map, h, Result.andThen_ok, Sem.run_pure]
  exact key _ fun x => by cases x <;> rfl

theorem vreps_getD : ∀ {aZs : List AV} {vs : List Value}, VReps hdr S aZs vs → ∀ t, VRep hdr S (aZs.getD t .undef) (vs.getD t undef)
  | _, _, .nil, _ => .undef _
  | _, _, .cons _ _ _ _ h _, 0 => h
  | _, _, .cons _ _ _ _ _ h', t + 1 => vreps_getD h' t

theorem getT_args : ∀ (vs : List AV) (i t : Nat), getT (argsT i vs) (i + t) = vs.getD t .undef
  | [], _, _ => rfl
  | v :: r, i, t => by
    rw [argsT, getT_cons]
    cases t with
    | zero => simp
    | succ t =>
      rw [if_neg (by omega), show i + (t + 1) = (i + 1) + t by omega, getT_args r (i + 1) t]
      rfl

structure InlOk (P : Program) (cx : Ctx) : Prop where
  fn : ∀ g fn, cx.inl g = some fn → P.funcs[g]? = some fn ∧ (fn.name == "runtime.NumGoroutine") = false
  lps : ∀ g fn c, cx.inl g = some fn → fn.body = some c → ∀ q ∈ loopsOf 0 c, ∀ p, cx.lps g q.1 = some p → SoundC P fn.ntmps (.loop q.2) p

theorem evB_sound (hcx : TabOk P cx.tab) (hcmp : CmpsOk P cx.tab) (hcal : CalOk P cal) (hmd : P.follows .mixedOrders = true) (hin : InlOk P cx) {g : FuncId} {fn : Func} (hg : cx.inl g = some fn) (keep : List Nat) : SoundA P g (evB cx cal keep g fn) := by
  intro tr args h ft v h' ft' vals hdr S w ok e hr hm hv hi hO
  obtain ⟨hf, hname⟩ := hin.fn g fn hg
  unfold evB at e
  split at e
  · exact (ex_fail e).elim
  rename_i c hb
  rcases ex_cond e with ⟨hle, e⟩ | ⟨_, e⟩
  case inr => exact (ex_fail e).elim
  refine ⟨fun args w => MuLone.run_callFunc_enter hf hname hb args w, ?_⟩
  refine calls_of_wp hf hb ?_
  have e' : ex ((evC cx cal ⟨g, fn.ntmps, keep, h.c⟩ 0 c (argsT 0 args)).bind fun e => match e.1 with
    | 0 | 1 => resP (tiL cx.tab) e.2 fn.results.toList fun
      | [v] => .ret v
      | vs => .ret (.tup vs)
    | _ => .fail) tr h ft = some (v, h', ft') := e
  obtain ⟨⟨e1, T1⟩, h1, f1, ev1, ev2⟩ := ex_bind_some e'
  have hlen := hv.len
  have hle' : vals.length ≤ fn.ntmps := by rw [← hlen]; exact leB_iff.1 hle
  let a0 : Act := { tmps := vals.toArray ++ Array.replicate (fn.ntmps - vals.toArray.size) undef, defers := [] }
  have hsz : a0.tmps.size = fn.ntmps := by simp [a0]; omega
  have hgetD : ∀ t, a0.tmps.getD t undef = vals.getD t undef := fun t => by
    simp only [a0, Array.getD_eq_getD_getElem?, List.getD_eq_getElem?_getD, Array.getElem?_append, List.size_toArray, List.getElem?_toArray]
    split
    · rfl
    · rename_i k
      rw [List.getElem?_eq_none (by omega)]
      rw [Array.getElem?_replicate]
      split <;> rfl
  have hT : TReal hdr S (argsT 0 args) a0.tmps := fun t => by
    have := getT_args args 0 t
    rw [Nat.zero_add] at this
    rw [this, hgetD]
    exact vreps_getD hv t
  have hTi : TOk (okn ok h.c h.c) (argsT 0 args) := fun t n hn => by
    have := getT_args args 0 t
    rw [Nat.zero_add] at this
    rw [this] at hn
    refine .inl (hi n ?_)
    rw [List.getD_eq_getElem?_getD] at hn
    cases ht : args[t]? with
    | none => rw [ht] at hn; simp [AV.ids] at hn
    | some u =>
      rw [ht] at hn
      exact idsL_mem (List.mem_of_getElem? ht) hn
  refine evC_sound (a0 := a0) hcx hcmp hcal hmd (fx := ⟨g, fn.ntmps, keep, h.c⟩) c 0 (hin.lps g fn c hg hb) h (argsT 0 args) hdr S a0 w ft e1 T1 h1 f1 _ rfl hsz ⟨Post.refl hr hm, hT, hTi, rfl, rfl⟩ ev1 (fun id k => (hO id k).less fun ht => evC_mono ev2 ht) fun hdr1 S1 a1 w1 l1 => ?_
  have hd : a1.defers = [] := l1.defers
  have fin : ex (resP (tiL cx.tab) T1 fn.results.toList fun
      | [v] => .ret v
      | vs => .ret (.tup vs)) tr h1 f1 = some (v, h', ft') → ∃ u, (results fn a1.tmps).run P w1 = .ok u w1 ∧ (∃ u' hdr' S', Ending.returned u = .returned u' ∧ Post tr ok hdr S h w hdr' S' h' w1 ∧ VRep hdr' S' v u' ∧ ∀ n ∈ v.ids, okn ok h.c h'.c n) := by
    intro er
    obtain ⟨vs, us, f2, r1, r2, r3, r4⟩ := resP_sound hcx l1.tmps l1.tok l1.post.real l1.post.ment fn.results.toList _ f1 v er
    refine ⟨_, results_sound r1, _, hdr1, S1, rfl, ?_⟩
    have hl := r2.len
    split at r4
    · cases ex_ret r4
      cases r2 with | cons _ u _ _ r2 r2' =>
      cases r2' with | nil =>
      refine ⟨l1.post, ?_, fun n hn => r3 n (by simp only [AV.idsL, List.append_nil]; exact hn)⟩
      simpa using r2
    · rename_i hne
      cases ex_ret r4
      have : us.toArray.size ≠ 1 := by
        intro k
        have k' : vs.length = 1 := by rw [hl]; simpa using k
        match vs, k' with
        | [x], _ => exact hne x rfl
      rw [dif_neg this]
      exact ⟨l1.post, .tup _ _ r2, fun n hn => r3 n (by simpa [AV.ids] using hn)⟩
  match e1, ev2 with
  | 0, ev2 => obtain ⟨u, k1, k2⟩ := fin ev2; exact ⟨hd, u, k1, k2⟩
  | 1, ev2 => obtain ⟨u, k1, k2⟩ := fin ev2; exact ⟨hd, u, k1, k2⟩
  | n + 2, ev2 => exact (ex_fail ev2).elim

theorem soundA_fail (g : FuncId) : SoundA P g fun _ => .fail := fun _ _ _ _ _ _ _ _ _ _ _ _ e _ _ _ _ _ => (ex_fail e).elim

theorem evF_sound (hcx : TabOk P cx.tab) (hcmp : CmpsOk P cx.tab) (hmd : P.follows .mixedOrders = true) (hin : InlOk P cx) (hsp : ∀ g p, cx.spec g = some p → SoundA P g p) (keeps : FuncId → List Nat) : ∀ n, CalOk P (evF cx keeps n)
  | 0, g => by
    cases hs : cx.spec g with
    | none => have : evF cx keeps 0 g = fun _ => .fail := funext fun _ => by simp only [evF, hs]
              rw [this]; exact soundA_fail g
    | some p => have : evF cx keeps 0 g = p := funext fun _ => by simp only [evF, hs]
                rw [this]; exact hsp g p hs
  | n + 1, g => by
    cases hs : cx.spec g with
    | some p => have : evF cx keeps (n + 1) g = p := funext fun _ => by simp only [evF, hs]
                rw [this]; exact hsp g p hs
    | none =>
      cases hi : cx.inl g with
      | none => have : evF cx keeps (n + 1) g = fun _ => .fail := funext fun _ => by simp only [evF, hs, hi]
                rw [this]; exact soundA_fail g
      | some fn => have : evF cx keeps (n + 1) g = evB (cx.at n) (evF cx keeps n) (keeps g) g fn := funext fun _ => by simp only [evF, hs, hi]
                   rw [this]; exact evB_sound (cx := cx.at n) hcx hcmp (evF_sound hcx hcmp hmd hin hsp keeps n) hmd ⟨hin.fn, hin.lps⟩ hi _
end
end Go.Proofs.YtmjbedjnojcmfaaDoor.Ex

namespace Go.Proofs.YtmjbedjnojcmfaaDoor.Ex
set_option linter.unusedSectionVars false
section
variable [RT] {P : Program}

def hdrO (hdr : Nat → Value) (base : Nat) (order : List Nat) (id : Nat) : Value :=
  if id < base then hdr id else match order[id - base]? with
    | some k => hdr k
    | none => hdr id

theorem idxN_some {n m : Nat} : ∀ {l : List Nat} {i : Nat}, idxN l n i = some m → i ≤ m ∧ l[m - i]? = some n
  | [], _, e => by cases e
  | k :: r, i, e => by
    simp only [idxN] at e
    by_cases h : k = n
    · subst h
      simp only [nb_self, cond_true, Option.some.injEq] at e
      subst e
      simp
    · rw [nb_ne h, cond_false] at e
      obtain ⟨h1, h2⟩ := idxN_some (l := r) e
      refine ⟨by omega, ?_⟩
      rw [show m - i = (m - (i + 1)) + 1 by omega]
      simpa using h2

theorem hdrO_ren {hdr : Nat → Value} {base : Nat} {order : List Nat} {n m : Nat} (e : renOf base order n = some m) : hdrO hdr base order m = hdr n := by
  unfold renOf at e
  cases h : leB base n <;> rw [h] at e
  · simp only [cond_false, Option.some.injEq] at e
    subst e
    have : n < base := by
      rcases Nat.lt_or_ge n base with k | k
      · exact k
      · rw [leB_iff.2 k] at h; cases h
    simp [hdrO, this]
  · simp only [cond_true] at e
    obtain ⟨h1, h2⟩ := idxN_some e
    unfold hdrO
    rw [if_neg (by omega), h2]

mutual
theorem ren_ids {ρ : Nat → Option Nat} : ∀ (v : AV) (n : Nat), n ∈ (v.ren ρ).ids → ∃ m ∈ v.ids, ρ m = some n
  | .ptr id off, n, h => by
    simp only [AV.ren] at h
    split at h
    · rename_i m hm; simp only [AV.ids, List.mem_singleton] at h; subst h; exact ⟨id, by simp [AV.ids], hm⟩
    · simp [AV.ids] at h
  | .row id, n, h => by
    simp only [AV.ren] at h
    split at h
    · rename_i m hm; simp only [AV.ids, List.mem_singleton] at h; subst h; exact ⟨id, by simp [AV.ids], hm⟩
    · simp [AV.ids] at h
  | .eptr id sz i off, n, h => by
    simp only [AV.ren] at h
    split at h
    · rename_i m hm; simp only [AV.ids, List.mem_singleton] at h; subst h; exact ⟨id, by simp [AV.ids], hm⟩
    · simp [AV.ids] at h
  | .sub id sz lo hi, n, h => by
    simp only [AV.ren] at h
    split at h
    · rename_i m hm; simp only [AV.ids, List.mem_singleton] at h; subst h; exact ⟨id, by simp [AV.ids], hm⟩
    · simp [AV.ids] at h
  | .vsl e id sz k, n, h => by
    simp only [AV.ren] at h
    split at h
    · rename_i m hm; simp only [AV.ids, List.mem_singleton] at h; subst h; exact ⟨id, by simp [AV.ids], hm⟩
    · simp [AV.ids] at h
  | .view cs off, n, h => by simp only [AV.ren, AV.ids] at h ⊢; exact renL_ids cs n h
  | .clo f first caps, n, h => by
    simp only [AV.ren, AV.ids, List.mem_append] at h ⊢
    rcases h with h | h
    · obtain ⟨m, k, e⟩ := renL_ids first n h; exact ⟨m, .inl k, e⟩
    · obtain ⟨m, k, e⟩ := renL_ids caps n h; exact ⟨m, .inr k, e⟩
  | .agg cs, n, h => by simp only [AV.ren, AV.ids] at h ⊢; exact renL_ids cs n h
  | .tup cs, n, h => by simp only [AV.ren, AV.ids] at h ⊢; exact renL_ids cs n h
  | .undef, n, h => by simp [AV.ren, AV.ids] at h
  | .int _ _, n, h => by simp [AV.ren, AV.ids] at h
  | .bool _, n, h => by simp [AV.ren, AV.ids] at h
  | .str _, n, h => by simp [AV.ren, AV.ids] at h
  | .nil, n, h => by simp [AV.ren, AV.ids] at h
  | .sl _ _, n, h => by simp [AV.ren, AV.ids] at h
theorem renL_ids {ρ : Nat → Option Nat} : ∀ (vs : List AV) (n : Nat), n ∈ AV.idsL (AV.renL ρ vs) → ∃ m ∈ AV.idsL vs, ρ m = some n
  | [], n, h => by simp [AV.renL, AV.idsL] at h
  | v :: r, n, h => by
    simp only [AV.renL, AV.idsL, List.mem_append] at h ⊢
    rcases h with h | h
    · obtain ⟨m, k, e⟩ := ren_ids v n h; exact ⟨m, .inl k, e⟩
    · obtain ⟨m, k, e⟩ := renL_ids r n h; exact ⟨m, .inr k, e⟩
end

mutual
theorem ren_rep {hdr hdr' : Nat → Value} {S : Stb} {ρ : Nat → Option Nat} (hρ : ∀ n m, ρ n = some m → hdr' m = hdr n) : ∀ (v : AV) (u : Value), VRep hdr S v u → VRep hdr' S (v.ren ρ) u
  | .ptr id off, u, h => by
    cases h with | ptr _ _ b hh =>
    simp only [AV.ren]
    split
    · rename_i m hm; exact .ptr _ _ _ ((hρ _ _ hm).trans hh)
    · exact .undef _
  | .row id, u, h => by
    cases h with | row _ a len cap hh =>
    simp only [AV.ren]
    split
    · rename_i m hm; exact .row _ _ _ _ ((hρ _ _ hm).trans hh)
    · exact .undef _
  | .eptr id sz i off, u, h => by
    cases h with | eptr _ _ _ _ b len cap hh =>
    simp only [AV.ren]
    split
    · rename_i m hm; exact .eptr _ _ _ _ _ _ _ ((hρ _ _ hm).trans hh)
    · exact .undef _
  | .sub id sz lo hi, u, h => by
    cases h with | sub _ _ _ _ a cap hh hcc =>
    simp only [AV.ren]
    split
    · rename_i m hm; exact .sub _ _ _ _ _ _ (hh.imp (fun k => k) fun ⟨b, len, c, k1, k2⟩ => ⟨b, len, c, (hρ _ _ hm).trans k1, k2⟩) hcc
    · exact .undef _
  | .vsl e id sz k, u, h => by
    cases h with | vsl _ _ _ _ b cap hh hcc =>
    simp only [AV.ren]
    split
    · rename_i m hm; exact .vsl _ _ _ _ _ _ ((hρ _ _ hm).trans hh) hcc
    · exact .undef _
  | .view cs off, u, h => by
    cases h with | view _ vs _ b o cells hS hc hr => exact .view _ vs _ b o cells hS hc (renL_rep hρ cs vs hr)
  | .clo f first caps, u, h => by
    cases h with | clo _ _ _ fs cs h1 h2 => exact .clo f _ _ fs cs (renL_rep hρ first fs h1) (renL_rep hρ caps cs h2)
  | .agg cs, u, h => by
    cases h with | agg _ vs hr => exact .agg _ vs (renL_rep hρ cs vs hr)
  | .tup cs, u, h => by
    cases h with | tup _ vs hr => exact .tup _ vs (renL_rep hρ cs vs hr)
  | .undef, u, h => .undef _
  | .int _ _, u, h => by cases h; exact .int _ _
  | .bool _, u, h => by cases h; exact .bool _
  | .str _, u, h => by cases h; exact .str _
  | .nil, u, h => by cases h; exact .nil _
  | .sl _ _, u, h => by cases h with | sl e l _ hd => exact .sl _ _ _ hd
theorem renL_rep {hdr hdr' : Nat → Value} {S : Stb} {ρ : Nat → Option Nat} (hρ : ∀ n m, ρ n = some m → hdr' m = hdr n) : ∀ (vs : List AV) (us : List Value), VReps hdr S vs us → VReps hdr' S (AV.renL ρ vs) us
  | [], us, h => by cases h; exact .nil
  | v :: r, us, h => by cases h with | cons _ u _ us' h1 h2 => exact .cons _ _ _ _ (ren_rep hρ v u h1) (renL_rep hρ r us' h2)
end

theorem blkRen_ids {ρ : Nat → Option Nat} {b : Blk} {n : Nat} (h : n ∈ (b.ren ρ).ids) : ∃ m ∈ b.ids, ρ m = some n := by
  cases b with
  | box cs => exact renL_ids cs n h
  | row e l => cases h

theorem blkRen_real {hdr hdr' : Nat → Value} {S : Stb} {w : World} {ρ : Nat → Option Nat} (hρ : ∀ n m, ρ n = some m → hdr' m = hdr n) {id id' : Nat} {b : Blk} (h : BReal hdr S w id b) (hi : ρ id = some id') : BReal hdr' S w id' (b.ren ρ) := by
  have e := hρ _ _ hi
  cases h with
  | box cs b vs et hh hw hr => exact .box _ b vs et (e.trans hh) hw (renL_rep hρ cs vs hr)
  | rowNil e0 a hh => exact .rowNil e0 a (e.trans hh)
  | row e0 l b cap vs et hh hc hw hl hs hr => exact .row e0 l b cap vs et (e.trans hh) hc hw hl hs hr

theorem find_ext {base : Nat} {ρ : Nat → Option Nat} {id : Nat} {b : Blk} : ∀ (bs : List (Nat × Blk)), findB (extB base ρ bs) id = some b → id < base ∧ ∃ c, findB bs id = some c ∧ b = c.ren ρ
  | [], e => by cases e
  | (k, c) :: r, e => by
    rw [extB] at e
    cases h : leB base k <;> rw [h] at e
    · simp only [cond_false] at e
      have hk : k < base := by
        rcases Nat.lt_or_ge k base with q | q
        · exact q
        · rw [leB_iff.2 q] at h; cases h
      rw [findB_cons] at e ⊢
      by_cases q : k = id
      · rw [if_pos q] at e ⊢
        cases e
        exact ⟨q ▸ hk, c, rfl, rfl⟩
      · rw [if_neg q] at e ⊢
        exact find_ext r e
    · simp only [cond_true] at e
      obtain ⟨h1, c', h2, h3⟩ := find_ext r e
      refine ⟨h1, c', ?_, h3⟩
      rw [findB_cons, if_neg, h2]
      have := leB_iff.1 h
      omega

theorem find_new {ρ : Nat → Option Nat} {bs : List (Nat × Blk)} {id : Nat} {b : Blk} : ∀ (order : List Nat) (i : Nat), findB (newB ρ bs i order) id = some b → i ≤ id ∧ ∃ k c, order[id - i]? = some k ∧ findB bs k = some c ∧ b = c.ren ρ
  | [], _, e => by cases e
  | k :: r, i, e => by
    rw [newB] at e
    have next : findB (newB ρ bs (i + 1) r) id = some b → i ≤ id ∧ ∃ k' c, (k :: r)[id - i]? = some k' ∧ findB bs k' = some c ∧ b = c.ren ρ := fun e => by
      obtain ⟨h1, k', c, h2, h3, h4⟩ := find_new r (i + 1) e
      refine ⟨by omega, k', c, ?_, h3, h4⟩
      rw [show id - i = (id - (i + 1)) + 1 by omega]
      simpa using h2
    split at e
    · rename_i c hc
      rw [findB_cons] at e
      by_cases q : i = id
      · rw [if_pos q] at e
        cases e
        subst q
        exact ⟨Nat.le_refl _, k, c, by simp, hc, rfl⟩
      · rw [if_neg q] at e
        exact next e
    · exact next e

theorem findB_app {bs cs : List (Nat × Blk)} {id : Nat} : findB (bs ++ cs) id = (findB bs id).or (findB cs id) := by
  induction bs with
  | nil => rfl
  | cons x r ih =>
    obtain ⟨k, c⟩ := x
    rw [List.cons_append, findB_cons, findB_cons]
    by_cases q : k = id
    · rw [if_pos q, if_pos q]; rfl
    · rw [if_neg q, if_neg q, ih]

theorem idx_of_nodup {n : Nat} : ∀ {l : List Nat} {j : Nat} (i : Nat), nodupN l = true → l[j]? = some n → idxN l n i = some (i + j)
  | [], j, _, _, e => by simp at e
  | k :: r, j, i, hn, e => by
    simp only [nodupN, Bool.and_eq_true, Bool.not_eq_true'] at hn
    cases j with
    | zero =>
      simp only [List.getElem?_cons_zero, Option.some.injEq] at e
      subst e
      simp [idxN]
    | succ j =>
      simp only [List.getElem?_cons_succ] at e
      have : k ≠ n := by
        rintro rfl
        have := hasN_iff.2 (List.mem_of_getElem? e)
        rw [hn.1] at this; cases this
      rw [idxN, nb_ne this, cond_false, idx_of_nodup (i + 1) hn.2 e]
      congr 1
      omega

theorem getT_keep (ρ : Nat → Option Nat) (T : Tm) (t : Nat) : ∀ l : List Nat, getT (keepT ρ T l) t = (getT T t).ren ρ ∨ getT (keepT ρ T l) t = .undef
  | [] => .inr rfl
  | k :: l => by
    rw [keepT, getT_cons]
    by_cases e : k = t
    · rw [if_pos e, e]; exact .inl rfl
    · rw [if_neg e]; exact getT_keep ρ T t l

section
variable {ok : Nat → Prop} {hdr0 hdr : Nat → Value} {S0 S : Stb} {h0 h : Hp} {w0 w : World} {a0 a : Act} {T : Tm}

theorem Left.norm (l : Left P false ok hdr0 S0 h0 w0 a0 h T hdr S a w) {order : List Nat} (hn : nodupN order = true) (hord : ∀ k ∈ order, h0.c ≤ k) (keep : List Nat) :
    Left P false ok hdr0 S0 h0 w0 a0 ⟨extB h0.c (renOf h0.c order) h.blks ++ newB (renOf h0.c order) h.blks h0.c order, h0.c + order.length⟩ (keepT (renOf h0.c order) T keep) (hdrO hdr h0.c order) S a w := by
  have hρ : ∀ n m, renOf h0.c order n = some m → hdrO hdr h0.c order m = hdr n := fun n m e => hdrO_ren e
  have hlow : ∀ n, n < h0.c → renOf h0.c order n = some n := fun n hlt => by
    unfold renOf
    cases q : leB h0.c n
    · rfl
    · have := leB_iff.1 q; omega
  have hnew : ∀ j k, order[j]? = some k → renOf h0.c order k = some (h0.c + j) := fun j k e => by
    unfold renOf
    rw [leB_iff.2 (hord k (List.mem_of_getElem? e)), cond_true]
    exact idx_of_nodup _ hn e
  -- each block that is there now was there
  have old : ∀ id b, findB (extB h0.c (renOf h0.c order) h.blks ++ newB (renOf h0.c order) h.blks h0.c order) id = some b → ∃ k c, findB h.blks k = some c ∧ renOf h0.c order k = some id ∧ b = c.ren (renOf h0.c order) := fun id b e => by
    rw [findB_app] at e
    cases q : findB (extB h0.c (renOf h0.c order) h.blks) id with
    | some b' =>
      rw [q] at e; cases e
      obtain ⟨h1, c, h2, h3⟩ := find_ext _ q
      exact ⟨id, c, h2, hlow id h1, h3⟩
    | none =>
      rw [q] at e
      have e : findB (newB (renOf h0.c order) h.blks h0.c order) id = some b := e
      obtain ⟨h1, k, c, h2, h3, h4⟩ := find_new _ _ e
      refine ⟨k, c, h3, ?_, h4⟩
      rw [hnew _ _ h2]
      congr 1
      omega
  have okr : ∀ n m, okn ok h0.c h.c n → renOf h0.c order n = some m → okn ok h0.c (h0.c + order.length) m := fun n m k e => by
    rcases Nat.lt_or_ge n h0.c with q | q
    · rw [hlow n q] at e
      cases e
      rcases k with k | k
      · exact .inl k
      · omega
    · unfold renOf at e
      rw [leB_iff.2 q, cond_true] at e
      obtain ⟨h1, h2⟩ := idxN_some e
      have := (List.getElem?_eq_some_iff.1 h2).1
      exact .inr ⟨h1, by omega⟩
  refine ⟨⟨Nat.le_add_right _ _, fun id ho => ?_, ⟨fun id b hf => ?_, fun i j b b' n hij hf hg hi hj => ?_, fun i b n hf hi => ?_, l.post.real.mem⟩, ?_, fun id b hf => ?_⟩, fun t => ?_, fun t n hn => ?_, l.size, l.defers⟩
  · have hlt : id < h0.c := by
      rcases ho with k | ⟨k, _⟩
      · exact k
      · cases k
    rw [← l.post.agree id (.inl hlt)]
    simp [hdrO, hlt]
  · obtain ⟨k, c, h1, h2, rfl⟩ := old id b hf
    exact blkRen_real hρ (l.post.real.blk k c h1) h2
  · obtain ⟨k, c, h1, h2, rfl⟩ := old i b hf
    obtain ⟨k', c', h1', h2', rfl⟩ := old j b' hg
    rw [hρ _ _ h2] at hi
    rw [hρ _ _ h2'] at hj
    refine l.post.real.sep k k' c c' n ?_ h1 h1' hi hj
    rintro rfl
    rw [h2] at h2'
    cases h2'
    exact hij rfl
  · obtain ⟨k, c, h1, h2, rfl⟩ := old i b hf
    rw [hρ _ _ h2] at hi
    exact l.post.real.stb k c n h1 hi
  · have s := l.post.step
    refine ⟨s.os, s.tape, s.output, s.size, s.frame, fun n k => ?_, s.sle, s.snew⟩
    obtain ⟨id, b, hf, hb⟩ := k
    obtain ⟨k, c, h1, h2, rfl⟩ := old id b hf
    rw [hρ _ _ h2] at hb
    exact s.own' n ⟨k, c, h1, hb⟩
  · obtain ⟨k, c, h1, h2, rfl⟩ := old id b hf
    have m := l.post.ment k c h1
    refine ⟨okr _ _ m.1 h2, fun n hn => ?_⟩
    obtain ⟨q, hq, e⟩ := blkRen_ids hn
    exact okr _ _ (m.2 q hq) e
  · rcases getT_keep (renOf h0.c order) T t keep with e | e
    · rw [e]; exact ren_rep hρ _ _ (l.tmps t)
    · rw [e]; exact .undef _
  · rcases getT_keep (renOf h0.c order) T t keep with e | e
    · rw [e] at hn
      obtain ⟨q, hq, e⟩ := ren_ids _ n hn
      exact okr _ _ (l.tok t q hq) e
    · rw [e] at hn; simp [AV.ids] at hn

theorem reach_ge {base : Nat} {bs : List (Nat × Blk)} : ∀ (n : Nat) (todo acc : List Nat), (∀ k ∈ acc, base ≤ k) → ∀ k ∈ reach base bs n todo acc, base ≤ k
  | 0, _, acc, h, k, hk => h k (by simpa [reach] using hk)
  | _ + 1, [], acc, h, k, hk => h k (by simpa [reach] using hk)
  | n + 1, id :: todo, acc, h, k, hk => by
    rw [reach] at hk
    cases q : (leB base id && !hasN acc id) <;> rw [q] at hk
    · exact reach_ge n todo acc h k hk
    · simp only [Bool.and_eq_true] at q
      simp only [cond_true] at hk
      split at hk
      · refine reach_ge n _ (id :: acc) (fun m hm => ?_) k hk
        rcases List.mem_cons.1 hm with rfl | hm
        · exact leB_iff.1 q.1
        · exact h m hm
      · exact reach_ge n todo acc h k hk

theorem ex_norm {α : Type} {base : Nat} {keep : List Nat} {k : Tm → Prog α} {tr : Bool} {f : Foot} {r : α × Hp × Foot} (e : ex (.norm base keep T k) tr h f = some r) :
    tr = false ∧ nodupN (normOrder base keep T h.blks) = true ∧ ex (k (keepT (renOf base (normOrder base keep T h.blks)) T keep)) tr ⟨extB base (renOf base (normOrder base keep T h.blks)) h.blks ++ newB (renOf base (normOrder base keep T h.blks)) h.blks base (normOrder base keep T h.blks), base + (normOrder base keep T h.blks).length⟩ f = some r := by
  unfold ex at e
  simp only [run] at e
  cases tr with
  | true => simp only [cond_true] at e; cases e
  | false =>
    simp only [cond_false] at e
    cases q : (nodupN (normOrder base keep T h.blks) && leB base h.c) <;> rw [q] at e
    · cases e
    · simp only [Bool.and_eq_true] at q
      exact ⟨rfl, q.1, e⟩

theorem Left.normed {α : Type} {keep : List Nat} {k : Tm → Prog α} {tr : Bool} {f : Foot} {r : α × Hp × Foot} (l : Left P tr ok hdr0 S0 h0 w0 a0 h T hdr S a w) (e : ex (.norm h0.c keep T k) tr h f = some r) :
    ∃ T' h' hdr', tr = false ∧ Left P tr ok hdr0 S0 h0 w0 a0 h' T' hdr' S a w ∧ ex (k T') tr h' f = some r := by
  obtain ⟨ht, hn, e'⟩ := ex_norm e
  subst ht
  exact ⟨_, _, _, rfl, l.norm hn (reach_ge _ _ _ (fun _ h => nomatch h)) keep, e'⟩
end
end
end Go.Proofs.YtmjbedjnojcmfaaDoor.Ex

namespace Go.Proofs.YtmjbedjnojcmfaaDoor.Ex
set_option linter.unusedSectionVars false
section
variable [RT] {P : Program} {cx : Ctx} {cal : FuncId → List AV → Prog AV}

theorem SoundC.weaken {n : Nat} {c : Code} {p : Nat → Tm → Prog (Nat × Tm)}
    (hp : ∀ base T tr h f r h' f', ex (p base T) tr h f = some (r, h', f') → ∃ q f'', SoundC P n c q ∧ ex (q base T) tr h f = some (r, h', f'')) : SoundC P n c p := by
  intro tr ok hdr0 S0 h0 w0 a0 h T hdr S a w f e T' h' f' Q l hn ev hO hK
  obtain ⟨q, f'', hq, e2⟩ := hp h0.c T tr h f (e, T') h' f' ev
  exact hq tr ok hdr0 S0 h0 w0 a0 h T hdr S a w f e T' h' f'' Q l hn e2 hO hK

theorem SoundA.weaken {g : FuncId} {p : List AV → Prog AV}
    (hp : ∀ args tr h f r h' f', ex (p args) tr h f = some (r, h', f') → ∃ q f'', SoundA P g q ∧ ex (q args) tr h f = some (r, h', f'')) : SoundA P g p := by
  intro tr args h ft v h' ft' vals hdr S w ok e
  obtain ⟨q, f'', hq, e2⟩ := hp args tr h ft v h' ft' e
  exact hq tr args h ft v h' f'' vals hdr S w ok e2

end
end Go.Proofs.YtmjbedjnojcmfaaDoor.Ex

namespace Go.Proofs.YtmjbedjnojcmfaaDoor.Ex
set_option linter.unusedSectionVars false
section
variable [RT] {P : Program} {cx : Ctx} {cal : FuncId → List AV → Prog AV}

def optC {α β : Type} (o : Option α) (n : β) (s : α → β) : β := match o with
  | none => n
  | some x => s x

def go {α : Type} (p : Prog α) (h : Hp) : Option (α × Hp) := run p false h ⟨[], []⟩ fun a h _ => some (a, h)

theorem run_foot {R : Type} {α : Type} (p : Prog α) : ∀ (h : Hp) (f g : Foot) (K : α → Hp → Option R), run p false h f (fun a h _ => K a h) = run p false h g (fun a h _ => K a h) := by
  induction p with
  | ret a => intros; rfl
  | fail => intros; rfl
  | ite b p q ihp ihq => intro h f g K; simp only [run]; rw [ihp h f g K, ihq h f g K]
  | opt x k ih => intro h f g K; simp only [run]; cases x <;> simp only [Option.bind_none, Option.bind_some]; exact ih ..
  | alt x k l ihk ihl => intro h f g K; simp only [run]; cases x <;> simp only [Sum.elim_inl, Sum.elim_inr] <;> first | exact ihk .. | exact ihl ..
  | get id k ih => intro h f g K; simp only [run]; split <;> first | exact ih .. | rfl
  | put id b k ih => intro h f g K; simp only [run]; split <;> first | exact ih .. | rfl
  | new b k ih => intro h f g K; simp only [run]; exact ih ..
  | del id k ih => intro h f g K; simp only [run]; split <;> first | exact ih .. | rfl
  | ctr k ih => intro h f g K; simp only [run]; exact ih ..
  | seek n k ih => intro h f g K; simp only [run]; cases leB h.c n <;> simp only [cond_true, cond_false] <;> first | exact ih .. | rfl
  | trace p k ihp ihk =>
    intro h f g K
    simp only [run]
    rw [run_ex p]
    conv => rhs; rw [run_ex p]
    congr 1
    funext x
    exact ihk _ _ _ _ _ _
  | norm base keep T k ih => intro h f g K; simp only [run, cond_false]; cases (nodupN (normOrder base keep T h.blks) && leB base h.c) <;> simp only [cond_true, cond_false] <;> first | exact ih .. | rfl
  | glob q k ih => intro h f g K; simp only [run, cond_false]; cases q h <;> simp only [Option.bind_none, Option.bind_some]; exact ih ..

theorem go_ex {α : Type} {p : Prog α} {h h' : Hp} {a : α} (e : go p h = some (a, h')) (f : Foot) : ∃ f', ex p false h f = some (a, h', f') := by
  unfold go at e
  rw [run_foot p h ⟨[], []⟩ f (fun a h => some (a, h)), run_ex, Option.bind_eq_some_iff] at e
  obtain ⟨⟨a', h1, f1⟩, e1, e2⟩ := e
  cases e2
  exact ⟨f1, e1⟩

def lpx (c : Code) (b : Nat) : Code := match (loopsOf 0 c).find? (fun q => Nat.beq q.1 b) with
  | some q => q.2
  | none => .skip

theorem find_nodup {b : Nat} : ∀ {l : List (Nat × Code)} {q : Nat × Code}, nodupN (l.map (·.1)) = true → q ∈ l → q.1 = b → l.find? (fun q => Nat.beq q.1 b) = some q
  | [], _, _, h, _ => by cases h
  | (k, c) :: r, q, hn, h, e => by
    simp only [List.map_cons, nodupN, Bool.and_eq_true, Bool.not_eq_true'] at hn
    by_cases hk : k = b
    · subst hk
      rcases List.mem_cons.1 h with rfl | h
      · simp
      · have := hasN_iff.2 (List.mem_map.2 ⟨q, h, e⟩)
        rw [hn.1] at this; cases this
    · rcases List.mem_cons.1 h with rfl | h
      · exact absurd e hk
      · rw [List.find?_cons, nb_ne hk]
        exact find_nodup hn.2 h e

theorem lps_case {fn : Func} {c : Code} {g b : Nat} {n : Nat} {q : Nat × Code} {p : Nat → Tm → Prog (Nat × Tm)} {inl : Nat → Option Func} (hg : inl g = some fn) (hb : fn.body = some c) (hq : q ∈ loopsOf 0 c) (hqb : q.1 = b)
    (hnd : ((inl g).bind (·.body)).elim false (fun c => nodupN ((loopsOf 0 c).map (·.1))) = true) (hn : (inl g).elim 0 (·.ntmps) = n)
    (hs : SoundC P n (.loop (((inl g).bind (·.body)).elim .skip (lpx · b))) p) : SoundC P fn.ntmps (.loop q.2) p := by
  rw [hg] at hnd hn hs
  simp only [Option.bind_some, hb, Option.elim_some] at hnd hn hs
  subst hn
  have e : lpx c b = q.2 := by unfold lpx; rw [find_nodup hnd hq hqb]
  rw [← e]; exact hs
end
end Go.Proofs.YtmjbedjnojcmfaaDoor.Ex

namespace Go.Proofs.YtmjbedjnojcmfaaDoor.Ex
set_option linter.unusedSectionVars false
section
variable [RT]
end
end Go.Proofs.YtmjbedjnojcmfaaDoor.Ex

namespace Go.Proofs.YtmjbedjnojcmfaaDoor.Ex
set_option linter.unusedSectionVars false
section
variable [RT] {P : Program} {ok : Nat → Prop} {hdr0 hdr : Nat → Value} {S0 S : Stb} {h0 h : Hp} {w0 w : World} {a0 a : Act} {T : Tm}

def ownB (h : Hp) (id j : Nat) (e : Ty) : Hp := match findB h.blks id with
  | some (.box cs) => match cs[j]? with
    | some .nil => ⟨setB ((h.c, .row e []) :: h.blks) id (.box (cs.set j (.row h.c))), h.c + 1⟩
    | _ => h
  | _ => h
def ownT (T : Tm) (h : Hp) (t : Nat) (e : Ty) : Tm × Hp := match getT T t with
  | .nil => ((t, .row h.c) :: T, ⟨(h.c, .row e []) :: h.blks, h.c + 1⟩)
  | _ => (T, h)

theorem vreps_set {hdr : Nat → Value} {S : Stb} : ∀ {cs : List AV} {vs : List Value} (j : Nat) (x : AV) (u : Value), VReps hdr S cs vs → vs[j]? = some u → VRep hdr S x u → VReps hdr S (cs.set j x) vs
  | _, _, j, _, _, .nil, e, _ => by simp at e
  | _, _, 0, x, u, .cons _ v aZs vs h h', e, k => by simp at e; subst e; exact .cons _ _ _ _ k h'
  | _, _, j + 1, x, u, .cons _ v aZs vs h h', e, k => by simp at e; exact .cons _ _ _ _ h (vreps_set j x u h' e k)

theorem idsL_set : ∀ {cs : List AV} (j : Nat) (x : AV) (n : Nat), n ∈ AV.idsL (cs.set j x) → n ∈ AV.idsL cs ∨ n ∈ x.ids
  | [], j, x, n, h => by cases j <;> simp [AV.idsL] at h
  | c :: r, 0, x, n, h => by
    simp only [List.set_cons_zero, AV.idsL, List.mem_append] at h ⊢
    rcases h with h | h
    · exact .inr h
    · exact .inl (.inr h)
  | c :: r, j + 1, x, n, h => by
    simp only [List.set_cons_succ, AV.idsL, List.mem_append] at h ⊢
    rcases h with h | h
    · exact .inl (.inl h)
    · rcases idsL_set j x n h with h | h
      · exact .inl (.inr h)
      · exact .inr h

theorem Left.newNil (l : Left P false ok hdr0 S0 h0 w0 a0 h T hdr S a w) (hO : ∀ id, ok id → id < h0.c) (ao : Option Addr) (e : Ty) :
    Left P false ok hdr0 S0 h0 w0 a0 ⟨(h.c, .row e []) :: h.blks, h.c + 1⟩ T (hdrN hdr h.c (.slice ao 0 0)) S a w := by
  have hlt : ∀ id, okn ok h0.c h.c id → id < h.c := fun id k => by
    rcases k with k | k
    · exact Nat.lt_of_lt_of_le (hO id k) l.post.mono
    · exact k.2
  have p := post_new' (tr := false) l.post.real l.post.ment (fun id k => .inl (hlt id k)) (.row e []) (fun n hn => by cases hn) w rfl rfl rfl (Nat.le_refl _) (fun _ _ => rfl) (.slice ao 0 0)
    (by cases ao <;> exact .inl rfl) (fun hdr' _ g2 => .rowNil e ao g2)
  refine l.trans ⟨p, fun t => ?_, fun t n hn => .inl (l.tok t n hn), rfl, rfl⟩
  exact VRep.mono (fun _ _ k => k) (l.tmps t) fun n hn => hdrN_ne _ _ _ (by have := hlt n (l.tok t n hn); omega)

theorem Left.ownB (l : Left P false ok hdr0 S0 h0 w0 a0 h T hdr S a w) (hO : ∀ id, ok id → id < h0.c) (id j : Nat) (e : Ty) :
    ∃ hdr', Left P false ok hdr0 S0 h0 w0 a0 (ownB h id j e) T hdr' S a w := by
  unfold Go.Proofs.YtmjbedjnojcmfaaDoor.Ex.ownB
  split
  · rename_i cs hf
    split
    · rename_i hj
      have hb := l.post.real.blk id _ hf
      cases hb with | box _ b vs et hh hw hr =>
      obtain ⟨u, hu, hv⟩ := hr.get j .nil hj
      cases hv with | nil ao =>
      have l1 := l.newNil hO ao e
      have hlt : ∀ id, okn ok h0.c h.c id → id < h.c := fun id k => by
        rcases k with k | k
        · exact Nat.lt_of_lt_of_le (hO id k) l.post.mono
        · exact k.2
      have hid := hlt id (l.post.ment id _ hf).1
      have hf1 : findB ((h.c, Blk.row e []) :: h.blks) id = some (.box cs) := by rw [findB_cons, if_neg (by omega)]; exact hf
      have hb1 := l1.post.real.blk id _ hf1
      cases hb1 with | box _ b1 vs1 et1 hh1 hw1 hr1 =>
      have e0 : hdrN hdr h.c (.slice ao 0 0) id = hdr id := hdrN_ne _ _ _ (by omega)
      rw [e0, hh] at hh1
      cases hh1
      rw [hw] at hw1
      simp only [Option.some.injEq, Obj.cells.injEq] at hw1
      have hvs : vs = vs1 := by have := congrArg Array.toList hw1.1; simpa using this
      subst hvs
      have hB : ∀ n ∈ (Blk.box (cs.set j (.row h.c))).ids, okn ok h0.c (h.c + 1) n := fun n hn => by
        rcases idsL_set j _ n hn with k | k
        · exact (l1.post.ment id _ hf1).2 n k
        · simp only [AV.ids, List.mem_singleton] at k
          subst k
          exact .inr ⟨l.post.mono, Nat.lt_succ_self _⟩
      have p := post_put (tr := false) l1.post.real l1.post.ment id (.box (cs.set j (.row h.c))) _ hf1 hB w b (by rw [e0, hh]; rfl) rfl rfl rfl rfl (fun _ _ => rfl)
        (.box _ b vs et (by rw [e0, hh]) hw (vreps_set j (.row h.c) _ hr1 hu (.row _ _ _ _ (hdrN_same _ _ _))))
      exact ⟨_, l1.trans ⟨p, l1.tmps, fun t n hn => .inl (l1.tok t n hn), rfl, rfl⟩⟩
    · exact ⟨hdr, l⟩
  · exact ⟨hdr, l⟩

theorem Left.ownT (l : Left P false ok hdr0 S0 h0 w0 a0 h T hdr S a w) (hO : ∀ id, ok id → id < h0.c) (t : Nat) (e : Ty) :
    ∃ hdr', Left P false ok hdr0 S0 h0 w0 a0 (ownT T h t e).2 (ownT T h t e).1 hdr' S a w := by
  unfold Go.Proofs.YtmjbedjnojcmfaaDoor.Ex.ownT
  split
  · rename_i hj
    have ht := l.tmps t
    rw [hj] at ht
    generalize hu : a.tmps.getD t undef = u at ht
    cases ht with | nil ao =>
    have l1 := l.newNil hO ao e
    refine ⟨_, l1.post, fun s => ?_, fun s n hn => ?_, l1.size, l1.defers⟩
    · rw [getT_cons]
      by_cases k : t = s
      · rw [if_pos k, ← k, hu]; exact .row _ _ _ _ (hdrN_same _ _ _)
      · rw [if_neg k]; exact l1.tmps s
    · rw [getT_cons] at hn
      by_cases k : t = s
      · rw [if_pos k] at hn; simp only [AV.ids, List.mem_singleton] at hn; subst hn; exact .inr ⟨l.post.mono, Nat.lt_succ_self _⟩
      · rw [if_neg k] at hn; exact l1.tok s n hn
  · exact ⟨hdr, l⟩

def ownBs (base : Nat) : List (Nat × Nat × Ty) → Hp → Hp
  | [], h => h
  | (id, j, e) :: r, h => ownBs base r (Go.Proofs.YtmjbedjnojcmfaaDoor.Ex.ownB h (base + id) j e)
def ownTs : List (Nat × Ty) → Tm → Hp → Tm × Hp
  | [], T, h => (T, h)
  | (t, e) :: r, T, h => ownTs r (Go.Proofs.YtmjbedjnojcmfaaDoor.Ex.ownT T h t e).1 (Go.Proofs.YtmjbedjnojcmfaaDoor.Ex.ownT T h t e).2
def ownAll (base : Nat) (bs : List (Nat × Nat × Ty)) (ts : List (Nat × Ty)) (T : Tm) (h : Hp) : Tm × Hp := ownTs ts T (ownBs base bs h)

theorem Left.ownBs (base : Nat) : ∀ (bs : List (Nat × Nat × Ty)) {h : Hp} {hdr : Nat → Value} (_ : Left P false ok hdr0 S0 h0 w0 a0 h T hdr S a w) (_ : ∀ id, ok id → id < h0.c), ∃ hdr', Left P false ok hdr0 S0 h0 w0 a0 (ownBs base bs h) T hdr' S a w
  | [], _, hdr, l, _ => ⟨hdr, l⟩
  | (id, j, e) :: r, _, _, l, hO => by
    obtain ⟨hdr1, l1⟩ := l.ownB hO (base + id) j e
    exact Left.ownBs base r l1 hO
theorem Left.ownTs : ∀ (ts : List (Nat × Ty)) {T : Tm} {h : Hp} {hdr : Nat → Value} (_ : Left P false ok hdr0 S0 h0 w0 a0 h T hdr S a w) (_ : ∀ id, ok id → id < h0.c), ∃ hdr', Left P false ok hdr0 S0 h0 w0 a0 (ownTs ts T h).2 (ownTs ts T h).1 hdr' S a w
  | [], _, _, hdr, l, _ => ⟨hdr, l⟩
  | (t, e) :: r, _, _, _, l, hO => by
    obtain ⟨hdr1, l1⟩ := l.ownT hO t e
    exact Left.ownTs r l1 hO
theorem Left.ownAll (bs : List (Nat × Nat × Ty)) (ts : List (Nat × Ty)) (l : Left P false ok hdr0 S0 h0 w0 a0 h T hdr S a w) (hO : ∀ id, ok id → id < h0.c) (base : Nat) :
    ∃ hdr', Left P false ok hdr0 S0 h0 w0 a0 (ownAll base bs ts T h).2 (ownAll base bs ts T h).1 hdr' S a w := by
  obtain ⟨hdr1, l1⟩ := Left.ownBs base bs l hO
  exact Left.ownTs ts l1 hO

def ownP (bs : List (Nat × Nat × Ty)) (ts : List (Nat × Ty)) (keep : List Nat) (r : Nat → Tm → Prog (Nat × Tm)) (base : Nat) (T : Tm) : Prog (Nat × Tm) :=
  .norm base keep T fun T1 => .glob (fun h => some (ownAll base bs ts T1 h)) fun T2 => r base T2
theorem own_sound {n : Nat} {c : Code} {bs : List (Nat × Nat × Ty)} {ts : List (Nat × Ty)} {keep : List Nat} {r : Nat → Tm → Prog (Nat × Tm)} (hs : SoundC P n c r) : SoundC P n c (ownP bs ts keep r) := by
  intro tr ok hdr0 S0 h0 w0 a0 h T hdr S a w f e T' h' f' Q l hn ev hO hK
  obtain ⟨T1, h1, hdr1, rfl, l1, ev⟩ := l.normed ev
  have hO2 : ∀ id, ok id → id < h0.c := fun id k => by
    rcases hO id k with k | k
    · exact k
    · cases k.1
  obtain ⟨hdr2, l2⟩ := Left.ownAll bs ts l1 hO2 h0.c
  unfold ex at ev
  simp only [run, cond_false, Option.bind_some] at ev
  exact hs false ok hdr0 S0 h0 w0 a0 _ _ hdr2 S a w f e T' h' f' Q l2 hn ev hO hK
end
end Go.Proofs.YtmjbedjnojcmfaaDoor.Ex

namespace Go.Proofs.YtmjbedjnojcmfaaDoor.Ex
set_option linter.unusedSectionVars false
section
variable [RT]
end
end Go.Proofs.YtmjbedjnojcmfaaDoor.Ex

