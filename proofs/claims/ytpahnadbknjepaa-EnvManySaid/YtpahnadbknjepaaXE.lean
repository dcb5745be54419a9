/- A part of the proofs of the laws of environments: XE. -/
import Derived.Test.YtpahnadbknjepaaXD
/- slices.Clone at any plain element: a row of one's own, also of nil. -/
namespace Go.Proofs.Ytpahnadbknjepaa.Ex
set_option linter.unusedSectionVars false
section
variable [RT] {P : Program}

def cop5 (t : TypeId) (s3 : String) : Oper := { dst := some 5, op := Op.buildSlice t 0 #[], type := t, pos := s3, after := #[], guard := none }

def cop6 (t : TypeId) (s3 : String) : Oper := { dst := some 6, op := Op.move (Operand.tmp 0), type := t, pos := s3, after := #[], guard := none }
def cop7 (t : TypeId) (s3 : String) : Oper := { dst := some 7, op := Op.call { callee := Callee.builtin Builtin.append, args := #[Operand.tmp 5, Operand.tmp 6], argTypes := #[t, t] }, type := t, pos := s3, after := #[{ on := 0, ground := Ground.data }, { on := 1, ground := Ground.data }], guard := none }
def cop8 (t : TypeId) (s3 : String) : Oper := { dst := some 2, op := Op.assign (Operand.tmp 7), type := t, pos := s3, after := #[{ on := 2, ground := Ground.data }, { on := 2, ground := Ground.chain }, { on := 0, ground := Ground.phase }, { on := 1, ground := Ground.phase }, { on := 2, ground := Ground.phase }], guard := none }

def cloneC (t tb : TypeId) (s0 s1 s2 s3 : String) : Code :=
  (Code.region 0 #[{ dst := some 2, op := Op.assign (Operand.const (Value.slice none 0 0)), type := t, pos := s0, after := #[], guard := none }] false).seq
    (((Code.region 1 #[{ dst := some 3, op := Op.move (Operand.tmp 0), type := t, pos := s1, after := #[], guard := none },
        { dst := some 4, op := Op.binOp BinOp.eql t (Operand.tmp 3) (Operand.const (Value.slice none 0 0)) t, type := tb, pos := s1, after := #[{ on := 0, ground := Ground.data }], guard := none }] false).seq
      (Code.cond (Operand.tmp 4)
        ((Code.region 2 #[{ dst := some 2, op := Op.assign (Operand.const (Value.slice none 0 0)), type := t, pos := s2, after := #[], guard := none }] false).seq Code.ret)
        Code.skip)).seq
    ((Code.region 3 #[cop5 t s3, cop6 t s3, cop7 t s3, cop8 t s3] false).seq Code.ret))

def cloneP (bytes : Nat) (e : Ty) (args : List AV) : Prog AV := match args with
  | [x] => .new (.row e []) fun i => content x e fun l' => .get i fun
    | .row e1 l1 => .opt (castL e1 e l1) fun l => .ite (decide ((l.length + l'.length + 1) * bytes ≤ lim)) (.del i (.new (.row e (l ++ l')) fun id' => .ret (.row id'))) .fail
    | .box _ => .fail
  | _ => .fail

theorem wpOps_sat {o : Oper} {a : Act} {w : World} {tr : Bool} {ok : Nat → Prop} {hdr : Nat → Value} {S : Stb} {h h' : Hp} {v : AV} {ops : Array Oper} {Q : Exit → Act → World → Prop} {i : Nat} {rest : List Nat}
    (hi : ops[i]? = some o) (hg : o.guard = none) (s : Sat P o a w tr ok hdr S h h' v)
    (K : ∀ u w' hdr' S', Post tr ok hdr S h w hdr' S' h' w' → VRep hdr' S' v u → (∀ n ∈ v.ids, okn ok h.c h'.c n) → wpOps P ops Q rest (a.put o.dst u) w') : wpOps P ops Q (i :: rest) a w := by
  rw [wpOps_cons]
  unfold wpOp
  simp only [hi]
  rw [if_pos (by unfold Region.wanted; rw [hg])]
  exact .inl (s _ Q K)
theorem wpOps_val {o : Oper} {a : Act} {w : World} {ops : Array Oper} {Q : Exit → Act → World → Prop} {i : Nat} {rest : List Nat} {u : Value}
    (hi : ops[i]? = some o) (hg : o.guard = none) (hx : (execOp a.eval o).run P w = .ok (.value u) w) (K : wpOps P ops Q rest (a.put o.dst u) w) : wpOps P ops Q (i :: rest) a w := by
  rw [wpOps_cons]
  unfold wpOp
  simp only [hi]
  rw [if_pos (by unfold Region.wanted; rw [hg])]
  refine .inl ?_
  unfold Oper.wp
  rw [hx]
  exact K

theorem nil_content {x : AV} {no : Nat} {cap : Nat} {e : Ty} {tr : Bool} {h : Hp} {f : Foot} {hdr : Nat → Value} {S : Stb} {w : World} {k : List (D e) → Prog AV} {r : AV × Hp × Foot} (hr : HReal hdr S h.blks w) (hx : VRep hdr S x (.slice none no cap))
    (q : ex (content x e k) tr h f = some r) : no = 0 ∧ ∃ f1, ex (k []) tr h f1 = some r := by
  unfold content at q
  split at q
  · cases hx; exact ⟨rfl, f, q⟩
  · rename_i e' l
    cases hx with | sl _ _ v hd =>
    obtain ⟨l2, h2, q⟩ := ex_opt q
    obtain ⟨rfl, rfl⟩ := castL_eq h2
    cases hd with
    | slNil _ ao cap => exact ⟨rfl, f, q⟩
  · rename_i id
    obtain ⟨b, hb, q⟩ := ex_get q
    cases hx with | row _ _ _ _ hh =>
    have br := hr.blk id _ hb
    cases br with
    | box => exact (ex_fail q).elim
    | rowNil e1 a0 hh' =>
      rw [hh] at hh'; cases hh'
      obtain ⟨l2, h2, q⟩ := ex_opt q
      obtain ⟨he, hl⟩ := castL_eq h2
      subst he
      simp only at hl
      subst hl
      exact ⟨rfl, _, q⟩
    | row _ _ _ _ _ _ hh' => rw [hh] at hh'; cases hh'
  · exact (ex_fail q).elim

theorem bin_val {o : Oper} {a : Act} {w : World} {op : BinOp} {t t' : TypeId} {x y : Operand} {X Y z : Value} (ho : o.op = .binOp op t x y t') (hx : a.eval x = X) (hy : a.eval y = Y)
    (h : ((do eqGuard op t x y X Y; binOp op t X Y) : Sem Value).run P w = .ok z w) : (execOp a.eval o).run P w = .ok (.value z) w := by
  subst hx hy
  simp only [Sem.run_bind] at h
  simp only [execOp, ho, Sem.run_bind, h, Result.andThen_ok, Sem.run_pure]

theorem clone_sound {cx : Ctx} {cal : FuncId → List AV → Prog AV} (hcx : TabOk P cx.tab) {g : FuncId} {fn : Func} (hf : P.funcs[g]? = some fn) (hname : (fn.name == "runtime.NumGoroutine") = false) {t tb : TypeId} {s0 s1 s2 s3 : String}
    (hb : fn.body = some (cloneC t tb s0 s1 s2 s3)) (hn : fn.ntmps = 8) (hres : fn.results = #[.tmp 2]) {i ie : TInfo} (hi : tiL cx.tab t = some i) (hie : tiL cx.tab i.elem = some ie) {e : Ty} (he : slTy i.ty = some e)
    (hby : Nat.beq ie.bytes 0 = false) : SoundA P g (cloneP ie.bytes e) := by
  intro tr args h ft v h' ft' vals hdr S w ok ev hr hm hv hids hO
  unfold cloneP at ev
  split at ev
  case h_2 => exact (ex_fail ev).elim
  rename_i x
  cases hv with | cons _ u _ _ hx hvn =>
  cases hvn
  have ev1 := ex_new ev
  have hsl := slTy_eq he
  obtain ⟨hu, ie', hie', hety⟩ := (hcx t i hi).slice hsl
  have hm1 : tr = true → h.c + 1 ≤ h'.c := fun ht => by subst ht; exact ex_mono _ _ _ _ ev1
  have hO1 : ∀ id, ok id → Out tr h.c (h.c + 1) id := fun id k => (hO id k).less hm1
  have p0 := post_new' (tr := tr) (ok := ok) hr hm hO1 (.row e []) (fun n hn => by cases hn) w rfl rfl rfl (Nat.le_refl _) (fun _ _ => rfl) (.slice none 0 0) (.inl rfl) (fun hdr' _ g2 => .rowNil e none g2)
  have hx0 := p0.vrep hx (fun n hn => hids n (by simpa [AV.idsL] using hn)) hO1
  refine ⟨fun args w => MuLone.run_callFunc_enter hf hname hb args w, calls_of_wp hf hb ?_⟩
  unfold cloneC
  have hsz : (#[u] ++ Array.replicate (fn.ntmps - (#[u] : Array Value).size) undef) = #[u, undef, undef, undef, undef, undef, undef, undef] := by rw [hn]; rfl
  have hv0 : ([u] : List Value).toArray = #[u] := rfl
  rw [hv0, hsz]
  refine wp_seq (wp_region (wpOps_val (o := _) rfl rfl (u := .slice none 0 0) (by simp [execOp, Act.eval]) ?_))
  show wpOps P _ _ [] _ _
  refine wp_seq (wp_seq (wp_region (wpOps_val (o := _) rfl rfl (u := u) (by simp [execOp, Act.eval, Act.put]) ?_)))
  have hslice : ∃ bo n cap, u = .slice bo n cap := by
    obtain ⟨l0, f0, ev2, bo, cap0, hu0, -⟩ := content_rep (P := P) p0.real hx0 ev1
    exact ⟨bo, _, _, hu0⟩
  obtain ⟨bo, n, cap, rfl⟩ := hslice
  have heq : ∀ (x y : Operand), ((do eqGuard .eql t x y (.slice bo n cap) (.slice none 0 0); binOp .eql t (.slice bo n cap) (.slice none 0 0)) : Sem Value).run P w = .ok (.bool bo.isNone) w := by
    intro x y
    have g3 : binOp .eql t (.slice bo n cap) (.slice none 0 0) = (do pure (.bool (← Op.equal t (.slice bo n cap) (.slice none 0 0)))) := rfl
    have g1 : (eqGuard .eql t x y (.slice bo n cap) (.slice none 0 0)).run P w = .ok () w := rfl
    have g2 : (Op.equal t (.slice bo n cap) (.slice none 0 0)).run P w = .ok bo.isNone w := by
      show (Op.equalIn (9999 + 1) t _ _).run P w = _
      unfold Op.equalIn
      simp only [Sem.run_bind, run_underlying hu, Result.andThen_ok]
      cases bo <;> rfl
    simp only [g3, Sem.run_bind, g1, Result.andThen_ok, g2, Sem.run_pure]
  refine wpOps_val (o := _) rfl rfl (u := .bool bo.isNone) (bin_val (z := .bool bo.isNone) rfl (by simp [Act.eval, Act.put]) (by simp [Act.eval]) (heq _ _)) ?_
  show wpOps P _ _ [] _ _
  have fin : ∀ (a : Act) (w1 : World) (u1 : Value) (R : Ending → World → Prop), a.defers = [] → a.tmps.getD 2 undef = u1 → R (.returned u1) w1 → bodyPost P fn R .ret a w1 := fun a w1 u1 R hd ht hR =>
    ⟨hd, u1, by
      have := results_sound (P := P) (fn := fn) (a := a) (w := w1) (us := [u1]) (by rw [hres]; simp [resG, ht])
      rw [this]; rfl, hR⟩
  cases bo with
  | none =>
    obtain ⟨rfl, f1, ev2⟩ := nil_content p0.real hx0 ev1
    refine wp_cond_true (by simp [Act.eval, Act.put]) ?_
    refine wp_seq (wp_region (wpOps_val (o := _) rfl rfl (u := .slice none 0 0) (by simp [execOp, Act.eval]) ?_))
    show wpOps P _ _ [] _ _
    refine wp_ret ?_
    simp only [Exit.then]
    refine fin _ _ (.slice none 0 0) _ rfl (by simp [Act.put]) ?_
    obtain ⟨b1, hb1, ev3⟩ := ex_get ev2
    have hb2 : b1 = .row e [] := by
      have : findB ((h.c, Blk.row e []) :: h.blks) h.c = some (.row e []) := by rw [findB_cons, if_pos rfl]
      rw [this] at hb1; exact (Option.some.inj hb1).symm
    subst hb2
    obtain ⟨l2, hl2, ev4⟩ := ex_opt ev3
    obtain ⟨he2, hl3⟩ := castL_eq hl2
    simp only at hl3
    subst hl3
    rcases ex_ite ev4 with ⟨_, ev5⟩ | ⟨_, ev5⟩
    case inr => exact (ex_fail ev5).elim
    obtain ⟨_, ev6⟩ := ex_del ev5
    have ev7 := ex_new ev6
    cases ex_ret ev7
    have pdel := post_del (tr := tr) p0.real p0.ment h.c _ hb1 S (fun _ _ k => k) (fun _ _ k => .inl k)
    have p1 := p0.trans pdel
    have pnew := post_new' (tr := tr) pdel.real pdel.ment (fun id k => by
      rcases k with k | k
      · rcases k with k | k
        · rcases hO id k with q | ⟨ht, q⟩
          · exact .inl (Nat.lt_succ_of_lt q)
          · exact .inr ⟨ht, q⟩
        · exact .inl k.2
      · exact .inl k.2) (.row e ([] ++ [])) (fun n hn => by cases hn) w rfl rfl rfl (Nat.le_refl _) (fun _ _ => rfl) (.slice none 0 0) (.inl rfl) (fun hdr' _ g2 => .rowNil e none g2)
    refine ⟨.slice none 0 0, _, _, rfl, p0.trans (pdel.trans pnew), .row _ _ _ _ (hdrN_same _ _ _), fun n hn => ?_⟩
    simp only [AV.ids, List.mem_singleton] at hn
    subst hn
    exact .inr ⟨by simp, by simp⟩
  | some ad =>
    refine wp_cond_false (by simp [Act.eval, Act.put]) (wp_skip ?_)
    show Code.wp P (.seq _ _) _ _ _
    refine wp_seq (wp_region ?_)
    generalize hA : (Act.put _ _ _ : Act) = a1
    have t0 : a1.tmps.getD 0 undef = .slice (some ad) n cap := by subst hA; simp [Act.put]
    have tsz : a1.tmps.size = 8 := by subst hA; simp [Act.put]
    have td : a1.defers = [] := by subst hA; simp [Act.put]
    clear hA
    have pre1 : Pre P tr ok hdr S h w [(0, x)] a1 := ⟨hr, hm, fun s => by
      rw [getT_cons]
      by_cases k : 0 = s
      · rw [if_pos k, ← k, t0]; exact hx
      · rw [if_neg k]; exact .undef _, fun s m hs => by
      rw [getT_cons] at hs
      by_cases k : 0 = s
      · rw [if_pos k] at hs; exact hids m (by simpa [AV.idsL] using hs)
      · rw [if_neg k] at hs; simp [getT, AV.ids] at hs⟩
    show wpOps P _ _ [0, 1, 2, 3] _ _
    refine wpOps_sat (o := cop5 t s3) rfl rfl (sat_buildSlice (cx := cx) (cal := cal) (f := ft) hcx pre1 hO1 rfl (v := .row h.c) (h' := ⟨(h.c, .row e []) :: h.blks, h.c + 1⟩) (f' := addW tr ft h.c) ?_) ?_
    · unfold cop5
      simp only [opP]
      rw [hi]
      simp only [ex, run, Option.bind_some]
      rw [hie, he]
      simp only [Option.bind_some, Nat.zero_mul]
      rfl
    intro u5 w5 hdr5 S5 p5 v5 i5
    have pre2 : Pre P tr (okn ok h.c (h.c + 1)) hdr5 S5 ⟨(h.c, .row e []) :: h.blks, h.c + 1⟩ w5 [(6, x), (5, .row h.c)] ((a1.put (some 5) u5).put (some 6) (.slice (some ad) n cap)) := by
      refine ⟨p5.real, p5.ment, fun s => ?_, fun s m hs => ?_⟩
      · rw [getT_cons, getT_cons]
        by_cases k : 6 = s
        · rw [if_pos k, ← k]
          have e6 : ((a1.put (some 5) u5).put (some 6) (.slice (some ad) n cap)).tmps.getD 6 undef = .slice (some ad) n cap := by simp [Act.put, tsz]
          rw [e6]
          exact p5.vrep hx (fun n hn => hids n (by simpa [AV.idsL] using hn)) hO1
        · rw [if_neg k]
          by_cases k : 5 = s
          · rw [if_pos k, ← k]
            have e6 : ((a1.put (some 5) u5).put (some 6) (.slice (some ad) n cap)).tmps.getD 5 undef = u5 := by simp [Act.put, tsz]
            rw [e6]
            exact v5
          · rw [if_neg k]; exact .undef _
      · rw [getT_cons, getT_cons] at hs
        by_cases k : 6 = s
        · rw [if_pos k] at hs; exact .inl (hids m (by simpa [AV.idsL] using hs))
        · rw [if_neg k] at hs
          by_cases k : 5 = s
          · rw [if_pos k] at hs; exact i5 m hs
          · rw [if_neg k] at hs; simp [getT, AV.ids] at hs
    have hO2 : ∀ id, okn ok h.c (h.c + 1) id → Out tr (h.c + 1) h'.c id := out_okn hO (Nat.le_succ _)
    refine wpOps_val (o := cop6 t s3) rfl rfl (u := .slice (some ad) n cap) (by
      have : (a1.put (some 5) u5).tmps.getD 0 undef = .slice (some ad) n cap := by simpa [Act.put] using t0
      simp only [execOp, cop6, Act.eval]
      show (pure (Next.value _) : Sem Next).run P w5 = _
      rw [Sem.run_pure]
      exact congrArg (fun z => Result.ok (Next.value z) w5) this) ?_
    refine wpOps_sat (o := cop7 t s3) rfl rfl (sat_append (cx := cx) (f := addW tr ft h.c) hcx pre2 hO2 rfl rfl rfl rfl hi hie he hby ev1) ?_
    intro u7 w7 hdr7 S7 p7 v7 i7
    refine wpOps_val (o := cop8 t s3) rfl rfl (u := u7) (by
      simp only [execOp, cop8, Act.eval]
      show (pure (Next.value _) : Sem Next).run P w7 = _
      rw [Sem.run_pure]
      refine congrArg (fun z => Result.ok (Next.value z) w7) ?_
      simp [Act.put, tsz, cop5, cop6, cop7]) ?_
    show wpOps P _ _ [] _ _
    refine wp_ret ?_
    refine fin _ _ u7 _ (by simpa [Act.put, cop5, cop6, cop7, cop8] using td) (by simp [Act.put, tsz, cop5, cop6, cop7, cop8]) ?_
    exact ⟨u7, hdr7, S7, rfl, p5.trans p7, v7, fun m hm => okn_trans (Nat.le_succ _) p7.mono m (i7 m hm)⟩
end
end Go.Proofs.Ytpahnadbknjepaa.Ex

