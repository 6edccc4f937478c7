/- Part 3 of the means of the proof: a verified abstract evaluator, the prepared functions, and contracts of functions. It states nothing of the claim by itself. -/
import Derived.Test.YtipflpdlbjckbaaB2
import Derived.KernelRfl
import Derived.Test.YtipflpdlbjckbaaProg
set_option linter.unusedSimpArgs false
set_option linter.unusedVariables false
namespace Go.Abs
open Go Go.RowKit Go.WideShapes Go.ChangeShapes

inductive ASh where
  | one (t : Ty)
  | agg (r : List Ty)
def SatA : ASh → D → Prop
  | .one t, d => Sat t d
  | .agg r, d => ∃ ds, d = .agg ds ∧ SatR r ds
def SatAs : List ASh → List D → Prop
  | [], ds => ds = []
  | s :: ss, ds => ∃ d r, ds = d :: r ∧ SatA s d ∧ SatAs ss r
def shOf (P : Program) (t : TypeId) : Option ASh :=
  match P.underlying t with
  | some (.struct _) => (rowOf P 60 t).map .agg
  | some _ => match rowOf P 60 t with
    | some [x] => some (.one x)
    | _ => none
  | none => none
def shsOf (P : Program) : List TypeId → Option (List ASh)
  | [] => some []
  | t :: ts => match shOf P t, shsOf P ts with
    | some s, some ss => some (s :: ss)
    | _, _ => none

section
variable {H : Type} {enc : TypeId × Value → H} {P : Program} {W : World}

theorem arg_sat {t : TypeId} {sh : ASh} {v : Value} {d : DataW H} {p : List MemPlace} {r : Reach} {b0 base : Nat} {sp : Nat → Bool} {held : Bool} (hs : shOf P t = some sh) (hval : Value.okWide P W r b0 t v) (h : DataW.Trod enc P W base sp held t v d p) :
    ∃ D, SatA sh D ∧ RepP (snap W) D v := by
  obtain ⟨fuel, h⟩ := h
  unfold shOf at hs
  cases hu : P.underlying t with
  | none => simp [hu] at hs
  | some ty =>
    rw [hu] at hs
    by_cases hst : ∃ fs, ty = .struct fs
    · obtain ⟨fs, rfl⟩ := hst
      obtain ⟨row, hr, rfl⟩ := Option.map_eq_some_iff.1 hs
      unfold Value.okWide at hval
      rw [hu] at hval
      obtain ⟨cs, rfl, _, _⟩ := hval
      obtain ⟨ds, h1, h2⟩ := open_row fuel 60 t row _ _ hr h
      refine ⟨.agg ds, ⟨ds, rfl, h1⟩, ?_⟩
      simp only [RepP]
      exact ⟨cs.toList, rfl, h2⟩
    · have hs' : (match rowOf P 60 t with | some [x] => some (ASh.one x) | _ => none) = some sh := by
        revert hs
        cases ty <;> simp_all
      split at hs'
      · rename_i x hr
        cases hs'
        obtain ⟨ds, h1, h2⟩ := open_row fuel 60 t [x] _ _ hr h
        simp only [SatR] at h1
        obtain ⟨D, _, rfl, h3, rfl⟩ := h1
        refine ⟨D, h3, ?_⟩
        have hna : v.cells.toList = [v] := by
          cases v <;> try rfl
          exfalso
          unfold rowOf at hr
          rw [hu] at hr
          unfold Value.okWide at hval
          rw [hu] at hval
          cases ty <;> simp_all [Cell.okWide, Cell.ok]
        rw [hna] at h2
        simp only [RepCs] at h2
        exact h2.1.2
      · cases hs'

theorem args_sat : ∀ {ts : List TypeId} {shs : List ASh} {vs : List Value} {ds : List (DataW H)} {ps : List MemPlace} {r : Reach} {b0 base : Nat} {sp : Nat → Bool} {held : Bool}, shsOf P ts = some shs →
    (∀ (j : Nat) t v, ts[j]? = some t → vs[j]? = some v → Value.okWide P W r b0 t v) → DataW.TrodAll enc P W base sp held ts vs ds ps → ∃ Ds, SatAs shs Ds ∧ RepVs (snap W) Ds vs
  | [], shs, vs, ds, ps, _, _, _, _, _, hs, _, h => by
    obtain ⟨rfl, rfl, rfl⟩ := trodAll_nil h
    simp only [shsOf, Option.some.injEq] at hs; subst hs
    exact ⟨[], rfl, by simp only [RepVs]⟩
  | t :: ts, shs, vs, ds, ps, _, _, _, _, _, hs, hv, h => by
    obtain ⟨v, vs', d, ds', p, q, rfl, rfl, rfl, hd, hrest⟩ := trodAll_cons h
    simp only [shsOf] at hs
    split at hs
    · rename_i s ss e1 e2
      cases hs
      obtain ⟨D, h1, h2⟩ := arg_sat e1 (hv 0 t v rfl rfl) hd
      obtain ⟨Ds, h3, h4⟩ := args_sat e2 (fun j t v ht hvj => hv (j + 1) t v (by simpa using ht) (by simpa using hvj)) hrest
      exact ⟨D :: Ds, ⟨D, Ds, rfl, h1, h3⟩, by simp only [RepVs]; exact ⟨h2, h4⟩⟩
    · cases hs

theorem trodAll_keeps (hl : laidOutB P = true) {W' : World} {sp' : Nat → Bool} (hb : Below W.heap.size W W') : ∀ {ts : List TypeId} {vs : List Value} {ds : List (DataW H)} {ps : List MemPlace}, (∀ t ∈ ts, P.readableRec t = true ∧ t < P.types.size) →
    DataW.TrodAll enc P W 0 (fun _ => true) true ts vs ds ps → (∀ p ∈ ps, p.block < W.heap.size) → (∀ p ∈ ps, sp' p.block = true) → DataW.TrodAll enc P W' 0 sp' true ts vs ds ps
  | [], vs, ds, ps, _, h, _, _ => by
    obtain ⟨rfl, rfl, rfl⟩ := trodAll_nil h
    exact rfl
  | t :: ts, vs, ds, ps, hr, h, hlt, hsp => by
    obtain ⟨v, vs', d, ds', p, q, rfl, rfl, rfl, hd, hrest⟩ := trodAll_cons h
    obtain ⟨r1, r2⟩ := hr t (by simp)
    exact ⟨p, q, WideElems.Trod_stays hl r1 r2 hd (fun x hx => hb.same (hlt x (by simp [hx]))) (fun x hx => hsp x (by simp [hx])),
      trodAll_keeps hl hb (fun t ht => hr t (by simp [ht])) hrest (fun x hx => hlt x (by simp [hx])) (fun x hx => hsp x (by simp [hx])), rfl⟩

/-- The row's last step where of memory no more is known than that what was there stays. -/
theorem post_keeps {f : Func} {s : ChangeSpec} {apart fresh handsOn again : Bool} {W' : World} {args : Array Value} {v : Value} {ds gs : List (DataW H)} {before pa pv : List MemPlace}
    (hW : DataW.Whole enc P f.params.toList s.vars apart W args.toList ds gs before)
    (hres : ∀ (b : Nat) (sp : Nat → Bool) (hd : Bool), DataW.TrodAll enc P W' b sp hd f.resultTypes.toList (v.resultList f.resultTypes.size) (s.fn H (ds ++ gs)).results [])
    (hargs : ∀ sp : Nat → Bool, (∀ p ∈ before, sp p.block = true) → DataW.TrodAll enc P W' 0 sp true f.params.toList args.toList (s.fn H (ds ++ gs)).args pa)
    (hvars : ∀ sp : Nat → Bool, (∀ p ∈ before, sp p.block = true) → DataW.TrodVars enc P W' sp s.vars (s.fn H (ds ++ gs)).vars pv)
    (hps : before = pa ++ pv) (hb : Below W.heap.size W W')
    (hok : ∀ (j : Nat) (t : TypeId) (r : Value), f.resultTypes[j]? = some t → (v.resultList f.resultTypes.size)[j]? = some r → Value.okWide P W' .any 0 t r) :
    s.post enc P f apart fresh handsOn again W args v W' := by
  have hin : ∀ p ∈ before, p.block < W.heap.size := fun p hp => hW.lt p hp
  have hsp : ∀ p ∈ before, (fun b => decide (b < W.heap.size)) p.block = true := fun p hp => by simpa using hin p hp
  refine ⟨ds, gs, before, [], pa, pv, hW, hres _ _ _, hargs _ hsp, hvars _ hsp, World.keptBut_mono (fun p hp => ⟨hp, ?_⟩) (hb.frame (· ∈ before)), fun _ => ?_⟩
  · rw [hps, List.mem_append] at hp
    exact .inr hp
  · obtain ⟨_, _, _, _, _, hz, hn⟩ := hW
    refine ⟨hok, _, _, ([] ++ pa) ++ pv, ⟨[] ++ pa, pv, trodAll_append (hargs _ (fun _ _ => rfl)) (hres _ _ _), hvars _ (fun _ _ => rfl), rfl, fun b off hp => ?_, fun ha => ?_⟩, fun p hp _ => ?_⟩
    · have hmem : MemPlace.cell b off ∈ before := by rw [hps]; simpa using hp
      rw [hb.frozen (hin _ hmem)]
      exact hz b off hmem
    · have := hn ha
      rw [hps] at this
      simpa using this
    · rw [hps]; simpa using hp
end

/-- **A LAW, OUT OF THE CONTRACT OF ITS FUNCTION.** -/
theorem law_lift {C : Checked} {os : Os} {F : Nat} {fn : Func} {s : ChangeSpec} {conds : List PathCond} {H : Type} {enc : TypeId × Value → H} {shs : List ASh} {tb : TypeId} (own : ownKnob C.prog.godebug = none) (started : os.Started)
    (noInit : C.prog.inits.idxOf? F = none) (hfn : C.prog.funcs[F]? = some fn) (hvars : s.vars = [])
    (witness : ∃ (w : World) (tape : Tape) (i : Input), w.os = os ∧ (w.forCall tape i).Shaped C.prog ∧ i.vars = [] ∧ Input.okWide C.prog (w.forCall tape i) .any w.heap.size F i ∧
      s.pre6 enc C.prog fn conds false (w.forCall tape i).memory i.args ∧ ({} : Assume).holds C.prog (lone (Frame.enter C.prog F i.args .normal) [] (w.forCall tape i)))
    (hl : laidOutB C.prog = true) (hread : ∀ t ∈ fn.params.toList, C.prog.readableRec t = true ∧ t < C.prog.types.size) (hres : fn.resultTypes = #[tb]) (hbool : C.prog.underlying tb = some .bool)
    (hsh : shsOf C.prog fn.params.toList = some shs) (hspec : ∀ ds : List (DataW H), ds.length = fn.params.toList.length → s.fn H ds = { results := [.lit (.bool true)], args := ds })
    (hlaw : ∀ Ds, SatAs shs Ds → Ok C.prog F Ds (.bool true)) :
    ReturnsInHanded {} C os F .any (s.pre6 enc C.prog fn conds false) (s.post enc C.prog fn false true false false) := by
  refine returnsInHanded_of_change own started noInit hfn witness ?_
  intro W base args ds gs before hval hW _ _
  have hW' := hW
  obtain ⟨p, q, hA, hV, rfl, hfz, hnd⟩ := hW
  rw [hvars] at hV
  obtain ⟨rfl, rfl⟩ := trodVars_none hV
  obtain ⟨Ds, h1, h2⟩ := args_sat hsh (fun j t v ht hv => hval j t v (by simpa using ht) (by simpa using hv)) hA
  have hlen : ds.length = fn.params.toList.length := by
    have : ∀ {ts : List TypeId} {vs : List Value} {ds : List (DataW H)} {ps : List MemPlace}, DataW.TrodAll enc C.prog W 0 (fun _ => true) true ts vs ds ps → ds.length = ts.length := by
      intro ts
      induction ts with
      | nil => intro vs ds ps h; obtain ⟨_, rfl, _⟩ := trodAll_nil h; rfl
      | cons t ts ih =>
        intro vs ds ps h
        obtain ⟨v, vs', d, ds', p, q, rfl, rfl, rfl, hd, hrest⟩ := trodAll_cons h
        simp [ih hrest]
    exact this hA
  have hsp : s.fn H (ds ++ []) = { results := [.lit (.bool true)], args := ds } := by rw [List.append_nil]; exact hspec ds hlen
  have hcall := (hlaw Ds h1).2 (snap W) W args.toList (snap_rel W) h2
  rw [Array.toArray_toList] at hcall
  refine hcall.mono fun e W' ⟨v, K', he, hv, hkr, hsz, hh, hk, hfx⟩ => ?_
  simp only [RepP] at hv
  subst he
  subst hv
  have hb : Below W.heap.size W W' := ⟨hfx.1, hfx.2.1, hfx.2.2, hsz, fun k hk => hh k hk⟩
  refine ⟨_, rfl, post_keeps (pa := p) (pv := []) hW' (fun b sp hd => ?_) (fun sp hsp' => ?_) (fun _ _ => ?_) rfl hb (ok_one hres rfl (okWide_bool_mk hbool true))⟩
  · rw [hsp, hres]
    exact trodAll_mk1 (shut_bool hbool true)
  · rw [hsp]
    exact trodAll_keeps hl hb hread hA (fun x hx => hW'.lt x (by simp [hx])) (fun x hx => hsp' x (by simp [hx]))
  · rw [hsp, hvars]; rfl
/-- Rows of numbers. -/
theorem sat_ints {rows : List (List D)} (h : ∀ row ∈ rows, SatR [.int .i64] row) : ∃ l : List Int, rows = l.map (fun x => [D.int .i64 x]) ∧ ∀ x ∈ l, -9223372036854775808 ≤ x ∧ x ≤ 9223372036854775807 := by
  induction rows with
  | nil => exact ⟨[], rfl, by simp⟩
  | cons row rows ih =>
    obtain ⟨l, h1, h2⟩ := ih fun r hr => h r (by simp [hr])
    have h0 := h row (by simp)
    simp only [SatR, Sat] at h0
    obtain ⟨_, _, rfl, ⟨n, rfl, h3, h4⟩, rfl⟩ := h0
    refine ⟨n :: l, by simp [h1], fun x hx => ?_⟩
    rcases List.mem_cons.1 hx with rfl | hx
    · exact ⟨h3, h4⟩
    · exact h2 x hx
end Go.Abs
namespace Go.Proofs
open Go Go.Abs
set_option maxRecDepth 100000
def tf2 : TFn := ⟨1, [],
 .region false [⟨(some 0), .call 1 [], none⟩]⟩

def tf3 : TFn := ⟨54, [.tmp 6],
 .seq (
  .region false [⟨(some 3), .box 25 (.s 0), none⟩,
    ⟨(some 4), .box 25 (.s 1), none⟩,
    ⟨(some 5), .box 23 (.s 2), none⟩,
    ⟨(some 6), .mov (.c (.bool false)), none⟩]) [3, 4, 5] (
 .seq (
  .seq (
   .region false [⟨(some 7), .load true 7 (.s 3), none⟩,
     ⟨(some 8), .call 9 [(.s 7)], none⟩,
     ⟨(some 9), .un .not (.s 8), none⟩,
     ⟨(some 10), .mov (.s 9), none⟩,
     ⟨(some 11), .load true 7 (.s 4), (some (10, false))⟩,
     ⟨(some 12), .call 9 [(.s 11)], (some (10, false))⟩,
     ⟨(some 13), .un .not (.s 12), (some (10, false))⟩,
     ⟨(some 14), .pick (.s 10) (.c (.bool true)) (.s 13), none⟩,
     ⟨(some 15), .mov (.s 14), none⟩,
     ⟨(some 16), .fieldAddr 3 (.s 5), (some (15, false))⟩,
     ⟨(some 17), .load false 1 (.s 16), (some (15, false))⟩,
     ⟨(some 18), .lenStr (.s 17), (some (15, false))⟩,
     ⟨(some 19), .bin .gtr false (.s 18) (.c (.int .i64 100)), (some (15, false))⟩,
     ⟨(some 20), .pick (.s 15) (.c (.bool true)) (.s 19), none⟩,
     ⟨(some 21), .mov (.s 20), none⟩,
     ⟨(some 22), .fieldAddr 4 (.s 5), (some (21, false))⟩,
     ⟨(some 23), .load false 1 (.s 22), (some (21, false))⟩,
     ⟨(some 24), .lenStr (.s 23), (some (21, false))⟩,
     ⟨(some 25), .bin .gtr false (.s 24) (.c (.int .i64 100)), (some (21, false))⟩,
     ⟨(some 26), .pick (.s 21) (.c (.bool true)) (.s 25), none⟩]) [3, 4, 5, 26] (
  .cond (.s 26) (
   .seq (
    .region false [⟨(some 27), .call 10 [], none⟩,
      ⟨(some 6), .mov (.s 27), none⟩]) [6] (
   .ret)) (
   .skip))) [3, 4, 5] (
 .seq (
  .region true [⟨(some 28), .call 10 [], none⟩,
    ⟨(some 29), .mov (.s 28), none⟩,
    ⟨(some 30), .load true 7 (.s 3), (some (29, true))⟩,
    ⟨(some 31), .call 11 [(.s 30)], (some (29, true))⟩,
    ⟨(some 32), .load true 7 (.s 3), (some (29, true))⟩,
    ⟨(some 33), .call 12 [(.s 32)], (some (29, true))⟩,
    ⟨(some 34), .bin .eql true (.s 31) (.s 33), (some (29, true))⟩,
    ⟨(some 35), .pick (.s 29) (.s 34) (.c (.bool false)), none⟩,
    ⟨(some 36), .mov (.s 35), none⟩,
    ⟨(some 37), .load true 7 (.s 3), (some (36, true))⟩,
    ⟨(some 38), .load true 7 (.s 4), (some (36, true))⟩,
    ⟨(some 39), .call 13 [(.s 37), (.s 38)], (some (36, true))⟩,
    ⟨(some 40), .load true 7 (.s 3), (some (36, true))⟩,
    ⟨(some 41), .load true 7 (.s 4), (some (36, true))⟩,
    ⟨(some 42), .call 14 [(.s 40), (.s 41)], (some (36, true))⟩,
    ⟨(some 43), .bin .eql false (.s 39) (.s 42), (some (36, true))⟩,
    ⟨(some 44), .pick (.s 36) (.s 43) (.c (.bool false)), none⟩,
    ⟨(some 45), .mov (.s 44), none⟩,
    ⟨(some 46), .load true 7 (.s 3), (some (45, true))⟩,
    ⟨(some 47), .load true 5 (.s 5), (some (45, true))⟩,
    ⟨(some 48), .call 15 [(.s 46), (.s 47)], (some (45, true))⟩,
    ⟨(some 49), .load true 7 (.s 3), (some (45, true))⟩,
    ⟨(some 50), .load true 5 (.s 5), (some (45, true))⟩,
    ⟨(some 51), .call 16 [(.s 49), (.s 50)], (some (45, true))⟩,
    ⟨(some 52), .bin .eql true (.s 48) (.s 51), (some (45, true))⟩,
    ⟨(some 53), .pick (.s 45) (.s 52) (.c (.bool false)), none⟩,
    ⟨(some 6), .mov (.s 53), none⟩]) [6] (
 .ret)))⟩

def tf4 : TFn := ⟨45, [.tmp 4],
 .seq (
  .region false [⟨(some 2), .box 32 (.s 0), none⟩,
    ⟨(some 3), .box 23 (.s 1), none⟩,
    ⟨(some 4), .mov (.c (.bool false)), none⟩]) [2, 3] (
 .seq (
  .seq (
   .region false [⟨(some 5), .fieldAddr 0 (.s 2), none⟩,
     ⟨(some 6), .load true 7 (.s 5), none⟩,
     ⟨(some 7), .call 9 [(.s 6)], none⟩,
     ⟨(some 8), .un .not (.s 7), none⟩,
     ⟨(some 9), .mov (.s 8), none⟩,
     ⟨(some 10), .fieldAddr 7 (.s 2), (some (9, false))⟩,
     ⟨(some 11), .load true 7 (.s 10), (some (9, false))⟩,
     ⟨(some 12), .call 9 [(.s 11)], (some (9, false))⟩,
     ⟨(some 13), .un .not (.s 12), (some (9, false))⟩,
     ⟨(some 14), .pick (.s 9) (.c (.bool true)) (.s 13), none⟩,
     ⟨(some 15), .mov (.s 14), none⟩,
     ⟨(some 16), .fieldAddr 3 (.s 3), (some (15, false))⟩,
     ⟨(some 17), .load false 1 (.s 16), (some (15, false))⟩,
     ⟨(some 18), .lenStr (.s 17), (some (15, false))⟩,
     ⟨(some 19), .bin .gtr false (.s 18) (.c (.int .i64 100)), (some (15, false))⟩,
     ⟨(some 20), .pick (.s 15) (.c (.bool true)) (.s 19), none⟩,
     ⟨(some 21), .mov (.s 20), none⟩,
     ⟨(some 22), .fieldAddr 4 (.s 3), (some (21, false))⟩,
     ⟨(some 23), .load false 1 (.s 22), (some (21, false))⟩,
     ⟨(some 24), .lenStr (.s 23), (some (21, false))⟩,
     ⟨(some 25), .bin .gtr false (.s 24) (.c (.int .i64 100)), (some (21, false))⟩,
     ⟨(some 26), .pick (.s 21) (.c (.bool true)) (.s 25), none⟩]) [2, 3, 26] (
  .cond (.s 26) (
   .seq (
    .region false [⟨(some 27), .call 10 [], none⟩,
      ⟨(some 4), .mov (.s 27), none⟩]) [4] (
   .ret)) (
   .skip))) [2, 3] (
 .seq (
  .region true [⟨(some 28), .call 10 [], none⟩,
    ⟨(some 29), .mov (.s 28), none⟩,
    ⟨(some 30), .load true 14 (.s 2), (some (29, true))⟩,
    ⟨(some 31), .call 17 [(.s 30)], (some (29, true))⟩,
    ⟨(some 32), .load true 14 (.s 2), (some (29, true))⟩,
    ⟨(some 33), .call 18 [(.s 32)], (some (29, true))⟩,
    ⟨(some 34), .bin .eql true (.s 31) (.s 33), (some (29, true))⟩,
    ⟨(some 35), .pick (.s 29) (.s 34) (.c (.bool false)), none⟩,
    ⟨(some 36), .mov (.s 35), none⟩,
    ⟨(some 37), .load true 14 (.s 2), (some (36, true))⟩,
    ⟨(some 38), .load true 5 (.s 3), (some (36, true))⟩,
    ⟨(some 39), .call 19 [(.s 37), (.s 38)], (some (36, true))⟩,
    ⟨(some 40), .load true 14 (.s 2), (some (36, true))⟩,
    ⟨(some 41), .load true 5 (.s 3), (some (36, true))⟩,
    ⟨(some 42), .call 20 [(.s 40), (.s 41)], (some (36, true))⟩,
    ⟨(some 43), .bin .eql true (.s 39) (.s 42), (some (36, true))⟩,
    ⟨(some 44), .pick (.s 36) (.s 43) (.c (.bool false)), none⟩,
    ⟨(some 4), .mov (.s 44), none⟩]) [4] (
 .ret)))⟩

def tf5 : TFn := ⟨80, [.tmp 2],
 .seq (
  .region false [⟨(some 2), .mov (.c (.bool false)), none⟩]) [0] (
 .seq (
  .region false [⟨(some 11), .mov (.s 0), none⟩,
    ⟨(some 12), .call 21 [(.s 11), (.c (.int .i64 0))], none⟩,
    ⟨(some 13), .mov (.s 0), none⟩,
    ⟨(some 14), .call 21 [(.s 13), (.c (.int .i64 6))], none⟩,
    ⟨(some 15), .mov (.s 0), none⟩,
    ⟨(some 16), .call 21 [(.s 15), (.c (.int .i64 12))], none⟩,
    ⟨(some 3), .alloc 25 [(.int .i64 0), (.int .i64 0), (.int .i64 0), (.int .i64 0), (.str []), (.str []), (.bool false)], none⟩,
    ⟨(some 4), .alloc 25 [(.int .i64 0), (.int .i64 0), (.int .i64 0), (.int .i64 0), (.str []), (.str []), (.bool false)], none⟩,
    ⟨(some 5), .alloc 25 [(.int .i64 0), (.int .i64 0), (.int .i64 0), (.int .i64 0), (.str []), (.str []), (.bool false)], none⟩,
    ⟨none, .store 7 (.s 3) (.s 12), none⟩,
    ⟨none, .store 7 (.s 4) (.s 14), none⟩,
    ⟨none, .store 7 (.s 5) (.s 16), none⟩]) [3, 4, 5] (
 .seq (
  .region true [⟨(some 17), .load true 7 (.s 3), none⟩,
    ⟨(some 18), .load true 7 (.s 4), none⟩,
    ⟨(some 19), .call 13 [(.s 17), (.s 18)], none⟩,
    ⟨(some 20), .load true 7 (.s 4), none⟩,
    ⟨(some 21), .load true 7 (.s 5), none⟩,
    ⟨(some 22), .call 13 [(.s 20), (.s 21)], none⟩,
    ⟨(some 23), .load true 7 (.s 3), none⟩,
    ⟨(some 24), .load true 7 (.s 5), none⟩,
    ⟨(some 25), .call 13 [(.s 23), (.s 24)], none⟩,
    ⟨(some 6), .mov (.s 19), none⟩,
    ⟨(some 7), .mov (.s 22), none⟩,
    ⟨(some 8), .mov (.s 25), none⟩]) [3, 4, 6, 7, 8] (
 .seq (
  .region false [⟨(some 26), .mov (.s 6), none⟩,
    ⟨(some 27), .bin .gtr false (.s 26) (.c (.int .i64 0)), none⟩,
    ⟨(some 28), .mov (.s 27), none⟩,
    ⟨(some 29), .mov (.s 7), (some (28, false))⟩,
    ⟨(some 30), .bin .gtr false (.s 29) (.c (.int .i64 0)), (some (28, false))⟩,
    ⟨(some 31), .pick (.s 28) (.c (.bool true)) (.s 30), none⟩,
    ⟨(some 32), .mov (.s 31), none⟩,
    ⟨(some 33), .mov (.s 8), (some (32, false))⟩,
    ⟨(some 34), .bin .leq false (.s 33) (.c (.int .i64 0)), (some (32, false))⟩,
    ⟨(some 35), .mov (.s 34), (some (32, false))⟩,
    ⟨(some 36), .mov (.s 6), (some (35, true))⟩,
    ⟨(some 37), .bin .eql false (.s 36) (.c (.int .i64 0)), (some (35, true))⟩,
    ⟨(some 38), .mov (.s 37), (some (35, true))⟩,
    ⟨(some 39), .mov (.s 7), (some (38, true))⟩,
    ⟨(some 40), .bin .eql false (.s 39) (.c (.int .i64 0)), (some (38, true))⟩,
    ⟨(some 41), .pick (.s 38) (.s 40) (.c (.bool false)), (some (35, true))⟩,
    ⟨(some 42), .mov (.s 8), (some (35, true))⟩,
    ⟨(some 43), .bin .eql false (.s 42) (.c (.int .i64 0)), (some (35, true))⟩,
    ⟨(some 44), .bin .eql true (.s 41) (.s 43), (some (35, true))⟩,
    ⟨(some 45), .pick (.s 35) (.s 44) (.c (.bool false)), (some (32, false))⟩,
    ⟨(some 46), .pick (.s 32) (.c (.bool true)) (.s 45), none⟩,
    ⟨(some 9), .mov (.s 46), none⟩]) [3, 4, 6, 9] (
 .seq (
  .region false [⟨(some 47), .build [(.int .i64 0), (.int .i64 0), (.int .i64 0), (.int .i64 0), (.str []), (.str []), (.bool false)] [(0, 1, (.c (.int .i64 (-1))))], none⟩,
    ⟨(some 48), .load true 7 (.s 3), none⟩,
    ⟨(some 49), .call 13 [(.s 47), (.s 48)], none⟩,
    ⟨(some 50), .bin .leq false (.s 49) (.c (.int .i64 0)), none⟩,
    ⟨(some 51), .mov (.s 50), none⟩,
    ⟨(some 52), .load true 7 (.s 3), (some (51, true))⟩,
    ⟨(some 53), .build [(.int .i64 0), (.int .i64 0), (.int .i64 0), (.int .i64 0), (.str []), (.str []), (.bool false)] [(0, 1, (.c (.int .i64 1)))], (some (51, true))⟩,
    ⟨(some 54), .call 13 [(.s 52), (.s 53)], (some (51, true))⟩,
    ⟨(some 55), .bin .leq false (.s 54) (.c (.int .i64 0)), (some (51, true))⟩,
    ⟨(some 56), .pick (.s 51) (.s 55) (.c (.bool false)), none⟩,
    ⟨(some 10), .mov (.s 56), none⟩]) [3, 4, 6, 9, 10] (
 .seq (
  .region false [⟨(some 57), .call 10 [], none⟩,
    ⟨(some 58), .mov (.s 57), none⟩,
    ⟨(some 59), .load true 7 (.s 4), (some (58, true))⟩,
    ⟨(some 60), .load true 7 (.s 3), (some (58, true))⟩,
    ⟨(some 61), .call 13 [(.s 59), (.s 60)], (some (58, true))⟩,
    ⟨(some 62), .mov (.s 6), (some (58, true))⟩,
    ⟨(some 63), .un .neg (.s 62), (some (58, true))⟩,
    ⟨(some 64), .bin .eql false (.s 61) (.s 63), (some (58, true))⟩,
    ⟨(some 65), .pick (.s 58) (.s 64) (.c (.bool false)), none⟩,
    ⟨(some 66), .mov (.s 65), none⟩,
    ⟨(some 67), .mov (.s 9), (some (66, true))⟩,
    ⟨(some 68), .pick (.s 66) (.s 67) (.c (.bool false)), none⟩,
    ⟨(some 69), .mov (.s 68), none⟩,
    ⟨(some 70), .mov (.s 10), (some (69, true))⟩,
    ⟨(some 71), .pick (.s 69) (.s 70) (.c (.bool false)), none⟩,
    ⟨(some 72), .mov (.s 71), none⟩,
    ⟨(some 73), .mov (.s 6), (some (72, true))⟩,
    ⟨(some 74), .bin .eql false (.s 73) (.c (.int .i64 0)), (some (72, true))⟩,
    ⟨(some 75), .load true 7 (.s 3), (some (72, true))⟩,
    ⟨(some 76), .load true 7 (.s 4), (some (72, true))⟩,
    ⟨(some 77), .eqs false [0, 0, 0, 0, 2, 2, 1] (.s 75) (.s 76), (some (72, true))⟩,
    ⟨(some 78), .bin .eql true (.s 74) (.s 77), (some (72, true))⟩,
    ⟨(some 79), .pick (.s 72) (.s 78) (.c (.bool false)), none⟩,
    ⟨(some 2), .mov (.s 79), none⟩]) [2] (
 .ret))))))⟩

def tf6 : TFn := ⟨41, [.tmp 2],
 .seq (
  .region false [⟨(some 2), .mov (.c (.bool false)), none⟩]) [0] (
 .seq (
  .region false [⟨(some 6), .mov (.s 0), none⟩,
    ⟨(some 7), .call 21 [(.s 6), (.c (.int .i64 0))], none⟩,
    ⟨(some 8), .mov (.s 0), none⟩,
    ⟨(some 9), .call 21 [(.s 8), (.c (.int .i64 6))], none⟩,
    ⟨(some 10), .mov (.s 0), none⟩,
    ⟨(some 11), .call 22 [(.s 10), (.c (.int .i64 12))], none⟩,
    ⟨(some 3), .alloc 25 [(.int .i64 0), (.int .i64 0), (.int .i64 0), (.int .i64 0), (.str []), (.str []), (.bool false)], none⟩,
    ⟨(some 4), .alloc 25 [(.int .i64 0), (.int .i64 0), (.int .i64 0), (.int .i64 0), (.str []), (.str []), (.bool false)], none⟩,
    ⟨(some 5), .alloc 23 [(.int .i64 0), (.int .i64 0), (.int .i64 0), (.str []), (.str [])], none⟩,
    ⟨none, .store 7 (.s 3) (.s 7), none⟩,
    ⟨none, .store 7 (.s 4) (.s 9), none⟩,
    ⟨none, .store 5 (.s 5) (.s 11), none⟩]) [3, 4, 5] (
 .seq (
  .seq (
   .region false [⟨(some 12), .load true 7 (.s 3), none⟩,
     ⟨(some 13), .load true 7 (.s 4), none⟩,
     ⟨(some 14), .call 13 [(.s 12), (.s 13)], none⟩,
     ⟨(some 15), .bin .gtr false (.s 14) (.c (.int .i64 0)), none⟩]) [3, 4, 5, 15] (
  .cond (.s 15) (
   .region false [⟨(some 16), .load true 7 (.s 4), none⟩,
     ⟨(some 17), .load true 7 (.s 3), none⟩,
     ⟨none, .store 7 (.s 3) (.s 16), none⟩,
     ⟨none, .store 7 (.s 4) (.s 17), none⟩]) (
   .skip))) [3, 4, 5] (
 .seq (
  .region false [⟨(some 18), .call 10 [], none⟩,
    ⟨(some 19), .mov (.s 18), none⟩,
    ⟨(some 20), .load true 7 (.s 4), (some (19, true))⟩,
    ⟨(some 21), .load true 5 (.s 5), (some (19, true))⟩,
    ⟨(some 22), .call 15 [(.s 20), (.s 21)], (some (19, true))⟩,
    ⟨(some 23), .un .not (.s 22), (some (19, true))⟩,
    ⟨(some 24), .mov (.s 23), (some (19, true))⟩,
    ⟨(some 25), .load true 7 (.s 3), (some (24, false))⟩,
    ⟨(some 26), .load true 5 (.s 5), (some (24, false))⟩,
    ⟨(some 27), .call 15 [(.s 25), (.s 26)], (some (24, false))⟩,
    ⟨(some 28), .pick (.s 24) (.c (.bool true)) (.s 27), (some (19, true))⟩,
    ⟨(some 29), .pick (.s 19) (.s 28) (.c (.bool false)), none⟩,
    ⟨(some 30), .mov (.s 29), none⟩,
    ⟨(some 31), .build [(.int .i64 0), (.int .i64 0), (.int .i64 0), (.int .i64 0), (.str []), (.str []), (.bool false)] [(0, 1, (.c (.int .i64 (-1))))], (some (30, true))⟩,
    ⟨(some 32), .load true 5 (.s 5), (some (30, true))⟩,
    ⟨(some 33), .call 15 [(.s 31), (.s 32)], (some (30, true))⟩,
    ⟨(some 34), .pick (.s 30) (.s 33) (.c (.bool false)), none⟩,
    ⟨(some 35), .mov (.s 34), none⟩,
    ⟨(some 36), .build [(.int .i64 0), (.int .i64 0), (.int .i64 0), (.int .i64 0), (.str []), (.str []), (.bool false)] [(0, 1, (.c (.int .i64 1)))], (some (35, true))⟩,
    ⟨(some 37), .load true 5 (.s 5), (some (35, true))⟩,
    ⟨(some 38), .call 15 [(.s 36), (.s 37)], (some (35, true))⟩,
    ⟨(some 39), .un .not (.s 38), (some (35, true))⟩,
    ⟨(some 40), .pick (.s 35) (.s 39) (.c (.bool false)), none⟩,
    ⟨(some 2), .mov (.s 40), none⟩]) [2] (
 .ret))))⟩

def tf7 : TFn := ⟨38, [.tmp 2],
 .seq (
  .region false [⟨(some 2), .mov (.c (.bool false)), none⟩]) [0] (
 .seq (
  .region false [⟨(some 7), .mov (.s 0), none⟩,
    ⟨(some 8), .call 22 [(.s 7), (.c (.int .i64 0))], none⟩,
    ⟨(some 9), .mov (.s 0), none⟩,
    ⟨(some 10), .call 22 [(.s 9), (.c (.int .i64 5))], none⟩,
    ⟨(some 3), .alloc 23 [(.int .i64 0), (.int .i64 0), (.int .i64 0), (.str []), (.str [])], none⟩,
    ⟨(some 4), .alloc 23 [(.int .i64 0), (.int .i64 0), (.int .i64 0), (.str []), (.str [])], none⟩,
    ⟨none, .store 5 (.s 3) (.s 8), none⟩,
    ⟨none, .store 5 (.s 4) (.s 10), none⟩]) [3, 4] (
 .seq (
  .region false [⟨(some 11), .load true 5 (.s 3), none⟩,
    ⟨(some 12), .call 23 [(.s 11)], none⟩,
    ⟨(some 5), .alloc 23 [(.int .i64 0), (.int .i64 0), (.int .i64 0), (.str []), (.str [])], none⟩,
    ⟨none, .store 5 (.s 5) (.s 12), none⟩]) [3, 4, 5] (
 .seq (
  .region false [⟨(some 13), .load true 5 (.s 5), none⟩,
    ⟨(some 14), .build [(.int .i64 0), (.int .i64 0), (.int .i64 0), (.int .i64 0), (.str []), (.str []), (.bool false)] [(1, 5, (.s 13))], none⟩,
    ⟨(some 15), .load true 5 (.s 5), none⟩,
    ⟨(some 16), .build [(.int .i64 0), (.int .i64 0), (.int .i64 0), (.int .i64 0), (.str []), (.str []), (.bool false)] [(1, 5, (.s 15)), (6, 1, (.c (.bool true)))], none⟩,
    ⟨(some 17), .build [(.int .i64 0), (.int .i64 0), (.int .i64 0), (.int .i64 0), (.str []), (.str []), (.bool false), (.int .i64 0), (.int .i64 0), (.int .i64 0), (.int .i64 0), (.str []), (.str []), (.bool false)] [(0, 7, (.s 14)), (7, 7, (.s 16))], none⟩,
    ⟨(some 6), .alloc 32 [(.int .i64 0), (.int .i64 0), (.int .i64 0), (.int .i64 0), (.str []), (.str []), (.bool false), (.int .i64 0), (.int .i64 0), (.int .i64 0), (.int .i64 0), (.str []), (.str []), (.bool false)], none⟩,
    ⟨none, .store 14 (.s 6) (.s 17), none⟩]) [3, 4, 6] (
 .seq (
  .region true [⟨(some 18), .call 10 [], none⟩,
    ⟨(some 19), .mov (.s 18), none⟩,
    ⟨(some 20), .load true 14 (.s 6), (some (19, true))⟩,
    ⟨(some 21), .call 17 [(.s 20)], (some (19, true))⟩,
    ⟨(some 22), .pick (.s 19) (.s 21) (.c (.bool false)), none⟩,
    ⟨(some 23), .mov (.s 22), none⟩,
    ⟨(some 24), .load true 14 (.s 6), (some (23, true))⟩,
    ⟨(some 25), .load true 5 (.s 4), (some (23, true))⟩,
    ⟨(some 26), .call 19 [(.s 24), (.s 25)], (some (23, true))⟩,
    ⟨(some 27), .load true 5 (.s 3), (some (23, true))⟩,
    ⟨(some 28), .load true 5 (.s 4), (some (23, true))⟩,
    ⟨(some 29), .call 24 [(.s 27), (.s 28)], (some (23, true))⟩,
    ⟨(some 30), .bin .eql false (.s 29) (.c (.int .i64 0)), (some (23, true))⟩,
    ⟨(some 31), .bin .eql true (.s 26) (.s 30), (some (23, true))⟩,
    ⟨(some 32), .pick (.s 23) (.s 31) (.c (.bool false)), none⟩,
    ⟨(some 33), .mov (.s 32), none⟩,
    ⟨(some 34), .load true 14 (.s 6), (some (33, true))⟩,
    ⟨(some 35), .load true 5 (.s 3), (some (33, true))⟩,
    ⟨(some 36), .call 19 [(.s 34), (.s 35)], (some (33, true))⟩,
    ⟨(some 37), .pick (.s 33) (.s 36) (.c (.bool false)), none⟩,
    ⟨(some 2), .mov (.s 37), none⟩]) [2] (
 .ret)))))⟩

def tf8 : TFn := ⟨72, [.tmp 2],
 .seq (
  .region false [⟨(some 2), .mov (.c (.bool false)), none⟩]) [0] (
 .seq (
  .region false [⟨(some 7), .mov (.s 0), none⟩,
    ⟨(some 8), .call 21 [(.s 7), (.c (.int .i64 0))], none⟩,
    ⟨(some 9), .mov (.s 0), none⟩,
    ⟨(some 10), .call 21 [(.s 9), (.c (.int .i64 6))], none⟩,
    ⟨(some 11), .build [(.int .i64 0), (.int .i64 0), (.int .i64 0), (.int .i64 0), (.str []), (.str []), (.bool false), (.int .i64 0), (.int .i64 0), (.int .i64 0), (.int .i64 0), (.str []), (.str []), (.bool false)] [(0, 7, (.s 8)), (7, 7, (.s 10))], none⟩,
    ⟨(some 3), .alloc 32 [(.int .i64 0), (.int .i64 0), (.int .i64 0), (.int .i64 0), (.str []), (.str []), (.bool false), (.int .i64 0), (.int .i64 0), (.int .i64 0), (.int .i64 0), (.str []), (.str []), (.bool false)], none⟩,
    ⟨none, .store 14 (.s 3) (.s 11), none⟩]) [0, 3] (
 .seq (
  .region false [⟨(some 12), .mov (.s 0), none⟩,
    ⟨(some 13), .call 21 [(.s 12), (.c (.int .i64 12))], none⟩,
    ⟨(some 14), .mov (.s 0), none⟩,
    ⟨(some 15), .call 21 [(.s 14), (.c (.int .i64 18))], none⟩,
    ⟨(some 16), .build [(.int .i64 0), (.int .i64 0), (.int .i64 0), (.int .i64 0), (.str []), (.str []), (.bool false), (.int .i64 0), (.int .i64 0), (.int .i64 0), (.int .i64 0), (.str []), (.str []), (.bool false)] [(0, 7, (.s 13)), (7, 7, (.s 15))], none⟩,
    ⟨(some 4), .alloc 32 [(.int .i64 0), (.int .i64 0), (.int .i64 0), (.int .i64 0), (.str []), (.str []), (.bool false), (.int .i64 0), (.int .i64 0), (.int .i64 0), (.int .i64 0), (.str []), (.str []), (.bool false)], none⟩,
    ⟨none, .store 14 (.s 4) (.s 16), none⟩]) [0, 3, 4] (
 .seq (
  .region false [⟨(some 17), .mov (.s 0), none⟩,
    ⟨(some 18), .call 22 [(.s 17), (.c (.int .i64 24))], none⟩,
    ⟨(some 5), .alloc 23 [(.int .i64 0), (.int .i64 0), (.int .i64 0), (.str []), (.str [])], none⟩,
    ⟨none, .store 5 (.s 5) (.s 18), none⟩]) [3, 4, 5] (
 .seq (
  .region false [⟨(some 19), .load true 14 (.s 3), none⟩,
    ⟨(some 6), .alloc 32 [(.int .i64 0), (.int .i64 0), (.int .i64 0), (.int .i64 0), (.str []), (.str []), (.bool false), (.int .i64 0), (.int .i64 0), (.int .i64 0), (.int .i64 0), (.str []), (.str []), (.bool false)], none⟩,
    ⟨none, .store 14 (.s 6) (.s 19), none⟩]) [3, 4, 5, 6] (
 .seq (
  .seq (
   .region false [⟨(some 20), .fieldAddr 0 (.s 6), none⟩,
     ⟨(some 21), .load true 7 (.s 20), none⟩,
     ⟨(some 22), .fieldAddr 0 (.s 4), none⟩,
     ⟨(some 23), .load true 7 (.s 22), none⟩,
     ⟨(some 24), .call 13 [(.s 21), (.s 23)], none⟩,
     ⟨(some 25), .bin .lss false (.s 24) (.c (.int .i64 0)), none⟩]) [3, 4, 5, 6, 25] (
  .cond (.s 25) (
   .region false [⟨(some 26), .fieldAddr 0 (.s 4), none⟩,
     ⟨(some 27), .load true 7 (.s 26), none⟩,
     ⟨(some 28), .fieldAddr 0 (.s 6), none⟩,
     ⟨none, .store 7 (.s 28) (.s 27), none⟩]) (
   .skip))) [3, 4, 5, 6] (
 .seq (
  .seq (
   .region false [⟨(some 29), .fieldAddr 7 (.s 6), none⟩,
     ⟨(some 30), .load true 7 (.s 29), none⟩,
     ⟨(some 31), .fieldAddr 7 (.s 4), none⟩,
     ⟨(some 32), .load true 7 (.s 31), none⟩,
     ⟨(some 33), .call 13 [(.s 30), (.s 32)], none⟩,
     ⟨(some 34), .bin .gtr false (.s 33) (.c (.int .i64 0)), none⟩]) [3, 4, 5, 6, 34] (
  .cond (.s 34) (
   .region false [⟨(some 35), .fieldAddr 7 (.s 4), none⟩,
     ⟨(some 36), .load true 7 (.s 35), none⟩,
     ⟨(some 37), .fieldAddr 7 (.s 6), none⟩,
     ⟨none, .store 7 (.s 37) (.s 36), none⟩]) (
   .skip))) [3, 4, 5, 6] (
 .seq (
  .seq (
   .region false [⟨(some 38), .load true 14 (.s 3), none⟩,
     ⟨(some 39), .call 17 [(.s 38)], none⟩,
     ⟨(some 40), .un .not (.s 39), none⟩,
     ⟨(some 41), .mov (.s 40), none⟩,
     ⟨(some 42), .load true 14 (.s 4), (some (41, false))⟩,
     ⟨(some 43), .call 17 [(.s 42)], (some (41, false))⟩,
     ⟨(some 44), .un .not (.s 43), (some (41, false))⟩,
     ⟨(some 45), .pick (.s 41) (.c (.bool true)) (.s 44), none⟩]) [3, 4, 5, 6, 45] (
  .cond (.s 45) (
   .seq (
    .region false [⟨(some 46), .call 10 [], none⟩,
      ⟨(some 2), .mov (.s 46), none⟩]) [2] (
   .ret)) (
   .skip))) [3, 4, 5, 6] (
 .seq (
  .region true [⟨(some 47), .call 10 [], none⟩,
    ⟨(some 48), .mov (.s 47), none⟩,
    ⟨(some 49), .load true 14 (.s 3), (some (48, true))⟩,
    ⟨(some 50), .load true 5 (.s 5), (some (48, true))⟩,
    ⟨(some 51), .call 19 [(.s 49), (.s 50)], (some (48, true))⟩,
    ⟨(some 52), .mov (.s 51), (some (48, true))⟩,
    ⟨(some 53), .load true 14 (.s 4), (some (52, true))⟩,
    ⟨(some 54), .load true 5 (.s 5), (some (52, true))⟩,
    ⟨(some 55), .call 19 [(.s 53), (.s 54)], (some (52, true))⟩,
    ⟨(some 56), .pick (.s 52) (.s 55) (.c (.bool false)), (some (48, true))⟩,
    ⟨(some 57), .load true 14 (.s 6), (some (48, true))⟩,
    ⟨(some 58), .load true 5 (.s 5), (some (48, true))⟩,
    ⟨(some 59), .call 19 [(.s 57), (.s 58)], (some (48, true))⟩,
    ⟨(some 60), .bin .eql true (.s 56) (.s 59), (some (48, true))⟩,
    ⟨(some 61), .pick (.s 48) (.s 60) (.c (.bool false)), none⟩,
    ⟨(some 62), .mov (.s 61), none⟩,
    ⟨(some 63), .load true 14 (.s 6), (some (62, true))⟩,
    ⟨(some 64), .call 17 [(.s 63)], (some (62, true))⟩,
    ⟨(some 65), .mov (.s 64), (some (62, true))⟩,
    ⟨(some 66), .load true 14 (.s 6), (some (65, false))⟩,
    ⟨(some 67), .load true 5 (.s 5), (some (65, false))⟩,
    ⟨(some 68), .call 19 [(.s 66), (.s 67)], (some (65, false))⟩,
    ⟨(some 69), .un .not (.s 68), (some (65, false))⟩,
    ⟨(some 70), .pick (.s 65) (.c (.bool true)) (.s 69), (some (62, true))⟩,
    ⟨(some 71), .pick (.s 62) (.s 70) (.c (.bool false)), none⟩,
    ⟨(some 2), .mov (.s 71), none⟩]) [2] (
 .ret)))))))))⟩

def tf9 : TFn := ⟨15, [.tmp 2],
 .seq (
  .region false [⟨(some 1), .box 25 (.s 0), none⟩,
    ⟨(some 2), .mov (.c (.bool false)), none⟩]) [1] (
 .seq (
  .region false [⟨(some 3), .fieldAddr 1 (.s 1), none⟩,
    ⟨(some 4), .fieldAddr 3 (.s 3), none⟩,
    ⟨(some 5), .load false 1 (.s 4), none⟩,
    ⟨(some 6), .lenStr (.s 5), none⟩,
    ⟨(some 7), .bin .leq false (.s 6) (.c (.int .i64 100)), none⟩,
    ⟨(some 8), .mov (.s 7), none⟩,
    ⟨(some 9), .fieldAddr 1 (.s 1), (some (8, true))⟩,
    ⟨(some 10), .fieldAddr 4 (.s 9), (some (8, true))⟩,
    ⟨(some 11), .load false 1 (.s 10), (some (8, true))⟩,
    ⟨(some 12), .lenStr (.s 11), (some (8, true))⟩,
    ⟨(some 13), .bin .leq false (.s 12) (.c (.int .i64 100)), (some (8, true))⟩,
    ⟨(some 14), .pick (.s 8) (.s 13) (.c (.bool false)), none⟩,
    ⟨(some 2), .mov (.s 14), none⟩]) [2] (
 .ret))⟩

def tf10 : TFn := ⟨40, [.tmp 0],
 .seq (
  .region false [⟨(some 0), .mov (.c (.bool false)), none⟩]) [] (
 .seq (
  .region false [⟨(some 4), .build [(.int .i64 0), (.int .i64 0), (.int .i64 0), (.str []), (.str [])] [(0, 1, (.c (.int .i64 1)))], none⟩,
    ⟨(some 1), .alloc 23 [(.int .i64 0), (.int .i64 0), (.int .i64 0), (.str []), (.str [])], none⟩,
    ⟨none, .store 5 (.s 1) (.s 4), none⟩]) [1] (
 .seq (
  .region true [⟨(some 5), .load true 5 (.s 1), none⟩,
    ⟨(some 6), .build [(.int .i64 0), (.int .i64 0), (.int .i64 0), (.int .i64 0), (.str []), (.str []), (.bool false)] [(1, 5, (.s 5))], none⟩,
    ⟨(some 7), .load true 5 (.s 1), none⟩,
    ⟨(some 8), .build [(.int .i64 0), (.int .i64 0), (.int .i64 0), (.int .i64 0), (.str []), (.str []), (.bool false)] [(1, 5, (.s 7)), (6, 1, (.c (.bool true)))], none⟩,
    ⟨(some 2), .alloc 25 [(.int .i64 0), (.int .i64 0), (.int .i64 0), (.int .i64 0), (.str []), (.str []), (.bool false)], none⟩,
    ⟨(some 3), .alloc 25 [(.int .i64 0), (.int .i64 0), (.int .i64 0), (.int .i64 0), (.str []), (.str []), (.bool false)], none⟩,
    ⟨none, .store 7 (.s 2) (.s 6), none⟩,
    ⟨none, .store 7 (.s 3) (.s 8), none⟩]) [1, 2, 3] (
 .seq (
  .region false [⟨(some 9), .load true 7 (.s 2), none⟩,
    ⟨(some 10), .load true 7 (.s 3), none⟩,
    ⟨(some 11), .call 13 [(.s 9), (.s 10)], none⟩,
    ⟨(some 12), .bin .eql false (.s 11) (.c (.int .i64 (-1))), none⟩,
    ⟨(some 13), .mov (.s 12), none⟩,
    ⟨(some 14), .load true 7 (.s 2), (some (13, true))⟩,
    ⟨(some 15), .load true 5 (.s 1), (some (13, true))⟩,
    ⟨(some 16), .call 15 [(.s 14), (.s 15)], (some (13, true))⟩,
    ⟨(some 17), .pick (.s 13) (.s 16) (.c (.bool false)), none⟩,
    ⟨(some 18), .mov (.s 17), none⟩,
    ⟨(some 19), .load true 7 (.s 3), (some (18, true))⟩,
    ⟨(some 20), .load true 5 (.s 1), (some (18, true))⟩,
    ⟨(some 21), .call 15 [(.s 19), (.s 20)], (some (18, true))⟩,
    ⟨(some 22), .un .not (.s 21), (some (18, true))⟩,
    ⟨(some 23), .pick (.s 18) (.s 22) (.c (.bool false)), none⟩,
    ⟨(some 24), .mov (.s 23), none⟩,
    ⟨(some 25), .load true 7 (.s 2), (some (24, true))⟩,
    ⟨(some 26), .load true 7 (.s 3), (some (24, true))⟩,
    ⟨(some 27), .build [(.int .i64 0), (.int .i64 0), (.int .i64 0), (.int .i64 0), (.str []), (.str []), (.bool false), (.int .i64 0), (.int .i64 0), (.int .i64 0), (.int .i64 0), (.str []), (.str []), (.bool false)] [(0, 7, (.s 25)), (7, 7, (.s 26))], (some (24, true))⟩,
    ⟨(some 28), .load true 5 (.s 1), (some (24, true))⟩,
    ⟨(some 29), .call 19 [(.s 27), (.s 28)], (some (24, true))⟩,
    ⟨(some 30), .pick (.s 24) (.s 29) (.c (.bool false)), none⟩,
    ⟨(some 31), .mov (.s 30), none⟩,
    ⟨(some 32), .build [(.int .i64 0), (.int .i64 0), (.int .i64 0), (.int .i64 0), (.str []), (.str []), (.bool false)] [(0, 1, (.c (.int .i64 (-1))))], (some (31, true))⟩,
    ⟨(some 33), .call 11 [(.s 32)], (some (31, true))⟩,
    ⟨(some 34), .pick (.s 31) (.s 33) (.c (.bool false)), none⟩,
    ⟨(some 35), .mov (.s 34), none⟩,
    ⟨(some 36), .build [(.int .i64 0), (.int .i64 0), (.int .i64 0), (.int .i64 0), (.str []), (.str []), (.bool false)] [(0, 1, (.c (.int .i64 2)))], (some (35, true))⟩,
    ⟨(some 37), .call 11 [(.s 36)], (some (35, true))⟩,
    ⟨(some 38), .un .not (.s 37), (some (35, true))⟩,
    ⟨(some 39), .pick (.s 35) (.s 38) (.c (.bool false)), none⟩,
    ⟨(some 0), .mov (.s 39), none⟩]) [0] (
 .ret))))⟩

def tf11 : TFn := ⟨32, [.tmp 2],
 .seq (
  .region false [⟨(some 1), .box 25 (.s 0), none⟩,
    ⟨(some 2), .mov (.c (.bool false)), none⟩]) [1] (
 .seq (
  .seq (
   .region false [⟨(some 3), .fieldAddr 0 (.s 1), none⟩,
     ⟨(some 4), .load false 1 (.s 3), none⟩,
     ⟨(some 5), .bin .eql false (.s 4) (.c (.int .i64 (-1))), none⟩,
     ⟨(some 6), .mov (.s 5), none⟩,
     ⟨(some 7), .fieldAddr 0 (.s 1), (some (6, false))⟩,
     ⟨(some 8), .load false 1 (.s 7), (some (6, false))⟩,
     ⟨(some 9), .bin .eql false (.s 8) (.c (.int .i64 1)), (some (6, false))⟩,
     ⟨(some 10), .pick (.s 6) (.c (.bool true)) (.s 9), none⟩]) [1, 10] (
  .cond (.s 10) (
   .seq (
    .region false [⟨(some 11), .fieldAddr 1 (.s 1), none⟩,
      ⟨(some 12), .load true 5 (.s 11), none⟩,
      ⟨(some 13), .build [(.int .i64 0), (.int .i64 0), (.int .i64 0), (.str []), (.str [])] [], none⟩,
      ⟨(some 14), .eqs false [0, 0, 0, 2, 2] (.s 12) (.s 13), none⟩,
      ⟨(some 15), .mov (.s 14), none⟩,
      ⟨(some 16), .fieldAddr 6 (.s 1), (some (15, true))⟩,
      ⟨(some 17), .load false 1 (.s 16), (some (15, true))⟩,
      ⟨(some 18), .un .not (.s 17), (some (15, true))⟩,
      ⟨(some 19), .pick (.s 15) (.s 18) (.c (.bool false)), none⟩,
      ⟨(some 2), .mov (.s 19), none⟩]) [2] (
   .ret)) (
   .seq (
    .region false [⟨(some 20), .fieldAddr 0 (.s 1), none⟩,
      ⟨(some 21), .load false 1 (.s 20), none⟩,
      ⟨(some 22), .bin .neq false (.s 21) (.c (.int .i64 0)), none⟩]) [1, 22] (
   .cond (.s 22) (
    .seq (
     .region false [⟨(some 2), .mov (.c (.bool false)), none⟩]) [2] (
    .ret)) (
    .skip))))) [1] (
 .seq (
  .region false [⟨(some 23), .fieldAddr 1 (.s 1), none⟩,
    ⟨(some 24), .load true 5 (.s 23), none⟩,
    ⟨(some 25), .call 25 [(.s 24)], none⟩,
    ⟨(some 26), .mov (.s 25), none⟩,
    ⟨(some 27), .fieldAddr 1 (.s 1), (some (26, true))⟩,
    ⟨(some 28), .fieldAddr 4 (.s 27), (some (26, true))⟩,
    ⟨(some 29), .load false 1 (.s 28), (some (26, true))⟩,
    ⟨(some 30), .bin .eql false (.s 29) (.c (.str [])), (some (26, true))⟩,
    ⟨(some 31), .pick (.s 26) (.s 30) (.c (.bool false)), none⟩,
    ⟨(some 2), .mov (.s 31), none⟩]) [2] (
 .ret)))⟩

def tf12 : TFn := ⟨34, [.tmp 2],
 .seq (
  .region false [⟨(some 1), .box 25 (.s 0), none⟩,
    ⟨(some 2), .mov (.c (.bool false)), none⟩]) [1] (
 .seq (
  .seq (
   .region false [⟨(some 3), .fieldAddr 0 (.s 1), none⟩,
     ⟨(some 4), .load false 1 (.s 3), none⟩,
     ⟨(some 5), .bin .eql false (.s 4) (.c (.int .i64 0)), none⟩]) [1, 5] (
  .cond (.s 5) (
   .seq (
    .region false [⟨(some 6), .fieldAddr 1 (.s 1), none⟩,
      ⟨(some 7), .load true 5 (.s 6), none⟩,
      ⟨(some 8), .call 26 [(.s 7)], none⟩,
      ⟨(some 9), .mov (.s 8), none⟩,
      ⟨(some 10), .fieldAddr 1 (.s 1), (some (9, true))⟩,
      ⟨(some 11), .fieldAddr 4 (.s 10), (some (9, true))⟩,
      ⟨(some 12), .load false 1 (.s 11), (some (9, true))⟩,
      ⟨(some 13), .bin .eql false (.s 12) (.c (.str [])), (some (9, true))⟩,
      ⟨(some 14), .pick (.s 9) (.s 13) (.c (.bool false)), none⟩,
      ⟨(some 2), .mov (.s 14), none⟩]) [2] (
   .ret)) (
   .skip))) [1] (
 .seq (
  .region false [⟨(some 15), .fieldAddr 0 (.s 1), none⟩,
    ⟨(some 16), .load false 1 (.s 15), none⟩,
    ⟨(some 17), .bin .eql false (.s 16) (.c (.int .i64 (-1))), none⟩,
    ⟨(some 18), .mov (.s 17), none⟩,
    ⟨(some 19), .fieldAddr 0 (.s 1), (some (18, false))⟩,
    ⟨(some 20), .load false 1 (.s 19), (some (18, false))⟩,
    ⟨(some 21), .bin .eql false (.s 20) (.c (.int .i64 1)), (some (18, false))⟩,
    ⟨(some 22), .pick (.s 18) (.c (.bool true)) (.s 21), none⟩,
    ⟨(some 23), .mov (.s 22), none⟩,
    ⟨(some 24), .fieldAddr 1 (.s 1), (some (23, true))⟩,
    ⟨(some 25), .load true 5 (.s 24), (some (23, true))⟩,
    ⟨(some 26), .build [(.int .i64 0), (.int .i64 0), (.int .i64 0), (.str []), (.str [])] [], (some (23, true))⟩,
    ⟨(some 27), .eqs false [0, 0, 0, 2, 2] (.s 25) (.s 26), (some (23, true))⟩,
    ⟨(some 28), .pick (.s 23) (.s 27) (.c (.bool false)), none⟩,
    ⟨(some 29), .mov (.s 28), none⟩,
    ⟨(some 30), .fieldAddr 6 (.s 1), (some (29, true))⟩,
    ⟨(some 31), .load false 1 (.s 30), (some (29, true))⟩,
    ⟨(some 32), .un .not (.s 31), (some (29, true))⟩,
    ⟨(some 33), .pick (.s 29) (.s 32) (.c (.bool false)), none⟩,
    ⟨(some 2), .mov (.s 33), none⟩]) [2] (
 .ret)))⟩

def tf13 : TFn := ⟨42, [.tmp 4],
 .seq (
  .region false [⟨(some 2), .box 25 (.s 0), none⟩,
    ⟨(some 3), .box 25 (.s 1), none⟩,
    ⟨(some 4), .mov (.c (.int .i64 0)), none⟩]) [2, 3] (
 .seq (
  .seq (
   .region false [⟨(some 6), .load true 7 (.s 2), none⟩,
     ⟨(some 7), .call 11 [(.s 6)], none⟩,
     ⟨(some 8), .un .not (.s 7), none⟩,
     ⟨(some 9), .mov (.s 8), none⟩,
     ⟨(some 10), .load true 7 (.s 3), (some (9, false))⟩,
     ⟨(some 11), .call 11 [(.s 10)], (some (9, false))⟩,
     ⟨(some 12), .un .not (.s 11), (some (9, false))⟩,
     ⟨(some 13), .pick (.s 9) (.c (.bool true)) (.s 12), none⟩]) [2, 3, 13] (
  .cond (.s 13) (
   .seq (
    .region false [⟨(some 4), .mov (.c (.int .i64 0)), none⟩]) [4] (
   .ret)) (
   .seq (
    .region false [⟨(some 14), .fieldAddr 0 (.s 2), none⟩,
      ⟨(some 15), .load false 1 (.s 14), none⟩,
      ⟨(some 16), .bin .neq false (.s 15) (.c (.int .i64 0)), none⟩,
      ⟨(some 17), .mov (.s 16), none⟩,
      ⟨(some 18), .fieldAddr 0 (.s 3), (some (17, false))⟩,
      ⟨(some 19), .load false 1 (.s 18), (some (17, false))⟩,
      ⟨(some 20), .bin .neq false (.s 19) (.c (.int .i64 0)), (some (17, false))⟩,
      ⟨(some 21), .pick (.s 17) (.c (.bool true)) (.s 20), none⟩]) [2, 3, 21] (
   .cond (.s 21) (
    .seq (
     .region false [⟨(some 22), .fieldAddr 0 (.s 2), none⟩,
       ⟨(some 23), .load false 1 (.s 22), none⟩,
       ⟨(some 24), .fieldAddr 0 (.s 3), none⟩,
       ⟨(some 25), .load false 1 (.s 24), none⟩,
       ⟨(some 26), .call 27 [(.s 23), (.s 25)], none⟩,
       ⟨(some 4), .mov (.s 26), none⟩]) [4] (
    .ret)) (
    .seq (
     .region false [⟨(some 27), .fieldAddr 1 (.s 2), none⟩,
       ⟨(some 28), .load true 5 (.s 27), none⟩,
       ⟨(some 29), .fieldAddr 1 (.s 3), none⟩,
       ⟨(some 30), .load true 5 (.s 29), none⟩,
       ⟨(some 31), .call 24 [(.s 28), (.s 30)], none⟩,
       ⟨(some 5), .mov (.s 31), none⟩]) [2, 3, 5] (
    .seq (
     .region false [⟨(some 32), .mov (.s 5), none⟩,
       ⟨(some 33), .bin .neq false (.s 32) (.c (.int .i64 0)), none⟩]) [2, 3, 5, 33] (
    .cond (.s 33) (
     .seq (
      .region false [⟨(some 34), .mov (.s 5), none⟩,
        ⟨(some 4), .mov (.s 34), none⟩]) [4] (
     .ret)) (
     .seq (
      .region false [⟨(some 35), .fieldAddr 6 (.s 2), none⟩,
        ⟨(some 36), .load false 1 (.s 35), none⟩,
        ⟨(some 37), .fieldAddr 6 (.s 3), none⟩,
        ⟨(some 38), .load false 1 (.s 37), none⟩,
        ⟨(some 39), .bin .eql true (.s 36) (.s 38), none⟩]) [3, 39] (
     .cond (.s 39) (
      .seq (
       .region false [⟨(some 4), .mov (.c (.int .i64 0)), none⟩]) [4] (
      .ret)) (
      .seq (
       .region false [⟨(some 40), .fieldAddr 6 (.s 3), none⟩,
         ⟨(some 41), .load false 1 (.s 40), none⟩]) [41] (
      .cond (.s 41) (
       .seq (
        .region false [⟨(some 4), .mov (.c (.int .i64 (-1))), none⟩]) [4] (
       .ret)) (
       .skip)))))))))))) [] (
 .seq (
  .region false [⟨(some 4), .mov (.c (.int .i64 1)), none⟩]) [4] (
 .ret)))⟩

def tf14 : TFn := ⟨46, [.tmp 4],
 .seq (
  .region false [⟨(some 2), .box 25 (.s 0), none⟩,
    ⟨(some 3), .box 25 (.s 1), none⟩,
    ⟨(some 4), .mov (.c (.int .i64 0)), none⟩]) [2, 3] (
 .seq (
  .seq (
   .region false [⟨(some 6), .load true 7 (.s 2), none⟩,
     ⟨(some 7), .call 12 [(.s 6)], none⟩,
     ⟨(some 8), .un .not (.s 7), none⟩,
     ⟨(some 9), .mov (.s 8), none⟩,
     ⟨(some 10), .load true 7 (.s 3), (some (9, false))⟩,
     ⟨(some 11), .call 12 [(.s 10)], (some (9, false))⟩,
     ⟨(some 12), .un .not (.s 11), (some (9, false))⟩,
     ⟨(some 13), .pick (.s 9) (.c (.bool true)) (.s 12), none⟩]) [2, 3, 13] (
  .cond (.s 13) (
   .seq (
    .region false [⟨(some 4), .mov (.c (.int .i64 0)), none⟩]) [4] (
   .ret)) (
   .skip))) [2, 3] (
 .seq (
  .seq (
   .region false [⟨(some 14), .fieldAddr 0 (.s 2), none⟩,
     ⟨(some 15), .load false 1 (.s 14), none⟩,
     ⟨(some 16), .fieldAddr 0 (.s 3), none⟩,
     ⟨(some 17), .load false 1 (.s 16), none⟩,
     ⟨(some 18), .bin .neq false (.s 15) (.s 17), none⟩,
     ⟨(some 19), .mov (.s 18), none⟩,
     ⟨(some 20), .fieldAddr 0 (.s 2), (some (19, false))⟩,
     ⟨(some 21), .load false 1 (.s 20), (some (19, false))⟩,
     ⟨(some 22), .bin .neq false (.s 21) (.c (.int .i64 0)), (some (19, false))⟩,
     ⟨(some 23), .pick (.s 19) (.c (.bool true)) (.s 22), none⟩]) [2, 3, 23] (
  .cond (.s 23) (
   .seq (
    .region false [⟨(some 24), .fieldAddr 0 (.s 2), none⟩,
      ⟨(some 25), .load false 1 (.s 24), none⟩,
      ⟨(some 26), .fieldAddr 0 (.s 3), none⟩,
      ⟨(some 27), .load false 1 (.s 26), none⟩,
      ⟨(some 28), .call 28 [(.s 25), (.s 27)], none⟩,
      ⟨(some 4), .mov (.s 28), none⟩]) [4] (
   .ret)) (
   .skip))) [2, 3] (
 .seq (
  .seq (
   .region false [⟨(some 29), .fieldAddr 1 (.s 2), none⟩,
     ⟨(some 30), .load true 5 (.s 29), none⟩,
     ⟨(some 31), .fieldAddr 1 (.s 3), none⟩,
     ⟨(some 32), .load true 5 (.s 31), none⟩,
     ⟨(some 33), .call 29 [(.s 30), (.s 32)], none⟩,
     ⟨(some 5), .mov (.s 33), none⟩]) [2, 3, 5] (
  .seq (
   .region false [⟨(some 34), .mov (.s 5), none⟩,
     ⟨(some 35), .bin .neq false (.s 34) (.c (.int .i64 0)), none⟩]) [2, 3, 5, 35] (
  .cond (.s 35) (
   .seq (
    .region false [⟨(some 36), .mov (.s 5), none⟩,
      ⟨(some 4), .mov (.s 36), none⟩]) [4] (
   .ret)) (
   .skip)))) [2, 3] (
 .seq (
  .block 0 (
   .seq (
    .region false [⟨(some 38), .fieldAddr 6 (.s 2), none⟩,
      ⟨(some 39), .load false 1 (.s 38), none⟩,
      ⟨(some 40), .fieldAddr 6 (.s 3), none⟩,
      ⟨(some 41), .load false 1 (.s 40), none⟩,
      ⟨(some 42), .bin .eql true (.s 39) (.s 41), none⟩,
      ⟨(some 37), .mov (.s 42), none⟩]) [3, 37] (
   .cond (.s 37) (
    .seq (
     .region false [⟨(some 4), .mov (.c (.int .i64 0)), none⟩]) [4] (
    .ret)) (
    .seq (
     .region false [⟨(some 44), .fieldAddr 6 (.s 3), none⟩,
       ⟨(some 45), .load false 1 (.s 44), none⟩,
       ⟨(some 43), .mov (.s 45), none⟩]) [43] (
    .cond (.s 43) (
     .seq (
      .region false [⟨(some 4), .mov (.c (.int .i64 (-1))), none⟩]) [4] (
     .ret)) (
     .skip)))))) [] (
 .seq (
  .region false [⟨(some 4), .mov (.c (.int .i64 1)), none⟩]) [4] (
 .ret))))))⟩

def tf15 : TFn := ⟨35, [.tmp 4],
 .seq (
  .region false [⟨(some 2), .box 25 (.s 0), none⟩,
    ⟨(some 3), .box 23 (.s 1), none⟩,
    ⟨(some 4), .mov (.c (.bool false)), none⟩]) [2, 3] (
 .seq (
  .seq (
   .region false [⟨(some 6), .load true 7 (.s 2), none⟩,
     ⟨(some 7), .call 11 [(.s 6)], none⟩,
     ⟨(some 8), .un .not (.s 7), none⟩,
     ⟨(some 9), .mov (.s 8), none⟩,
     ⟨(some 10), .load true 5 (.s 3), (some (9, false))⟩,
     ⟨(some 11), .call 25 [(.s 10)], (some (9, false))⟩,
     ⟨(some 12), .un .not (.s 11), (some (9, false))⟩,
     ⟨(some 13), .pick (.s 9) (.c (.bool true)) (.s 12), none⟩]) [2, 3, 13] (
  .cond (.s 13) (
   .seq (
    .region false [⟨(some 4), .mov (.c (.bool false)), none⟩]) [4] (
   .ret)) (
   .seq (
    .region false [⟨(some 14), .fieldAddr 0 (.s 2), none⟩,
      ⟨(some 15), .load false 1 (.s 14), none⟩,
      ⟨(some 16), .bin .neq false (.s 15) (.c (.int .i64 0)), none⟩]) [2, 3, 16] (
   .cond (.s 16) (
    .seq (
     .region false [⟨(some 17), .fieldAddr 0 (.s 2), none⟩,
       ⟨(some 18), .load false 1 (.s 17), none⟩,
       ⟨(some 19), .bin .lss false (.s 18) (.c (.int .i64 0)), none⟩,
       ⟨(some 4), .mov (.s 19), none⟩]) [4] (
    .ret)) (
    .skip))))) [2, 3] (
 .seq (
  .region false [⟨(some 20), .fieldAddr 1 (.s 2), none⟩,
    ⟨(some 21), .load true 5 (.s 20), none⟩,
    ⟨(some 22), .load true 5 (.s 3), none⟩,
    ⟨(some 23), .call 24 [(.s 21), (.s 22)], none⟩,
    ⟨(some 5), .mov (.s 23), none⟩]) [2, 5] (
 .seq (
  .region false [⟨(some 24), .mov (.s 5), none⟩,
    ⟨(some 25), .bin .lss false (.s 24) (.c (.int .i64 0)), none⟩,
    ⟨(some 26), .mov (.s 25), none⟩,
    ⟨(some 27), .mov (.s 5), (some (26, false))⟩,
    ⟨(some 28), .bin .eql false (.s 27) (.c (.int .i64 0)), (some (26, false))⟩,
    ⟨(some 29), .mov (.s 28), (some (26, false))⟩,
    ⟨(some 30), .fieldAddr 6 (.s 2), (some (29, true))⟩,
    ⟨(some 31), .load false 1 (.s 30), (some (29, true))⟩,
    ⟨(some 32), .un .not (.s 31), (some (29, true))⟩,
    ⟨(some 33), .pick (.s 29) (.s 32) (.c (.bool false)), (some (26, false))⟩,
    ⟨(some 34), .pick (.s 26) (.c (.bool true)) (.s 33), none⟩,
    ⟨(some 4), .mov (.s 34), none⟩]) [4] (
 .ret))))⟩

def tf16 : TFn := ⟨35, [.tmp 4],
 .seq (
  .region false [⟨(some 2), .box 25 (.s 0), none⟩,
    ⟨(some 3), .box 23 (.s 1), none⟩,
    ⟨(some 4), .mov (.c (.bool false)), none⟩]) [2, 3] (
 .seq (
  .seq (
   .region false [⟨(some 6), .load true 7 (.s 2), none⟩,
     ⟨(some 7), .call 12 [(.s 6)], none⟩,
     ⟨(some 8), .un .not (.s 7), none⟩,
     ⟨(some 9), .mov (.s 8), none⟩,
     ⟨(some 10), .load true 5 (.s 3), (some (9, false))⟩,
     ⟨(some 11), .call 26 [(.s 10)], (some (9, false))⟩,
     ⟨(some 12), .un .not (.s 11), (some (9, false))⟩,
     ⟨(some 13), .pick (.s 9) (.c (.bool true)) (.s 12), none⟩]) [2, 3, 13] (
  .cond (.s 13) (
   .seq (
    .region false [⟨(some 4), .mov (.c (.bool false)), none⟩]) [4] (
   .ret)) (
   .skip))) [2, 3] (
 .seq (
  .seq (
   .region false [⟨(some 14), .fieldAddr 0 (.s 2), none⟩,
     ⟨(some 15), .load false 1 (.s 14), none⟩,
     ⟨(some 16), .bin .neq false (.s 15) (.c (.int .i64 0)), none⟩]) [2, 3, 16] (
  .cond (.s 16) (
   .seq (
    .region false [⟨(some 17), .fieldAddr 0 (.s 2), none⟩,
      ⟨(some 18), .load false 1 (.s 17), none⟩,
      ⟨(some 19), .bin .lss false (.s 18) (.c (.int .i64 0)), none⟩,
      ⟨(some 4), .mov (.s 19), none⟩]) [4] (
   .ret)) (
   .skip))) [2, 3] (
 .seq (
  .region false [⟨(some 20), .fieldAddr 1 (.s 2), none⟩,
    ⟨(some 21), .load true 5 (.s 20), none⟩,
    ⟨(some 22), .load true 5 (.s 3), none⟩,
    ⟨(some 23), .call 29 [(.s 21), (.s 22)], none⟩,
    ⟨(some 5), .mov (.s 23), none⟩]) [2, 5] (
 .seq (
  .region false [⟨(some 24), .mov (.s 5), none⟩,
    ⟨(some 25), .bin .lss false (.s 24) (.c (.int .i64 0)), none⟩,
    ⟨(some 26), .mov (.s 25), none⟩,
    ⟨(some 27), .mov (.s 5), (some (26, false))⟩,
    ⟨(some 28), .bin .eql false (.s 27) (.c (.int .i64 0)), (some (26, false))⟩,
    ⟨(some 29), .mov (.s 28), (some (26, false))⟩,
    ⟨(some 30), .fieldAddr 6 (.s 2), (some (29, true))⟩,
    ⟨(some 31), .load false 1 (.s 30), (some (29, true))⟩,
    ⟨(some 32), .un .not (.s 31), (some (29, true))⟩,
    ⟨(some 33), .pick (.s 29) (.s 32) (.c (.bool false)), (some (26, false))⟩,
    ⟨(some 34), .pick (.s 26) (.c (.bool true)) (.s 33), none⟩,
    ⟨(some 4), .mov (.s 34), none⟩]) [4] (
 .ret)))))⟩

def tf17 : TFn := ⟨19, [.tmp 2],
 .seq (
  .region false [⟨(some 1), .box 32 (.s 0), none⟩,
    ⟨(some 2), .mov (.c (.bool false)), none⟩]) [1] (
 .seq (
  .region false [⟨(some 3), .fieldAddr 0 (.s 1), none⟩,
    ⟨(some 4), .load true 7 (.s 3), none⟩,
    ⟨(some 5), .call 11 [(.s 4)], none⟩,
    ⟨(some 6), .mov (.s 5), none⟩,
    ⟨(some 7), .fieldAddr 7 (.s 1), (some (6, true))⟩,
    ⟨(some 8), .load true 7 (.s 7), (some (6, true))⟩,
    ⟨(some 9), .call 11 [(.s 8)], (some (6, true))⟩,
    ⟨(some 10), .pick (.s 6) (.s 9) (.c (.bool false)), none⟩,
    ⟨(some 11), .mov (.s 10), none⟩,
    ⟨(some 12), .fieldAddr 0 (.s 1), (some (11, true))⟩,
    ⟨(some 13), .load true 7 (.s 12), (some (11, true))⟩,
    ⟨(some 14), .fieldAddr 7 (.s 1), (some (11, true))⟩,
    ⟨(some 15), .load true 7 (.s 14), (some (11, true))⟩,
    ⟨(some 16), .call 13 [(.s 13), (.s 15)], (some (11, true))⟩,
    ⟨(some 17), .bin .lss false (.s 16) (.c (.int .i64 0)), (some (11, true))⟩,
    ⟨(some 18), .pick (.s 11) (.s 17) (.c (.bool false)), none⟩,
    ⟨(some 2), .mov (.s 18), none⟩]) [2] (
 .ret))⟩

def tf18 : TFn := ⟨19, [.tmp 2],
 .seq (
  .region false [⟨(some 1), .box 32 (.s 0), none⟩,
    ⟨(some 2), .mov (.c (.bool false)), none⟩]) [1] (
 .seq (
  .region false [⟨(some 3), .fieldAddr 0 (.s 1), none⟩,
    ⟨(some 4), .load true 7 (.s 3), none⟩,
    ⟨(some 5), .call 12 [(.s 4)], none⟩,
    ⟨(some 6), .mov (.s 5), none⟩,
    ⟨(some 7), .fieldAddr 7 (.s 1), (some (6, true))⟩,
    ⟨(some 8), .load true 7 (.s 7), (some (6, true))⟩,
    ⟨(some 9), .call 12 [(.s 8)], (some (6, true))⟩,
    ⟨(some 10), .pick (.s 6) (.s 9) (.c (.bool false)), none⟩,
    ⟨(some 11), .mov (.s 10), none⟩,
    ⟨(some 12), .fieldAddr 0 (.s 1), (some (11, true))⟩,
    ⟨(some 13), .load true 7 (.s 12), (some (11, true))⟩,
    ⟨(some 14), .fieldAddr 7 (.s 1), (some (11, true))⟩,
    ⟨(some 15), .load true 7 (.s 14), (some (11, true))⟩,
    ⟨(some 16), .call 14 [(.s 13), (.s 15)], (some (11, true))⟩,
    ⟨(some 17), .bin .lss false (.s 16) (.c (.int .i64 0)), (some (11, true))⟩,
    ⟨(some 18), .pick (.s 11) (.s 17) (.c (.bool false)), none⟩,
    ⟨(some 2), .mov (.s 18), none⟩]) [2] (
 .ret))⟩

def tf19 : TFn := ⟨24, [.tmp 4],
 .seq (
  .region false [⟨(some 2), .box 32 (.s 0), none⟩,
    ⟨(some 3), .box 23 (.s 1), none⟩,
    ⟨(some 4), .mov (.c (.bool false)), none⟩]) [2, 3] (
 .seq (
  .region false [⟨(some 5), .load true 14 (.s 2), none⟩,
    ⟨(some 6), .call 17 [(.s 5)], none⟩,
    ⟨(some 7), .mov (.s 6), none⟩,
    ⟨(some 8), .load true 5 (.s 3), (some (7, true))⟩,
    ⟨(some 9), .call 25 [(.s 8)], (some (7, true))⟩,
    ⟨(some 10), .pick (.s 7) (.s 9) (.c (.bool false)), none⟩,
    ⟨(some 11), .mov (.s 10), none⟩,
    ⟨(some 12), .fieldAddr 0 (.s 2), (some (11, true))⟩,
    ⟨(some 13), .load true 7 (.s 12), (some (11, true))⟩,
    ⟨(some 14), .load true 5 (.s 3), (some (11, true))⟩,
    ⟨(some 15), .call 15 [(.s 13), (.s 14)], (some (11, true))⟩,
    ⟨(some 16), .pick (.s 11) (.s 15) (.c (.bool false)), none⟩,
    ⟨(some 17), .mov (.s 16), none⟩,
    ⟨(some 18), .fieldAddr 7 (.s 2), (some (17, true))⟩,
    ⟨(some 19), .load true 7 (.s 18), (some (17, true))⟩,
    ⟨(some 20), .load true 5 (.s 3), (some (17, true))⟩,
    ⟨(some 21), .call 15 [(.s 19), (.s 20)], (some (17, true))⟩,
    ⟨(some 22), .un .not (.s 21), (some (17, true))⟩,
    ⟨(some 23), .pick (.s 17) (.s 22) (.c (.bool false)), none⟩,
    ⟨(some 4), .mov (.s 23), none⟩]) [4] (
 .ret))⟩

def tf20 : TFn := ⟨24, [.tmp 4],
 .seq (
  .region false [⟨(some 2), .box 32 (.s 0), none⟩,
    ⟨(some 3), .box 23 (.s 1), none⟩,
    ⟨(some 4), .mov (.c (.bool false)), none⟩]) [2, 3] (
 .seq (
  .region false [⟨(some 5), .load true 14 (.s 2), none⟩,
    ⟨(some 6), .call 18 [(.s 5)], none⟩,
    ⟨(some 7), .mov (.s 6), none⟩,
    ⟨(some 8), .load true 5 (.s 3), (some (7, true))⟩,
    ⟨(some 9), .call 26 [(.s 8)], (some (7, true))⟩,
    ⟨(some 10), .pick (.s 7) (.s 9) (.c (.bool false)), none⟩,
    ⟨(some 11), .mov (.s 10), none⟩,
    ⟨(some 12), .fieldAddr 0 (.s 2), (some (11, true))⟩,
    ⟨(some 13), .load true 7 (.s 12), (some (11, true))⟩,
    ⟨(some 14), .load true 5 (.s 3), (some (11, true))⟩,
    ⟨(some 15), .call 16 [(.s 13), (.s 14)], (some (11, true))⟩,
    ⟨(some 16), .pick (.s 11) (.s 15) (.c (.bool false)), none⟩,
    ⟨(some 17), .mov (.s 16), none⟩,
    ⟨(some 18), .fieldAddr 7 (.s 2), (some (17, true))⟩,
    ⟨(some 19), .load true 7 (.s 18), (some (17, true))⟩,
    ⟨(some 20), .load true 5 (.s 3), (some (17, true))⟩,
    ⟨(some 21), .call 16 [(.s 19), (.s 20)], (some (17, true))⟩,
    ⟨(some 22), .un .not (.s 21), (some (17, true))⟩,
    ⟨(some 23), .pick (.s 17) (.s 22) (.c (.bool false)), none⟩,
    ⟨(some 4), .mov (.s 23), none⟩]) [4] (
 .ret))⟩

def tf21 : TFn := ⟨28, [.cell 4 true 7],
 .seq (
  .region false [⟨(some 4), .alloc 25 [(.int .i64 0), (.int .i64 0), (.int .i64 0), (.int .i64 0), (.str []), (.str []), (.bool false)], none⟩]) [0, 1, 4] (
 .seq (
  .seq (
   .region false [⟨(some 7), .mov (.s 0), none⟩,
     ⟨(some 8), .mov (.s 1), none⟩,
     ⟨(some 9), .bin .add false (.s 8) (.c (.int .i64 5)), none⟩,
     ⟨(some 10), .call 30 [(.s 7), (.s 9), (.c (.int .i64 9))], none⟩,
     ⟨(some 5), .mov (.s 10), none⟩]) [0, 1, 4, 5] (
  .seq (
   .region false [⟨(some 11), .mov (.s 5), none⟩,
     ⟨(some 12), .bin .lss false (.s 11) (.c (.int .i64 2)), none⟩]) [0, 1, 4, 5, 12] (
  .cond (.s 12) (
   .seq (
    .region false [⟨(some 13), .mov (.s 5), none⟩,
      ⟨(some 14), .bin .mul false (.c (.int .i64 2)) (.s 13), none⟩,
      ⟨(some 15), .bin .sub false (.s 14) (.c (.int .i64 1)), none⟩,
      ⟨(some 16), .build [(.int .i64 0), (.int .i64 0), (.int .i64 0), (.int .i64 0), (.str []), (.str []), (.bool false)] [(0, 1, (.s 15))], none⟩,
      ⟨none, .store 7 (.s 4) (.s 16), none⟩]) [4] (
   .ret)) (
   .skip)))) [0, 1, 4] (
 .seq (
  .region false [⟨(some 17), .mov (.s 0), none⟩,
    ⟨(some 18), .mov (.s 1), none⟩,
    ⟨(some 19), .call 22 [(.s 17), (.s 18)], none⟩,
    ⟨(some 6), .alloc 23 [(.int .i64 0), (.int .i64 0), (.int .i64 0), (.str []), (.str [])], none⟩,
    ⟨none, .store 5 (.s 6) (.s 19), none⟩]) [0, 1, 4, 6] (
 .seq (
  .region false [⟨(some 20), .fieldAddr 4 (.s 6), none⟩,
    ⟨none, .store 1 (.s 20) (.c (.str [])), none⟩]) [0, 1, 4, 6] (
 .seq (
  .region true [⟨(some 21), .load true 5 (.s 6), none⟩,
    ⟨(some 22), .mov (.s 0), none⟩,
    ⟨(some 23), .mov (.s 1), none⟩,
    ⟨(some 24), .bin .add false (.s 23) (.c (.int .i64 5)), none⟩,
    ⟨(some 25), .call 30 [(.s 22), (.s 24), (.c (.int .i64 2))], none⟩,
    ⟨(some 26), .bin .eql false (.s 25) (.c (.int .i64 1)), none⟩,
    ⟨(some 27), .build [(.int .i64 0), (.int .i64 0), (.int .i64 0), (.int .i64 0), (.str []), (.str []), (.bool false)] [(1, 5, (.s 21)), (6, 1, (.s 26))], none⟩,
    ⟨none, .store 7 (.s 4) (.s 27), none⟩]) [4] (
 .ret)))))⟩

def tf22 : TFn := ⟨41, [.cell 4 true 5],
 .seq (
  .region false [⟨(some 4), .alloc 23 [(.int .i64 0), (.int .i64 0), (.int .i64 0), (.str []), (.str [])], none⟩]) [0, 1, 4] (
 .seq (
  .region false [⟨(some 8), .build [(.int .i64 0), (.int .i64 0), (.int .i64 0), (.int .i64 0), (.int .i64 0), (.int .i64 0), (.int .i64 0), (.int .i64 0)] [(0, 1, (.c (.int .i64 0))), (1, 1, (.c (.int .i64 1))), (2, 1, (.c (.int .i64 2))), (3, 1, (.c (.int .i64 3))), (4, 1, (.c (.int .i64 0))), (5, 1, (.c (.int .i64 1))), (6, 1, (.c (.int .i64 10))), (7, 1, (.c (.int .i64 9999)))], none⟩,
    ⟨(some 5), .alloc 44 [(.int .i64 0), (.int .i64 0), (.int .i64 0), (.int .i64 0), (.int .i64 0), (.int .i64 0), (.int .i64 0), (.int .i64 0)], none⟩,
    ⟨none, .store 8 (.s 5) (.s 8), none⟩]) [0, 1, 4, 5] (
 .seq (
  .region false [⟨(some 9), .build [(.str []), (.str []), (.str []), (.str []), (.str []), (.str []), (.str []), (.str []), (.str []), (.str []), (.str []), (.str []), (.str []), (.str [])] [(0, 1, (.c (.str []))), (1, 1, (.c (.str []))), (2, 1, (.c (.str []))), (3, 1, (.c (.str []))), (4, 1, (.c (.str [48]))), (5, 1, (.c (.str [49]))), (6, 1, (.c (.str [50]))), (7, 1, (.c (.str [49, 49]))), (8, 1, (.c (.str [97]))), (9, 1, (.c (.str [97, 46, 49]))), (10, 1, (.c (.str [97, 46, 98]))), (11, 1, (.c (.str [98]))), (12, 1, (.c (.str [48, 46, 48]))), (13, 1, (.c (.str [114, 99, 46, 49])))], none⟩,
    ⟨(some 6), .alloc 45 [(.str []), (.str []), (.str []), (.str []), (.str []), (.str []), (.str []), (.str []), (.str []), (.str []), (.str []), (.str []), (.str []), (.str [])], none⟩,
    ⟨none, .store 14 (.s 6) (.s 9), none⟩]) [0, 1, 4, 5, 6] (
 .seq (
  .region false [⟨(some 10), .build [(.str []), (.str []), (.str []), (.str []), (.str []), (.str [])] [(0, 1, (.c (.str []))), (1, 1, (.c (.str []))), (2, 1, (.c (.str []))), (3, 1, (.c (.str []))), (4, 1, (.c (.str [48, 48, 55]))), (5, 1, (.c (.str [120, 46, 49])))], none⟩,
    ⟨(some 7), .alloc 46 [(.str []), (.str []), (.str []), (.str []), (.str []), (.str [])], none⟩,
    ⟨none, .store 6 (.s 7) (.s 10), none⟩]) [0, 1, 4, 5, 6, 7] (
 .seq (
  .region true [⟨(some 11), .mov (.s 0), none⟩,
    ⟨(some 12), .mov (.s 1), none⟩,
    ⟨(some 13), .call 30 [(.s 11), (.s 12), (.c (.int .i64 8))], none⟩,
    ⟨(some 14), .indexArr 8 1 (.s 5) (.s 13), none⟩,
    ⟨(some 15), .load false 1 (.s 14), none⟩,
    ⟨(some 16), .mov (.s 0), none⟩,
    ⟨(some 17), .mov (.s 1), none⟩,
    ⟨(some 18), .bin .add false (.s 17) (.c (.int .i64 1)), none⟩,
    ⟨(some 19), .call 30 [(.s 16), (.s 18), (.c (.int .i64 8))], none⟩,
    ⟨(some 20), .indexArr 8 1 (.s 5) (.s 19), none⟩,
    ⟨(some 21), .load false 1 (.s 20), none⟩,
    ⟨(some 22), .mov (.s 0), none⟩,
    ⟨(some 23), .mov (.s 1), none⟩,
    ⟨(some 24), .bin .add false (.s 23) (.c (.int .i64 2)), none⟩,
    ⟨(some 25), .call 30 [(.s 22), (.s 24), (.c (.int .i64 8))], none⟩,
    ⟨(some 26), .indexArr 8 1 (.s 5) (.s 25), none⟩,
    ⟨(some 27), .load false 1 (.s 26), none⟩,
    ⟨(some 28), .mov (.s 0), none⟩,
    ⟨(some 29), .mov (.s 1), none⟩,
    ⟨(some 30), .bin .add false (.s 29) (.c (.int .i64 3)), none⟩,
    ⟨(some 31), .call 30 [(.s 28), (.s 30), (.c (.int .i64 14))], none⟩,
    ⟨(some 32), .indexArr 14 1 (.s 6) (.s 31), none⟩,
    ⟨(some 33), .load false 1 (.s 32), none⟩,
    ⟨(some 34), .mov (.s 0), none⟩,
    ⟨(some 35), .mov (.s 1), none⟩,
    ⟨(some 36), .bin .add false (.s 35) (.c (.int .i64 4)), none⟩,
    ⟨(some 37), .call 30 [(.s 34), (.s 36), (.c (.int .i64 6))], none⟩,
    ⟨(some 38), .indexArr 6 1 (.s 7) (.s 37), none⟩,
    ⟨(some 39), .load false 1 (.s 38), none⟩,
    ⟨(some 40), .build [(.int .i64 0), (.int .i64 0), (.int .i64 0), (.str []), (.str [])] [(0, 1, (.s 15)), (1, 1, (.s 21)), (2, 1, (.s 27)), (3, 1, (.s 33)), (4, 1, (.s 39))], none⟩,
    ⟨none, .store 5 (.s 4) (.s 40), none⟩]) [4] (
 .ret)))))⟩

def tf23 : TFn := ⟨5, [.cell 2 true 5],
 .seq (
  .region false [⟨(some 1), .box 23 (.s 0), none⟩,
    ⟨(some 2), .alloc 23 [(.int .i64 0), (.int .i64 0), (.int .i64 0), (.str []), (.str [])], none⟩]) [1, 2] (
 .seq (
  .region false [⟨(some 3), .fieldAddr 4 (.s 1), none⟩,
    ⟨none, .store 1 (.s 3) (.c (.str [])), none⟩]) [1, 2] (
 .seq (
  .region false [⟨(some 4), .load true 5 (.s 1), none⟩,
    ⟨none, .store 5 (.s 2) (.s 4), none⟩]) [2] (
 .ret)))⟩

def tf24 : TFn := ⟨86, [.tmp 4],
 .seq (
  .region false [⟨(some 2), .box 23 (.s 0), none⟩,
    ⟨(some 3), .box 23 (.s 1), none⟩,
    ⟨(some 4), .mov (.c (.int .i64 0)), none⟩]) [2, 3] (
 .seq (
  .seq (
   .region true [⟨(some 10), .load true 5 (.s 2), none⟩,
     ⟨(some 11), .call 25 [(.s 10)], none⟩,
     ⟨(some 12), .un .not (.s 11), none⟩,
     ⟨(some 13), .mov (.s 12), none⟩,
     ⟨(some 14), .load true 5 (.s 3), (some (13, false))⟩,
     ⟨(some 15), .call 25 [(.s 14)], (some (13, false))⟩,
     ⟨(some 16), .un .not (.s 15), (some (13, false))⟩,
     ⟨(some 17), .pick (.s 13) (.c (.bool true)) (.s 16), none⟩,
     ⟨(some 18), .mov (.s 17), none⟩,
     ⟨(some 19), .load true 5 (.s 2), (some (18, false))⟩,
     ⟨(some 20), .call 23 [(.s 19)], (some (18, false))⟩,
     ⟨(some 21), .load true 5 (.s 3), (some (18, false))⟩,
     ⟨(some 22), .call 23 [(.s 21)], (some (18, false))⟩,
     ⟨(some 23), .eqs false [0, 0, 0, 2, 2] (.s 20) (.s 22), (some (18, false))⟩,
     ⟨(some 24), .pick (.s 18) (.c (.bool true)) (.s 23), none⟩]) [2, 3, 24] (
  .cond (.s 24) (
   .seq (
    .region false [⟨(some 4), .mov (.c (.int .i64 0)), none⟩]) [4] (
   .ret)) (
   .skip))) [2, 3] (
 .seq (
  .seq (
   .region true [⟨(some 25), .fieldAddr 0 (.s 2), none⟩,
     ⟨(some 26), .load false 1 (.s 25), none⟩,
     ⟨(some 27), .fieldAddr 0 (.s 3), none⟩,
     ⟨(some 28), .load false 1 (.s 27), none⟩,
     ⟨(some 29), .call 27 [(.s 26), (.s 28)], none⟩,
     ⟨(some 30), .fieldAddr 1 (.s 2), none⟩,
     ⟨(some 31), .load false 1 (.s 30), none⟩,
     ⟨(some 32), .fieldAddr 1 (.s 3), none⟩,
     ⟨(some 33), .load false 1 (.s 32), none⟩,
     ⟨(some 34), .call 27 [(.s 31), (.s 33)], none⟩,
     ⟨(some 35), .fieldAddr 2 (.s 2), none⟩,
     ⟨(some 36), .load false 1 (.s 35), none⟩,
     ⟨(some 37), .fieldAddr 2 (.s 3), none⟩,
     ⟨(some 38), .load false 1 (.s 37), none⟩,
     ⟨(some 39), .call 27 [(.s 36), (.s 38)], none⟩,
     ⟨(some 40), .buildSlice 1 3 [(.s 29), (.s 34), (.s 39)], none⟩,
     ⟨(some 41), .call 31 [(.s 40)], none⟩,
     ⟨(some 5), .mov (.s 41), none⟩]) [2, 3, 5] (
  .seq (
   .region false [⟨(some 42), .mov (.s 5), none⟩,
     ⟨(some 43), .bin .neq false (.s 42) (.c (.int .i64 0)), none⟩]) [2, 3, 5, 43] (
  .cond (.s 43) (
   .seq (
    .region false [⟨(some 44), .mov (.s 5), none⟩,
      ⟨(some 4), .mov (.s 44), none⟩]) [4] (
   .ret)) (
   .skip)))) [2, 3] (
 .seq (
  .seq (
   .region false [⟨(some 45), .fieldAddr 3 (.s 2), none⟩,
     ⟨(some 46), .load false 1 (.s 45), none⟩,
     ⟨(some 47), .bin .eql false (.s 46) (.c (.str [])), none⟩]) [2, 3, 47] (
  .cond (.s 47) (
   .seq (
    .region false [⟨(some 4), .mov (.c (.int .i64 1)), none⟩]) [4] (
   .ret)) (
   .skip))) [2, 3] (
 .seq (
  .seq (
   .region false [⟨(some 48), .fieldAddr 3 (.s 3), none⟩,
     ⟨(some 49), .load false 1 (.s 48), none⟩,
     ⟨(some 50), .bin .eql false (.s 49) (.c (.str [])), none⟩]) [2, 3, 50] (
  .cond (.s 50) (
   .seq (
    .region false [⟨(some 4), .mov (.c (.int .i64 (-1))), none⟩]) [4] (
   .ret)) (
   .skip))) [2, 3] (
 .seq (
  .region true [⟨(some 51), .fieldAddr 3 (.s 2), none⟩,
    ⟨(some 52), .load false 1 (.s 51), none⟩,
    ⟨(some 53), .call 32 [(.s 52), (.c (.int .u8 46))], none⟩,
    ⟨(some 54), .fieldAddr 3 (.s 3), none⟩,
    ⟨(some 55), .load false 1 (.s 54), none⟩,
    ⟨(some 56), .call 32 [(.s 55), (.c (.int .u8 46))], none⟩,
    ⟨(some 6), .mov (.s 53), none⟩,
    ⟨(some 7), .mov (.s 56), none⟩]) [6, 7] (
 .seq (
  .seq (
   .region false [⟨(some 8), .mov (.c (.int .i64 0)), none⟩]) [6, 7, 8] (
  .block 0 (
   .loop (
    .seq (
     .seq (
      .region false [⟨(some 57), .mov (.s 8), none⟩,
        ⟨(some 58), .mov (.s 6), none⟩,
        ⟨(some 59), .len (.s 58), none⟩,
        ⟨(some 60), .bin .lss false (.s 57) (.s 59), none⟩,
        ⟨(some 61), .mov (.s 60), none⟩,
        ⟨(some 62), .mov (.s 8), (some (61, true))⟩,
        ⟨(some 63), .mov (.s 7), (some (61, true))⟩,
        ⟨(some 64), .len (.s 63), (some (61, true))⟩,
        ⟨(some 65), .bin .lss false (.s 62) (.s 64), (some (61, true))⟩,
        ⟨(some 66), .pick (.s 61) (.s 65) (.c (.bool false)), none⟩]) [6, 7, 8, 66] (
     .cond (.s 66) (
      .skip) (
      .exit 0))) [6, 7, 8] (
    .seq (
     .block 1 (
      .seq (
       .region true [⟨(some 69), .mov (.s 6), none⟩,
         ⟨(some 70), .mov (.s 8), none⟩,
         ⟨(some 71), .indexAddr 1 (.s 69) (.s 70), none⟩,
         ⟨(some 72), .load false 1 (.s 71), none⟩,
         ⟨(some 73), .mov (.s 7), none⟩,
         ⟨(some 74), .mov (.s 8), none⟩,
         ⟨(some 75), .indexAddr 1 (.s 73) (.s 74), none⟩,
         ⟨(some 76), .load false 1 (.s 75), none⟩,
         ⟨(some 77), .call 33 [(.s 72), (.s 76)], none⟩,
         ⟨(some 9), .mov (.s 77), none⟩]) [6, 7, 8, 9] (
      .seq (
       .region false [⟨(some 78), .mov (.s 9), none⟩,
         ⟨(some 79), .bin .neq false (.s 78) (.c (.int .i64 0)), none⟩]) [6, 7, 8, 9, 79] (
      .cond (.s 79) (
       .seq (
        .region false [⟨(some 80), .mov (.s 9), none⟩,
          ⟨(some 4), .mov (.s 80), none⟩]) [4] (
       .ret)) (
       .skip))))) [6, 7, 8] (
    .region false [⟨(some 67), .mov (.s 8), none⟩,
      ⟨(some 68), .bin .add false (.s 67) (.c (.int .i64 1)), none⟩,
      ⟨(some 8), .mov (.s 68), none⟩])))))) [6, 7] (
 .seq (
  .region false [⟨(some 81), .mov (.s 6), none⟩,
    ⟨(some 82), .len (.s 81), none⟩,
    ⟨(some 83), .mov (.s 7), none⟩,
    ⟨(some 84), .len (.s 83), none⟩,
    ⟨(some 85), .call 27 [(.s 82), (.s 84)], none⟩,
    ⟨(some 4), .mov (.s 85), none⟩]) [4] (
 .ret))))))))⟩

def tf25 : TFn := ⟨36, [.tmp 2],
 .seq (
  .region false [⟨(some 1), .box 23 (.s 0), none⟩,
    ⟨(some 2), .mov (.c (.bool false)), none⟩]) [1] (
 .seq (
  .region false [⟨(some 3), .fieldAddr 0 (.s 1), none⟩,
    ⟨(some 4), .load false 1 (.s 3), none⟩,
    ⟨(some 5), .call 34 [(.s 4)], none⟩,
    ⟨(some 6), .mov (.s 5), none⟩,
    ⟨(some 7), .fieldAddr 1 (.s 1), (some (6, true))⟩,
    ⟨(some 8), .load false 1 (.s 7), (some (6, true))⟩,
    ⟨(some 9), .call 34 [(.s 8)], (some (6, true))⟩,
    ⟨(some 10), .pick (.s 6) (.s 9) (.c (.bool false)), none⟩,
    ⟨(some 11), .mov (.s 10), none⟩,
    ⟨(some 12), .fieldAddr 2 (.s 1), (some (11, true))⟩,
    ⟨(some 13), .load false 1 (.s 12), (some (11, true))⟩,
    ⟨(some 14), .call 34 [(.s 13)], (some (11, true))⟩,
    ⟨(some 15), .pick (.s 11) (.s 14) (.c (.bool false)), none⟩,
    ⟨(some 16), .mov (.s 15), none⟩,
    ⟨(some 17), .fieldAddr 3 (.s 1), (some (16, true))⟩,
    ⟨(some 18), .load false 1 (.s 17), (some (16, true))⟩,
    ⟨(some 19), .bin .eql false (.s 18) (.c (.str [])), (some (16, true))⟩,
    ⟨(some 20), .mov (.s 19), (some (16, true))⟩,
    ⟨(some 21), .fieldAddr 3 (.s 1), (some (20, false))⟩,
    ⟨(some 22), .load false 1 (.s 21), (some (20, false))⟩,
    ⟨(some 23), .call 35 [(.s 22)], (some (20, false))⟩,
    ⟨(some 24), .pick (.s 20) (.c (.bool true)) (.s 23), (some (16, true))⟩,
    ⟨(some 25), .pick (.s 16) (.s 24) (.c (.bool false)), none⟩,
    ⟨(some 26), .mov (.s 25), none⟩,
    ⟨(some 27), .fieldAddr 4 (.s 1), (some (26, true))⟩,
    ⟨(some 28), .load false 1 (.s 27), (some (26, true))⟩,
    ⟨(some 29), .bin .eql false (.s 28) (.c (.str [])), (some (26, true))⟩,
    ⟨(some 30), .mov (.s 29), (some (26, true))⟩,
    ⟨(some 31), .fieldAddr 4 (.s 1), (some (30, false))⟩,
    ⟨(some 32), .load false 1 (.s 31), (some (30, false))⟩,
    ⟨(some 33), .call 36 [(.s 32)], (some (30, false))⟩,
    ⟨(some 34), .pick (.s 30) (.c (.bool true)) (.s 33), (some (26, true))⟩,
    ⟨(some 35), .pick (.s 26) (.s 34) (.c (.bool false)), none⟩,
    ⟨(some 2), .mov (.s 35), none⟩]) [2] (
 .ret))⟩

def tf26 : TFn := ⟨26, [.tmp 2],
 .seq (
  .region false [⟨(some 1), .box 23 (.s 0), none⟩,
    ⟨(some 2), .mov (.c (.bool false)), none⟩]) [1] (
 .seq (
  .region false [⟨(some 3), .fieldAddr 0 (.s 1), none⟩,
    ⟨(some 4), .load false 1 (.s 3), none⟩,
    ⟨(some 5), .call 37 [(.s 4)], none⟩,
    ⟨(some 6), .mov (.s 5), none⟩,
    ⟨(some 7), .fieldAddr 1 (.s 1), (some (6, true))⟩,
    ⟨(some 8), .load false 1 (.s 7), (some (6, true))⟩,
    ⟨(some 9), .call 37 [(.s 8)], (some (6, true))⟩,
    ⟨(some 10), .pick (.s 6) (.s 9) (.c (.bool false)), none⟩,
    ⟨(some 11), .mov (.s 10), none⟩,
    ⟨(some 12), .fieldAddr 2 (.s 1), (some (11, true))⟩,
    ⟨(some 13), .load false 1 (.s 12), (some (11, true))⟩,
    ⟨(some 14), .call 37 [(.s 13)], (some (11, true))⟩,
    ⟨(some 15), .pick (.s 11) (.s 14) (.c (.bool false)), none⟩,
    ⟨(some 16), .mov (.s 15), none⟩,
    ⟨(some 17), .fieldAddr 3 (.s 1), (some (16, true))⟩,
    ⟨(some 18), .load false 1 (.s 17), (some (16, true))⟩,
    ⟨(some 19), .call 38 [(.s 18), (.c (.bool true))], (some (16, true))⟩,
    ⟨(some 20), .pick (.s 16) (.s 19) (.c (.bool false)), none⟩,
    ⟨(some 21), .mov (.s 20), none⟩,
    ⟨(some 22), .fieldAddr 4 (.s 1), (some (21, true))⟩,
    ⟨(some 23), .load false 1 (.s 22), (some (21, true))⟩,
    ⟨(some 24), .call 38 [(.s 23), (.c (.bool false))], (some (21, true))⟩,
    ⟨(some 25), .pick (.s 21) (.s 24) (.c (.bool false)), none⟩,
    ⟨(some 2), .mov (.s 25), none⟩]) [2] (
 .ret))⟩

def tf27 : TFn := ⟨20, [.tmp 4],
 .seq (
  .region false [⟨(some 4), .mov (.c (.int .i64 0)), none⟩]) [0, 1] (
 .seq (
  .region false [⟨(some 7), .mov (.s 0), none⟩,
    ⟨(some 8), .call 39 [(.s 7)], none⟩,
    ⟨(some 5), .mov (.s 8), none⟩]) [0, 1, 5] (
 .seq (
  .region false [⟨(some 9), .mov (.s 1), none⟩,
    ⟨(some 10), .call 39 [(.s 9)], none⟩,
    ⟨(some 6), .mov (.s 10), none⟩]) [0, 1, 5, 6] (
 .seq (
  .seq (
   .region false [⟨(some 11), .mov (.s 5), none⟩]) [0, 1, 6, 11] (
  .cond (.s 11) (
   .seq (
    .seq (
     .region false [⟨(some 12), .mov (.s 6), none⟩]) [12] (
    .cond (.s 12) (
     .seq (
      .region false [⟨(some 4), .mov (.c (.int .i64 0)), none⟩]) [4] (
     .ret)) (
     .skip))) [] (
   .seq (
    .region false [⟨(some 4), .mov (.c (.int .i64 (-1))), none⟩]) [4] (
   .ret))) (
   .skip))) [0, 1, 6] (
 .seq (
  .seq (
   .region false [⟨(some 13), .mov (.s 6), none⟩]) [0, 1, 13] (
  .cond (.s 13) (
   .seq (
    .region false [⟨(some 4), .mov (.c (.int .i64 1)), none⟩]) [4] (
   .ret)) (
   .skip))) [0, 1] (
 .seq (
  .seq (
   .region false [⟨(some 14), .mov (.s 0), none⟩,
     ⟨(some 15), .mov (.s 1), none⟩,
     ⟨(some 16), .bin .lss false (.s 14) (.s 15), none⟩]) [0, 1, 16] (
  .cond (.s 16) (
   .seq (
    .region false [⟨(some 4), .mov (.c (.int .i64 (-1))), none⟩]) [4] (
   .ret)) (
   .skip))) [0, 1] (
 .seq (
  .seq (
   .region false [⟨(some 17), .mov (.s 0), none⟩,
     ⟨(some 18), .mov (.s 1), none⟩,
     ⟨(some 19), .bin .gtr false (.s 17) (.s 18), none⟩]) [19] (
  .cond (.s 19) (
   .seq (
    .region false [⟨(some 4), .mov (.c (.int .i64 1)), none⟩]) [4] (
   .ret)) (
   .skip))) [] (
 .seq (
  .region false [⟨(some 4), .mov (.c (.int .i64 0)), none⟩]) [4] (
 .ret))))))))⟩

def tf28 : TFn := ⟨13, [.tmp 4],
 .seq (
  .region false [⟨(some 4), .mov (.c (.int .i64 0)), none⟩]) [0, 1] (
 .seq (
  .block 0 (
   .seq (
    .region false [⟨(some 6), .mov (.s 0), none⟩,
      ⟨(some 7), .mov (.s 1), none⟩,
      ⟨(some 8), .bin .lss false (.s 6) (.s 7), none⟩,
      ⟨(some 5), .mov (.s 8), none⟩]) [0, 1, 5] (
   .cond (.s 5) (
    .seq (
     .region false [⟨(some 4), .mov (.c (.int .i64 (-1))), none⟩]) [4] (
    .ret)) (
    .seq (
     .region false [⟨(some 10), .mov (.s 0), none⟩,
       ⟨(some 11), .mov (.s 1), none⟩,
       ⟨(some 12), .bin .gtr false (.s 10) (.s 11), none⟩,
       ⟨(some 9), .mov (.s 12), none⟩]) [9] (
    .cond (.s 9) (
     .seq (
      .region false [⟨(some 4), .mov (.c (.int .i64 1)), none⟩]) [4] (
     .ret)) (
     .skip)))))) [] (
 .seq (
  .region false [⟨(some 4), .mov (.c (.int .i64 0)), none⟩]) [4] (
 .ret)))⟩

def tf29 : TFn := ⟨45, [.tmp 4],
 .seq (
  .region false [⟨(some 2), .box 23 (.s 0), none⟩,
    ⟨(some 3), .box 23 (.s 1), none⟩,
    ⟨(some 4), .mov (.c (.int .i64 0)), none⟩]) [2, 3] (
 .seq (
  .seq (
   .region false [⟨(some 8), .load true 5 (.s 2), none⟩,
     ⟨(some 9), .call 26 [(.s 8)], none⟩,
     ⟨(some 10), .un .not (.s 9), none⟩,
     ⟨(some 11), .mov (.s 10), none⟩,
     ⟨(some 12), .load true 5 (.s 3), (some (11, false))⟩,
     ⟨(some 13), .call 26 [(.s 12)], (some (11, false))⟩,
     ⟨(some 14), .un .not (.s 13), (some (11, false))⟩,
     ⟨(some 15), .pick (.s 11) (.c (.bool true)) (.s 14), none⟩]) [2, 3, 15] (
  .cond (.s 15) (
   .seq (
    .region false [⟨(some 4), .mov (.c (.int .i64 0)), none⟩]) [4] (
   .ret)) (
   .skip))) [2, 3] (
 .seq (
  .seq (
   .region false [⟨(some 16), .fieldAddr 0 (.s 2), none⟩,
     ⟨(some 17), .load false 1 (.s 16), none⟩,
     ⟨(some 18), .fieldAddr 0 (.s 3), none⟩,
     ⟨(some 19), .load false 1 (.s 18), none⟩,
     ⟨(some 20), .call 28 [(.s 17), (.s 19)], none⟩,
     ⟨(some 5), .mov (.s 20), none⟩]) [2, 3, 5] (
  .seq (
   .region false [⟨(some 21), .mov (.s 5), none⟩,
     ⟨(some 22), .bin .neq false (.s 21) (.c (.int .i64 0)), none⟩]) [2, 3, 5, 22] (
  .cond (.s 22) (
   .seq (
    .region false [⟨(some 23), .mov (.s 5), none⟩,
      ⟨(some 4), .mov (.s 23), none⟩]) [4] (
   .ret)) (
   .skip)))) [2, 3] (
 .seq (
  .seq (
   .region false [⟨(some 24), .fieldAddr 1 (.s 2), none⟩,
     ⟨(some 25), .load false 1 (.s 24), none⟩,
     ⟨(some 26), .fieldAddr 1 (.s 3), none⟩,
     ⟨(some 27), .load false 1 (.s 26), none⟩,
     ⟨(some 28), .call 28 [(.s 25), (.s 27)], none⟩,
     ⟨(some 6), .mov (.s 28), none⟩]) [2, 3, 6] (
  .seq (
   .region false [⟨(some 29), .mov (.s 6), none⟩,
     ⟨(some 30), .bin .neq false (.s 29) (.c (.int .i64 0)), none⟩]) [2, 3, 6, 30] (
  .cond (.s 30) (
   .seq (
    .region false [⟨(some 31), .mov (.s 6), none⟩,
      ⟨(some 4), .mov (.s 31), none⟩]) [4] (
   .ret)) (
   .skip)))) [2, 3] (
 .seq (
  .seq (
   .region false [⟨(some 32), .fieldAddr 2 (.s 2), none⟩,
     ⟨(some 33), .load false 1 (.s 32), none⟩,
     ⟨(some 34), .fieldAddr 2 (.s 3), none⟩,
     ⟨(some 35), .load false 1 (.s 34), none⟩,
     ⟨(some 36), .call 28 [(.s 33), (.s 35)], none⟩,
     ⟨(some 7), .mov (.s 36), none⟩]) [2, 3, 7] (
  .seq (
   .region false [⟨(some 37), .mov (.s 7), none⟩,
     ⟨(some 38), .bin .neq false (.s 37) (.c (.int .i64 0)), none⟩]) [2, 3, 7, 38] (
  .cond (.s 38) (
   .seq (
    .region false [⟨(some 39), .mov (.s 7), none⟩,
      ⟨(some 4), .mov (.s 39), none⟩]) [4] (
   .ret)) (
   .skip)))) [2, 3] (
 .seq (
  .region false [⟨(some 40), .fieldAddr 3 (.s 2), none⟩,
    ⟨(some 41), .load false 1 (.s 40), none⟩,
    ⟨(some 42), .fieldAddr 3 (.s 3), none⟩,
    ⟨(some 43), .load false 1 (.s 42), none⟩,
    ⟨(some 44), .call 40 [(.s 41), (.s 43)], none⟩,
    ⟨(some 4), .mov (.s 44), none⟩]) [4] (
 .ret))))))⟩

def tf30 : TFn := ⟨12, [.tmp 6],
 .seq (
  .region false [⟨(some 6), .mov (.c (.int .i64 0)), none⟩]) [0, 1, 2] (
 .seq (
  .region false [⟨(some 7), .mov (.s 0), none⟩,
    ⟨(some 8), .mov (.s 1), none⟩,
    ⟨(some 9), .call 42 [(.s 7), (.s 8)], none⟩,
    ⟨(some 10), .mov (.s 2), none⟩,
    ⟨(some 11), .call 41 [(.s 9), (.s 10)], none⟩,
    ⟨(some 6), .mov (.s 11), none⟩]) [6] (
 .ret))⟩

def tf31 : TFn := ⟨18, [.tmp 2],
 .seq (
  .region false [⟨(some 2), .mov (.c (.int .i64 0)), none⟩]) [0] (
 .seq (
  .region false [⟨(some 3), .mov (.c (.int .i64 0)), none⟩]) [0, 3] (
 .seq (
  .seq (
   .region false [⟨(some 6), .mov (.s 0), none⟩,
     ⟨(some 7), .len (.s 6), none⟩,
     ⟨(some 8), .mov (.c (.int .i64 0)), none⟩]) [3, 6, 7, 8] (
  .block 0 (
   .loop (
    .seq (
     .region false [⟨(some 9), .bin .lss false (.s 8) (.s 7), none⟩]) [3, 6, 7, 8, 9] (
    .seq (
     .cond (.s 9) (
      .skip) (
      .exit 0)) [3, 6, 7, 8] (
    .seq (
     .block 1 (
      .seq (
       .region false [⟨(some 10), .indexAddr 1 (.s 6) (.s 8), none⟩,
         ⟨(some 11), .load false 1 (.s 10), none⟩,
         ⟨(some 5), .mov (.s 11), none⟩]) [3, 5, 6, 7, 8] (
      .seq (
       .region false [⟨(some 12), .mov (.s 5), none⟩,
         ⟨(some 13), .mov (.s 3), none⟩,
         ⟨(some 14), .bin .neq false (.s 12) (.s 13), none⟩]) [3, 5, 6, 7, 8, 14] (
      .cond (.s 14) (
       .seq (
        .region false [⟨(some 15), .mov (.s 5), none⟩,
          ⟨(some 2), .mov (.s 15), none⟩]) [2] (
       .ret)) (
       .skip))))) [3, 6, 7, 8] (
    .region false [⟨(some 16), .bin .add false (.s 8) (.c (.int .i64 1)), none⟩,
      ⟨(some 8), .mov (.s 16), none⟩]))))))) [3] (
 .seq (
  .region false [⟨(some 17), .mov (.s 3), none⟩,
    ⟨(some 2), .mov (.s 17), none⟩]) [2] (
 .ret))))⟩

def tf32 : TFn := ⟨34, [.tmp 4],
 .seq (
  .region false [⟨(some 4), .mov (.c (.fsl [])), none⟩]) [0, 1] (
 .seq (
  .region false [⟨(some 5), .mov (.c (.fsl [])), none⟩]) [0, 1, 5] (
 .seq (
  .region false [⟨(some 6), .mov (.c (.int .i64 0)), none⟩]) [0, 1, 5, 6] (
 .seq (
  .seq (
   .region false [⟨(some 8), .mov (.s 0), none⟩,
     ⟨(some 9), .lenStr (.s 8), none⟩,
     ⟨(some 10), .mov (.c (.int .i64 0)), none⟩]) [0, 1, 5, 6, 9, 10] (
  .block 0 (
   .loop (
    .seq (
     .region false [⟨(some 11), .bin .lss false (.s 10) (.s 9), none⟩]) [0, 1, 5, 6, 9, 10, 11] (
    .seq (
     .cond (.s 11) (
      .skip) (
      .exit 0)) [0, 1, 5, 6, 9, 10] (
    .seq (
     .block 1 (
      .seq (
       .region false [⟨(some 12), .mov (.s 10), none⟩,
         ⟨(some 7), .mov (.s 12), none⟩]) [0, 1, 5, 6, 7, 9, 10] (
      .seq (
       .region false [⟨(some 13), .mov (.s 0), none⟩,
         ⟨(some 14), .mov (.s 7), none⟩,
         ⟨(some 15), .indexStr (.s 13) (.s 14), none⟩,
         ⟨(some 16), .mov (.s 1), none⟩,
         ⟨(some 17), .bin .eql false (.s 15) (.s 16), none⟩]) [0, 1, 5, 6, 7, 9, 10, 17] (
      .cond (.s 17) (
       .seq (
        .region false [⟨(some 18), .mov (.s 5), none⟩,
          ⟨(some 19), .mov (.s 0), none⟩,
          ⟨(some 20), .mov (.s 6), none⟩,
          ⟨(some 21), .mov (.s 7), none⟩,
          ⟨(some 22), .sliceStr (.s 19) (some (.s 20)) (some (.s 21)), none⟩,
          ⟨(some 23), .buildSlice 1 9 [(.s 22)], none⟩,
          ⟨(some 24), .append 1 9 16 (.s 18) (.s 23), none⟩,
          ⟨(some 5), .mov (.s 24), none⟩]) [0, 1, 5, 7, 9, 10] (
       .region false [⟨(some 25), .mov (.s 7), none⟩,
         ⟨(some 26), .bin .add false (.s 25) (.c (.int .i64 1)), none⟩,
         ⟨(some 6), .mov (.s 26), none⟩])) (
       .skip))))) [0, 1, 5, 6, 9, 10] (
    .region false [⟨(some 27), .bin .add false (.s 10) (.c (.int .i64 1)), none⟩,
      ⟨(some 10), .mov (.s 27), none⟩]))))))) [0, 5, 6] (
 .seq (
  .region false [⟨(some 28), .mov (.s 5), none⟩,
    ⟨(some 29), .mov (.s 0), none⟩,
    ⟨(some 30), .mov (.s 6), none⟩,
    ⟨(some 31), .sliceStr (.s 29) (some (.s 30)) none, none⟩,
    ⟨(some 32), .buildSlice 1 9 [(.s 31)], none⟩,
    ⟨(some 33), .append 1 9 16 (.s 28) (.s 32), none⟩,
    ⟨(some 4), .mov (.s 33), none⟩]) [4] (
 .ret)))))⟩

def tf33 : TFn := ⟨39, [.tmp 4],
 .seq (
  .region false [⟨(some 4), .mov (.c (.int .i64 0)), none⟩]) [0, 1] (
 .seq (
  .region false [⟨(some 11), .mov (.s 0), none⟩,
    ⟨(some 12), .call 43 [(.s 11)], none⟩,
    ⟨(some 13), .mov (.s 1), none⟩,
    ⟨(some 14), .call 43 [(.s 13)], none⟩,
    ⟨(some 5), .mov (.s 12), none⟩,
    ⟨(some 6), .mov (.s 14), none⟩]) [0, 1, 5, 6] (
 .seq (
  .seq (
   .region false [⟨(some 15), .mov (.s 5), none⟩,
     ⟨(some 16), .mov (.s 15), none⟩,
     ⟨(some 17), .mov (.s 6), (some (16, true))⟩,
     ⟨(some 18), .pick (.s 16) (.s 17) (.c (.bool false)), none⟩]) [0, 1, 5, 6, 18] (
  .cond (.s 18) (
   .seq (
    .region false [⟨(some 20), .mov (.s 0), none⟩,
      ⟨(some 21), .call 44 [(.s 20)], none⟩,
      ⟨(some 19), .mov (.s 21), none⟩,
      ⟨(some 22), .extract 0 (.s 19), none⟩,
      ⟨(some 23), .extract 1 (.s 19), none⟩,
      ⟨(some 7), .mov (.s 22), none⟩,
      ⟨(some 8), .mov (.s 23), none⟩]) [1, 7] (
   .seq (
    .region false [⟨(some 25), .mov (.s 1), none⟩,
      ⟨(some 26), .call 44 [(.s 25)], none⟩,
      ⟨(some 24), .mov (.s 26), none⟩,
      ⟨(some 27), .extract 0 (.s 24), none⟩,
      ⟨(some 28), .extract 1 (.s 24), none⟩,
      ⟨(some 9), .mov (.s 27), none⟩,
      ⟨(some 10), .mov (.s 28), none⟩]) [7, 9] (
   .seq (
    .region false [⟨(some 29), .mov (.s 7), none⟩,
      ⟨(some 30), .mov (.s 9), none⟩,
      ⟨(some 31), .call 27 [(.s 29), (.s 30)], none⟩,
      ⟨(some 4), .mov (.s 31), none⟩]) [4] (
   .ret)))) (
   .skip))) [0, 1, 5, 6] (
 .seq (
  .seq (
   .region false [⟨(some 32), .mov (.s 5), none⟩,
     ⟨(some 33), .mov (.s 6), none⟩,
     ⟨(some 34), .bin .neq true (.s 32) (.s 33), none⟩]) [0, 1, 5, 34] (
  .cond (.s 34) (
   .seq (
    .seq (
     .region false [⟨(some 35), .mov (.s 5), none⟩]) [35] (
    .cond (.s 35) (
     .seq (
      .region false [⟨(some 4), .mov (.c (.int .i64 (-1))), none⟩]) [4] (
     .ret)) (
     .skip))) [] (
   .seq (
    .region false [⟨(some 4), .mov (.c (.int .i64 1)), none⟩]) [4] (
   .ret))) (
   .skip))) [0, 1] (
 .seq (
  .region false [⟨(some 36), .mov (.s 0), none⟩,
    ⟨(some 37), .mov (.s 1), none⟩,
    ⟨(some 38), .call 45 [(.s 36), (.s 37)], none⟩,
    ⟨(some 4), .mov (.s 38), none⟩]) [4] (
 .ret)))))⟩

def tf34 : TFn := ⟨9, [.tmp 2],
 .seq (
  .region false [⟨(some 2), .mov (.c (.bool false)), none⟩]) [0] (
 .seq (
  .region false [⟨(some 3), .mov (.s 0), none⟩,
    ⟨(some 4), .bin .geq false (.s 3) (.c (.int .i64 0)), none⟩,
    ⟨(some 5), .mov (.s 4), none⟩,
    ⟨(some 6), .mov (.s 0), (some (5, true))⟩,
    ⟨(some 7), .bin .leq false (.s 6) (.c (.int .i64 9999)), (some (5, true))⟩,
    ⟨(some 8), .pick (.s 5) (.s 7) (.c (.bool false)), none⟩,
    ⟨(some 2), .mov (.s 8), none⟩]) [2] (
 .ret))⟩

def tf35 : TFn := ⟨29, [.tmp 2],
 .seq (
  .region false [⟨(some 2), .mov (.c (.bool false)), none⟩]) [0] (
 .seq (
  .seq (
   .region false [⟨(some 7), .mov (.s 0), none⟩,
     ⟨(some 8), .call 36 [(.s 7)], none⟩,
     ⟨(some 9), .un .not (.s 8), none⟩]) [0, 9] (
  .cond (.s 9) (
   .seq (
    .region false [⟨(some 2), .mov (.c (.bool false)), none⟩]) [2] (
   .ret)) (
   .skip))) [0] (
 .seq (
  .seq (
   .region false [⟨(some 10), .mov (.s 0), none⟩,
     ⟨(some 11), .call 32 [(.s 10), (.c (.int .u8 46))], none⟩,
     ⟨(some 12), .len (.s 11), none⟩,
     ⟨(some 13), .mov (.c (.int .i64 0)), none⟩]) [11, 12, 13] (
  .block 0 (
   .loop (
    .seq (
     .region false [⟨(some 14), .bin .lss false (.s 13) (.s 12), none⟩]) [11, 12, 13, 14] (
    .seq (
     .cond (.s 14) (
      .skip) (
      .exit 0)) [11, 12, 13] (
    .seq (
     .block 1 (
      .seq (
       .region false [⟨(some 15), .indexAddr 1 (.s 11) (.s 13), none⟩,
         ⟨(some 16), .load false 1 (.s 15), none⟩,
         ⟨(some 4), .mov (.s 16), none⟩]) [4, 11, 12, 13] (
      .seq (
       .region false [⟨(some 18), .mov (.s 4), none⟩,
         ⟨(some 19), .call 44 [(.s 18)], none⟩,
         ⟨(some 17), .mov (.s 19), none⟩,
         ⟨(some 20), .extract 0 (.s 17), none⟩,
         ⟨(some 21), .extract 1 (.s 17), none⟩,
         ⟨(some 5), .mov (.s 20), none⟩,
         ⟨(some 6), .mov (.s 21), none⟩]) [4, 6, 11, 12, 13] (
      .seq (
       .region false [⟨(some 22), .mov (.s 4), none⟩,
         ⟨(some 23), .call 43 [(.s 22)], none⟩,
         ⟨(some 24), .mov (.s 23), none⟩,
         ⟨(some 25), .mov (.s 6), (some (24, true))⟩,
         ⟨(some 26), .un .not (.s 25), (some (24, true))⟩,
         ⟨(some 27), .pick (.s 24) (.s 26) (.c (.bool false)), none⟩]) [11, 12, 13, 27] (
      .cond (.s 27) (
       .seq (
        .region false [⟨(some 2), .mov (.c (.bool false)), none⟩]) [2] (
       .ret)) (
       .skip)))))) [11, 12, 13] (
    .region false [⟨(some 28), .bin .add false (.s 13) (.c (.int .i64 1)), none⟩,
      ⟨(some 13), .mov (.s 28), none⟩]))))))) [] (
 .seq (
  .region false [⟨(some 2), .mov (.c (.bool true)), none⟩]) [2] (
 .ret))))⟩

def tf36 : TFn := ⟨52, [.tmp 2],
 .seq (
  .region false [⟨(some 2), .mov (.c (.bool false)), none⟩]) [0] (
 .scope (
  .seq (
   .region false [⟨(some 9), .mov (.s 0), none⟩,
     ⟨(some 10), .call 32 [(.s 9), (.c (.int .u8 46))], none⟩,
     ⟨(some 3), .mov (.s 10), none⟩]) [3] (
  .seq (
   .region false [⟨(some 11), .mov (.s 3), none⟩,
     ⟨(some 12), .len (.s 11), none⟩,
     ⟨(some 13), .bin .leq false (.s 12) (.c (.int .i64 4)), none⟩,
     ⟨(some 4), .mov (.s 13), none⟩]) [3, 4] (
  .seq (
   .skip) [3, 4] (
  .seq (
   .seq (
    .region false [⟨(some 14), .mov (.s 3), none⟩,
      ⟨(some 15), .len (.s 14), none⟩,
      ⟨(some 16), .mov (.c (.int .i64 0)), none⟩]) [4, 14, 15, 16] (
   .block 0 (
    .loop (
     .seq (
      .region false [⟨(some 17), .bin .lss false (.s 16) (.s 15), none⟩]) [4, 14, 15, 16, 17] (
     .seq (
      .cond (.s 17) (
       .skip) (
       .exit 0)) [4, 14, 15, 16] (
     .seq (
      .block 1 (
       .seq (
        .region false [⟨(some 18), .indexAddr 1 (.s 14) (.s 16), none⟩,
          ⟨(some 19), .load false 1 (.s 18), none⟩,
          ⟨(some 6), .mov (.s 19), none⟩]) [4, 6, 14, 15, 16] (
       .seq (
        .seq (
         .region false [⟨(some 20), .mov (.s 6), none⟩,
           ⟨(some 21), .bin .eql false (.s 20) (.c (.str [])), none⟩,
           ⟨(some 22), .mov (.s 21), none⟩,
           ⟨(some 23), .mov (.s 6), (some (22, false))⟩,
           ⟨(some 24), .lenStr (.s 23), (some (22, false))⟩,
           ⟨(some 25), .bin .gtr false (.s 24) (.c (.int .i64 8)), (some (22, false))⟩,
           ⟨(some 26), .pick (.s 22) (.c (.bool true)) (.s 25), none⟩]) [4, 6, 14, 15, 16, 26] (
        .cond (.s 26) (
         .seq (
          .region false [⟨(some 4), .mov (.c (.bool false)), none⟩]) [4] (
         .exit 0)) (
         .skip))) [4, 6, 14, 15, 16] (
       .seq (
        .region false [⟨(some 27), .mov (.s 6), none⟩,
          ⟨(some 28), .range (.s 27), none⟩]) [4, 14, 15, 16, 28] (
       .block 2 (
        .loop (
         .seq (
          .region false [⟨(some 29), .next (.s 28), none⟩,
            ⟨(some 30), .extract 0 (.s 29), none⟩]) [4, 14, 15, 16, 28, 29, 30] (
         .seq (
          .cond (.s 30) (
           .skip) (
           .exit 2)) [4, 14, 15, 16, 28, 29] (
         .block 3 (
          .seq (
           .region false [⟨(some 31), .extract 2 (.s 29), none⟩,
             ⟨(some 8), .mov (.s 31), none⟩]) [4, 8, 14, 15, 16, 28] (
          .seq (
           .region false [⟨(some 32), .mov (.s 8), none⟩,
             ⟨(some 33), .bin .lss false (.s 32) (.c (.int .i32 97)), none⟩,
             ⟨(some 34), .mov (.s 33), none⟩,
             ⟨(some 35), .mov (.s 8), (some (34, false))⟩,
             ⟨(some 36), .bin .gtr false (.s 35) (.c (.int .i32 122)), (some (34, false))⟩,
             ⟨(some 37), .pick (.s 34) (.c (.bool true)) (.s 36), none⟩,
             ⟨(some 38), .mov (.s 37), none⟩,
             ⟨(some 39), .mov (.s 8), (some (38, true))⟩,
             ⟨(some 40), .bin .lss false (.s 39) (.c (.int .i32 48)), (some (38, true))⟩,
             ⟨(some 41), .mov (.s 40), (some (38, true))⟩,
             ⟨(some 42), .mov (.s 8), (some (41, false))⟩,
             ⟨(some 43), .bin .gtr false (.s 42) (.c (.int .i32 57)), (some (41, false))⟩,
             ⟨(some 44), .pick (.s 41) (.c (.bool true)) (.s 43), (some (38, true))⟩,
             ⟨(some 45), .pick (.s 38) (.s 44) (.c (.bool false)), none⟩,
             ⟨(some 46), .mov (.s 45), none⟩,
             ⟨(some 47), .mov (.s 8), (some (46, true))⟩,
             ⟨(some 48), .bin .neq false (.s 47) (.c (.int .i32 45)), (some (46, true))⟩,
             ⟨(some 49), .pick (.s 46) (.s 48) (.c (.bool false)), none⟩]) [4, 14, 15, 16, 28, 49] (
          .cond (.s 49) (
           .seq (
            .region false [⟨(some 4), .mov (.c (.bool false)), none⟩]) [4] (
           .exit 0)) (
           .skip))))))))))))) [4, 14, 15, 16] (
     .region false [⟨(some 50), .bin .add false (.s 16) (.c (.int .i64 1)), none⟩,
       ⟨(some 16), .mov (.s 50), none⟩]))))))) [4] (
  .seq (
   .region false [⟨(some 51), .mov (.s 4), none⟩,
     ⟨(some 2), .mov (.s 51), none⟩]) [2] (
  .ret)))))))⟩

def tf37 : TFn := ⟨9, [.tmp 2],
 .seq (
  .region false [⟨(some 2), .mov (.c (.bool false)), none⟩]) [0] (
 .seq (
  .region false [⟨(some 3), .mov (.s 0), none⟩,
    ⟨(some 4), .bin .geq false (.s 3) (.c (.int .i64 0)), none⟩,
    ⟨(some 5), .mov (.s 4), none⟩,
    ⟨(some 6), .mov (.s 0), (some (5, true))⟩,
    ⟨(some 7), .bin .leq false (.s 6) (.c (.int .i64 9999)), (some (5, true))⟩,
    ⟨(some 8), .pick (.s 5) (.s 7) (.c (.bool false)), none⟩,
    ⟨(some 2), .mov (.s 8), none⟩]) [2] (
 .ret))⟩

def tf38 : TFn := ⟨48, [.tmp 4],
 .seq (
  .region false [⟨(some 4), .mov (.c (.bool false)), none⟩]) [0, 1] (
 .seq (
  .seq (
   .region false [⟨(some 9), .mov (.s 0), none⟩,
     ⟨(some 10), .bin .eql false (.s 9) (.c (.str [])), none⟩]) [0, 1, 10] (
  .cond (.s 10) (
   .seq (
    .region false [⟨(some 4), .mov (.c (.bool true)), none⟩]) [4] (
   .ret)) (
   .skip))) [0, 1] (
 .seq (
  .region false [⟨(some 11), .mov (.s 0), none⟩,
    ⟨(some 12), .call 46 [(.s 11), (.c (.int .u8 46))], none⟩,
    ⟨(some 5), .mov (.s 12), none⟩]) [1, 5] (
 .seq (
  .seq (
   .region false [⟨(some 13), .mov (.s 5), none⟩,
     ⟨(some 14), .len (.s 13), none⟩,
     ⟨(some 15), .bin .gtr false (.s 14) (.c (.int .i64 4)), none⟩]) [1, 5, 15] (
  .cond (.s 15) (
   .seq (
    .region false [⟨(some 4), .mov (.c (.bool false)), none⟩]) [4] (
   .ret)) (
   .skip))) [1, 5] (
 .seq (
  .seq (
   .region false [⟨(some 6), .mov (.c (.int .i64 0)), none⟩]) [1, 5, 6] (
  .block 0 (
   .loop (
    .seq (
     .seq (
      .region false [⟨(some 16), .mov (.s 6), none⟩,
        ⟨(some 17), .mov (.s 5), none⟩,
        ⟨(some 18), .len (.s 17), none⟩,
        ⟨(some 19), .bin .lss false (.s 16) (.s 18), none⟩]) [1, 5, 6, 19] (
     .cond (.s 19) (
      .skip) (
      .exit 0))) [1, 5, 6] (
    .seq (
     .block 1 (
      .seq (
       .seq (
        .region false [⟨(some 22), .mov (.s 5), none⟩,
          ⟨(some 23), .mov (.s 6), none⟩,
          ⟨(some 24), .indexAddr 1 (.s 22) (.s 23), none⟩,
          ⟨(some 25), .load false 1 (.s 24), none⟩,
          ⟨(some 26), .call 47 [(.s 25)], none⟩,
          ⟨(some 27), .un .not (.s 26), none⟩]) [1, 5, 6, 27] (
       .cond (.s 27) (
        .seq (
         .region false [⟨(some 4), .mov (.c (.bool false)), none⟩]) [4] (
        .ret)) (
        .skip))) [1, 5, 6] (
      .seq (
       .region false [⟨(some 29), .mov (.s 5), none⟩,
         ⟨(some 30), .mov (.s 6), none⟩,
         ⟨(some 31), .indexAddr 1 (.s 29) (.s 30), none⟩,
         ⟨(some 32), .load false 1 (.s 31), none⟩,
         ⟨(some 33), .call 48 [(.s 32)], none⟩,
         ⟨(some 28), .mov (.s 33), none⟩,
         ⟨(some 34), .extract 0 (.s 28), none⟩,
         ⟨(some 35), .extract 1 (.s 28), none⟩,
         ⟨(some 7), .mov (.s 34), none⟩,
         ⟨(some 8), .mov (.s 35), none⟩]) [1, 5, 6, 8] (
      .seq (
       .region false [⟨(some 36), .mov (.s 1), none⟩,
         ⟨(some 37), .mov (.s 36), none⟩,
         ⟨(some 38), .mov (.s 5), (some (37, true))⟩,
         ⟨(some 39), .mov (.s 6), (some (37, true))⟩,
         ⟨(some 40), .indexAddr 1 (.s 38) (.s 39), (some (37, true))⟩,
         ⟨(some 41), .load false 1 (.s 40), (some (37, true))⟩,
         ⟨(some 42), .call 49 [(.s 41)], (some (37, true))⟩,
         ⟨(some 43), .pick (.s 37) (.s 42) (.c (.bool false)), none⟩,
         ⟨(some 44), .mov (.s 43), none⟩,
         ⟨(some 45), .mov (.s 8), (some (44, true))⟩,
         ⟨(some 46), .un .not (.s 45), (some (44, true))⟩,
         ⟨(some 47), .pick (.s 44) (.s 46) (.c (.bool false)), none⟩]) [1, 5, 6, 47] (
      .cond (.s 47) (
       .seq (
        .region false [⟨(some 4), .mov (.c (.bool false)), none⟩]) [4] (
       .ret)) (
       .skip)))))) [1, 5, 6] (
    .region false [⟨(some 20), .mov (.s 6), none⟩,
      ⟨(some 21), .bin .add false (.s 20) (.c (.int .i64 1)), none⟩,
      ⟨(some 6), .mov (.s 21), none⟩])))))) [] (
 .seq (
  .region false [⟨(some 4), .mov (.c (.bool true)), none⟩]) [4] (
 .ret))))))⟩

def tf39 : TFn := ⟨6, [.tmp 2],
 .seq (
  .region false [⟨(some 2), .mov (.c (.bool false)), none⟩]) [0] (
 .seq (
  .region false [⟨(some 3), .mov (.s 0), none⟩,
    ⟨(some 4), .mov (.s 0), none⟩,
    ⟨(some 5), .bin .neq false (.s 3) (.s 4), none⟩,
    ⟨(some 2), .mov (.s 5), none⟩]) [2] (
 .ret))⟩

def tf40 : TFn := ⟨52, [.tmp 4],
 .seq (
  .region false [⟨(some 4), .mov (.c (.int .i64 0)), none⟩]) [0, 1] (
 .seq (
  .block 0 (
   .seq (
    .region false [⟨(some 10), .mov (.s 0), none⟩,
      ⟨(some 11), .mov (.s 1), none⟩,
      ⟨(some 12), .bin .eql false (.s 10) (.s 11), none⟩,
      ⟨(some 9), .mov (.s 12), none⟩]) [0, 1, 9] (
   .cond (.s 9) (
    .seq (
     .region false [⟨(some 4), .mov (.c (.int .i64 0)), none⟩]) [4] (
    .ret)) (
    .seq (
     .region false [⟨(some 14), .mov (.s 0), none⟩,
       ⟨(some 15), .bin .eql false (.s 14) (.c (.str [])), none⟩,
       ⟨(some 13), .mov (.s 15), none⟩]) [0, 1, 13] (
    .cond (.s 13) (
     .seq (
      .region false [⟨(some 4), .mov (.c (.int .i64 1)), none⟩]) [4] (
     .ret)) (
     .seq (
      .region false [⟨(some 17), .mov (.s 1), none⟩,
        ⟨(some 18), .bin .eql false (.s 17) (.c (.str [])), none⟩,
        ⟨(some 16), .mov (.s 18), none⟩]) [0, 1, 16] (
     .cond (.s 16) (
      .seq (
       .region false [⟨(some 4), .mov (.c (.int .i64 (-1))), none⟩]) [4] (
      .ret)) (
      .skip)))))))) [0, 1] (
 .seq (
  .region false [⟨(some 19), .mov (.s 0), none⟩,
    ⟨(some 20), .call 46 [(.s 19), (.c (.int .u8 46))], none⟩,
    ⟨(some 21), .mov (.s 1), none⟩,
    ⟨(some 22), .call 46 [(.s 21), (.c (.int .u8 46))], none⟩,
    ⟨(some 5), .mov (.s 20), none⟩,
    ⟨(some 6), .mov (.s 22), none⟩]) [5, 6] (
 .seq (
  .seq (
   .region false [⟨(some 7), .mov (.c (.int .i64 0)), none⟩]) [5, 6, 7] (
  .block 1 (
   .loop (
    .seq (
     .seq (
      .region false [⟨(some 23), .mov (.s 7), none⟩,
        ⟨(some 24), .mov (.s 5), none⟩,
        ⟨(some 25), .len (.s 24), none⟩,
        ⟨(some 26), .bin .lss false (.s 23) (.s 25), none⟩,
        ⟨(some 27), .mov (.s 26), none⟩,
        ⟨(some 28), .mov (.s 7), (some (27, true))⟩,
        ⟨(some 29), .mov (.s 6), (some (27, true))⟩,
        ⟨(some 30), .len (.s 29), (some (27, true))⟩,
        ⟨(some 31), .bin .lss false (.s 28) (.s 30), (some (27, true))⟩,
        ⟨(some 32), .pick (.s 27) (.s 31) (.c (.bool false)), none⟩]) [5, 6, 7, 32] (
     .cond (.s 32) (
      .skip) (
      .exit 1))) [5, 6, 7] (
    .seq (
     .block 2 (
      .seq (
       .region true [⟨(some 35), .mov (.s 5), none⟩,
         ⟨(some 36), .mov (.s 7), none⟩,
         ⟨(some 37), .indexAddr 1 (.s 35) (.s 36), none⟩,
         ⟨(some 38), .load false 1 (.s 37), none⟩,
         ⟨(some 39), .mov (.s 6), none⟩,
         ⟨(some 40), .mov (.s 7), none⟩,
         ⟨(some 41), .indexAddr 1 (.s 39) (.s 40), none⟩,
         ⟨(some 42), .load false 1 (.s 41), none⟩,
         ⟨(some 43), .call 50 [(.s 38), (.s 42)], none⟩,
         ⟨(some 8), .mov (.s 43), none⟩]) [5, 6, 7, 8] (
      .seq (
       .region false [⟨(some 44), .mov (.s 8), none⟩,
         ⟨(some 45), .bin .neq false (.s 44) (.c (.int .i64 0)), none⟩]) [5, 6, 7, 8, 45] (
      .cond (.s 45) (
       .seq (
        .region false [⟨(some 46), .mov (.s 8), none⟩,
          ⟨(some 4), .mov (.s 46), none⟩]) [4] (
       .ret)) (
       .skip))))) [5, 6, 7] (
    .region false [⟨(some 33), .mov (.s 7), none⟩,
      ⟨(some 34), .bin .add false (.s 33) (.c (.int .i64 1)), none⟩,
      ⟨(some 7), .mov (.s 34), none⟩])))))) [5, 6] (
 .seq (
  .region false [⟨(some 47), .mov (.s 5), none⟩,
    ⟨(some 48), .len (.s 47), none⟩,
    ⟨(some 49), .mov (.s 6), none⟩,
    ⟨(some 50), .len (.s 49), none⟩,
    ⟨(some 51), .call 28 [(.s 48), (.s 50)], none⟩,
    ⟨(some 4), .mov (.s 51), none⟩]) [4] (
 .ret)))))⟩

def tf41 : TFn := ⟨15, [.tmp 4],
 .seq (
  .region false [⟨(some 4), .mov (.c (.int .i64 0)), none⟩]) [0, 1] (
 .seq (
  .region false [⟨(some 6), .mov (.s 0), none⟩,
    ⟨(some 7), .mov (.s 1), none⟩,
    ⟨(some 8), .bin .rem false (.s 6) (.s 7), none⟩,
    ⟨(some 5), .mov (.s 8), none⟩]) [1, 5] (
 .seq (
  .seq (
   .region false [⟨(some 9), .mov (.s 5), none⟩,
     ⟨(some 10), .bin .lss false (.s 9) (.c (.int .i64 0)), none⟩]) [1, 5, 10] (
  .cond (.s 10) (
   .region false [⟨(some 11), .mov (.s 5), none⟩,
     ⟨(some 12), .mov (.s 1), none⟩,
     ⟨(some 13), .bin .add false (.s 11) (.s 12), none⟩,
     ⟨(some 5), .mov (.s 13), none⟩]) (
   .skip))) [5] (
 .seq (
  .region false [⟨(some 14), .mov (.s 5), none⟩,
    ⟨(some 4), .mov (.s 14), none⟩]) [4] (
 .ret))))⟩

def tf42 : TFn := ⟨17, [.tmp 4],
 .seq (
  .region false [⟨(some 4), .mov (.c (.int .i64 0)), none⟩]) [0, 1] (
 .seq (
  .seq (
   .region false [⟨(some 5), .mov (.s 1), none⟩,
     ⟨(some 6), .bin .lss false (.s 5) (.c (.int .i64 0)), none⟩,
     ⟨(some 7), .mov (.s 6), none⟩,
     ⟨(some 8), .mov (.s 1), (some (7, false))⟩,
     ⟨(some 9), .mov (.s 0), (some (7, false))⟩,
     ⟨(some 10), .len (.s 9), (some (7, false))⟩,
     ⟨(some 11), .bin .geq false (.s 8) (.s 10), (some (7, false))⟩,
     ⟨(some 12), .pick (.s 7) (.c (.bool true)) (.s 11), none⟩]) [0, 1, 12] (
  .cond (.s 12) (
   .seq (
    .region false [⟨(some 4), .mov (.c (.int .i64 0)), none⟩]) [4] (
   .ret)) (
   .skip))) [0, 1] (
 .seq (
  .region false [⟨(some 13), .mov (.s 0), none⟩,
    ⟨(some 14), .mov (.s 1), none⟩,
    ⟨(some 15), .indexAddr 1 (.s 13) (.s 14), none⟩,
    ⟨(some 16), .load false 1 (.s 15), none⟩,
    ⟨(some 4), .mov (.s 16), none⟩]) [4] (
 .ret)))⟩

def tf43 : TFn := ⟨22, [.tmp 2],
 .seq (
  .region false [⟨(some 2), .mov (.c (.bool false)), none⟩]) [0] (
 .seq (
  .seq (
   .region false [⟨(some 4), .mov (.s 0), none⟩,
     ⟨(some 5), .lenStr (.s 4), none⟩,
     ⟨(some 6), .mov (.c (.int .i64 0)), none⟩]) [0, 5, 6] (
  .block 0 (
   .loop (
    .seq (
     .region false [⟨(some 7), .bin .lss false (.s 6) (.s 5), none⟩]) [0, 5, 6, 7] (
    .seq (
     .cond (.s 7) (
      .skip) (
      .exit 0)) [0, 5, 6] (
    .seq (
     .block 1 (
      .seq (
       .region false [⟨(some 8), .mov (.s 6), none⟩,
         ⟨(some 3), .mov (.s 8), none⟩]) [0, 3, 5, 6] (
      .seq (
       .region false [⟨(some 9), .mov (.s 0), none⟩,
         ⟨(some 10), .mov (.s 3), none⟩,
         ⟨(some 11), .indexStr (.s 9) (.s 10), none⟩,
         ⟨(some 12), .bin .lss false (.s 11) (.c (.int .u8 48)), none⟩,
         ⟨(some 13), .mov (.s 12), none⟩,
         ⟨(some 14), .mov (.s 0), (some (13, false))⟩,
         ⟨(some 15), .mov (.s 3), (some (13, false))⟩,
         ⟨(some 16), .indexStr (.s 14) (.s 15), (some (13, false))⟩,
         ⟨(some 17), .bin .gtr false (.s 16) (.c (.int .u8 57)), (some (13, false))⟩,
         ⟨(some 18), .pick (.s 13) (.c (.bool true)) (.s 17), none⟩]) [0, 5, 6, 18] (
      .cond (.s 18) (
       .seq (
        .region false [⟨(some 2), .mov (.c (.bool false)), none⟩]) [2] (
       .ret)) (
       .skip))))) [0, 5, 6] (
    .region false [⟨(some 19), .bin .add false (.s 6) (.c (.int .i64 1)), none⟩,
      ⟨(some 6), .mov (.s 19), none⟩]))))))) [0] (
 .seq (
  .region false [⟨(some 20), .mov (.s 0), none⟩,
    ⟨(some 21), .bin .neq false (.s 20) (.c (.str [])), none⟩,
    ⟨(some 2), .mov (.s 21), none⟩]) [2] (
 .ret)))⟩

def tf44 : TFn := ⟨45, [.tmp 2, .tmp 3],
 .seq (
  .region false [⟨(some 2), .mov (.c (.int .i64 0)), none⟩,
    ⟨(some 3), .mov (.c (.bool false)), none⟩]) [0] (
 .seq (
  .seq (
   .region false [⟨(some 7), .mov (.s 0), none⟩,
     ⟨(some 8), .bin .eql false (.s 7) (.c (.str [])), none⟩,
     ⟨(some 9), .mov (.s 8), none⟩,
     ⟨(some 10), .mov (.s 0), (some (9, false))⟩,
     ⟨(some 11), .lenStr (.s 10), (some (9, false))⟩,
     ⟨(some 12), .bin .gtr false (.s 11) (.c (.int .i64 4)), (some (9, false))⟩,
     ⟨(some 13), .pick (.s 9) (.c (.bool true)) (.s 12), none⟩,
     ⟨(some 14), .mov (.s 13), none⟩,
     ⟨(some 15), .mov (.s 0), (some (14, false))⟩,
     ⟨(some 16), .indexStr (.s 15) (.c (.int .i64 0)), (some (14, false))⟩,
     ⟨(some 17), .bin .eql false (.s 16) (.c (.int .u8 48)), (some (14, false))⟩,
     ⟨(some 18), .mov (.s 17), (some (14, false))⟩,
     ⟨(some 19), .mov (.s 0), (some (18, true))⟩,
     ⟨(some 20), .lenStr (.s 19), (some (18, true))⟩,
     ⟨(some 21), .bin .gtr false (.s 20) (.c (.int .i64 1)), (some (18, true))⟩,
     ⟨(some 22), .pick (.s 18) (.s 21) (.c (.bool false)), (some (14, false))⟩,
     ⟨(some 23), .pick (.s 14) (.c (.bool true)) (.s 22), none⟩]) [0, 23] (
  .cond (.s 23) (
   .seq (
    .region false [⟨(some 2), .mov (.c (.int .i64 0)), none⟩,
      ⟨(some 3), .mov (.c (.bool false)), none⟩]) [2, 3] (
   .ret)) (
   .skip))) [0] (
 .seq (
  .region false [⟨(some 4), .mov (.c (.int .i64 0)), none⟩]) [0, 4] (
 .seq (
  .seq (
   .region false [⟨(some 24), .mov (.s 0), none⟩,
     ⟨(some 25), .range (.s 24), none⟩]) [4, 25] (
  .block 0 (
   .loop (
    .seq (
     .region false [⟨(some 26), .next (.s 25), none⟩,
       ⟨(some 27), .extract 0 (.s 26), none⟩]) [4, 25, 26, 27] (
    .seq (
     .cond (.s 27) (
      .skip) (
      .exit 0)) [4, 25, 26] (
    .block 1 (
     .seq (
      .region false [⟨(some 28), .extract 2 (.s 26), none⟩,
        ⟨(some 6), .mov (.s 28), none⟩]) [4, 6, 25] (
     .block 2 (
      .seq (
       .region false [⟨(some 30), .mov (.s 6), none⟩,
         ⟨(some 31), .bin .geq false (.s 30) (.c (.int .i32 48)), none⟩,
         ⟨(some 32), .mov (.s 31), none⟩,
         ⟨(some 33), .mov (.s 6), (some (32, true))⟩,
         ⟨(some 34), .bin .leq false (.s 33) (.c (.int .i32 57)), (some (32, true))⟩,
         ⟨(some 35), .pick (.s 32) (.s 34) (.c (.bool false)), none⟩,
         ⟨(some 29), .mov (.s 35), none⟩]) [4, 6, 25, 29] (
      .cond (.s 29) (
       .region false [⟨(some 36), .mov (.s 4), none⟩,
         ⟨(some 37), .bin .mul false (.c (.int .i64 10)) (.s 36), none⟩,
         ⟨(some 38), .mov (.s 6), none⟩,
         ⟨(some 39), .bin .sub false (.s 38) (.c (.int .i32 48)), none⟩,
         ⟨(some 40), .conv .i64 (.s 39), none⟩,
         ⟨(some 41), .bin .add false (.s 37) (.s 40), none⟩,
         ⟨(some 4), .mov (.s 41), none⟩]) (
       .seq (
        .region false [⟨(some 2), .mov (.c (.int .i64 0)), none⟩,
          ⟨(some 3), .mov (.c (.bool false)), none⟩]) [2, 3] (
       .ret)))))))))))) [4] (
 .seq (
  .region false [⟨(some 42), .mov (.s 4), none⟩,
    ⟨(some 43), .mov (.s 4), none⟩,
    ⟨(some 44), .bin .leq false (.s 43) (.c (.int .i64 9999)), none⟩,
    ⟨(some 2), .mov (.s 42), none⟩,
    ⟨(some 3), .mov (.s 44), none⟩]) [2, 3] (
 .ret)))))⟩

def tf45 : TFn := ⟨20, [.tmp 4],
 .seq (
  .region false [⟨(some 4), .mov (.c (.int .i64 0)), none⟩]) [0, 1] (
 .seq (
  .region false [⟨(some 7), .mov (.s 0), none⟩,
    ⟨(some 8), .call 51 [(.s 7)], none⟩,
    ⟨(some 5), .mov (.s 8), none⟩]) [0, 1, 5] (
 .seq (
  .region false [⟨(some 9), .mov (.s 1), none⟩,
    ⟨(some 10), .call 51 [(.s 9)], none⟩,
    ⟨(some 6), .mov (.s 10), none⟩]) [0, 1, 5, 6] (
 .seq (
  .seq (
   .region false [⟨(some 11), .mov (.s 5), none⟩]) [0, 1, 6, 11] (
  .cond (.s 11) (
   .seq (
    .seq (
     .region false [⟨(some 12), .mov (.s 6), none⟩]) [12] (
    .cond (.s 12) (
     .seq (
      .region false [⟨(some 4), .mov (.c (.int .i64 0)), none⟩]) [4] (
     .ret)) (
     .skip))) [] (
   .seq (
    .region false [⟨(some 4), .mov (.c (.int .i64 (-1))), none⟩]) [4] (
   .ret))) (
   .skip))) [0, 1, 6] (
 .seq (
  .seq (
   .region false [⟨(some 13), .mov (.s 6), none⟩]) [0, 1, 13] (
  .cond (.s 13) (
   .seq (
    .region false [⟨(some 4), .mov (.c (.int .i64 1)), none⟩]) [4] (
   .ret)) (
   .skip))) [0, 1] (
 .seq (
  .seq (
   .region false [⟨(some 14), .mov (.s 0), none⟩,
     ⟨(some 15), .mov (.s 1), none⟩,
     ⟨(some 16), .bin .lss false (.s 14) (.s 15), none⟩]) [0, 1, 16] (
  .cond (.s 16) (
   .seq (
    .region false [⟨(some 4), .mov (.c (.int .i64 (-1))), none⟩]) [4] (
   .ret)) (
   .skip))) [0, 1] (
 .seq (
  .seq (
   .region false [⟨(some 17), .mov (.s 0), none⟩,
     ⟨(some 18), .mov (.s 1), none⟩,
     ⟨(some 19), .bin .gtr false (.s 17) (.s 18), none⟩]) [19] (
  .cond (.s 19) (
   .seq (
    .region false [⟨(some 4), .mov (.c (.int .i64 1)), none⟩]) [4] (
   .ret)) (
   .skip))) [] (
 .seq (
  .region false [⟨(some 4), .mov (.c (.int .i64 0)), none⟩]) [4] (
 .ret))))))))⟩

def tf46 : TFn := ⟨34, [.tmp 4],
 .seq (
  .region false [⟨(some 4), .mov (.c (.fsl [])), none⟩]) [0, 1] (
 .seq (
  .region false [⟨(some 5), .mov (.c (.fsl [])), none⟩]) [0, 1, 5] (
 .seq (
  .region false [⟨(some 6), .mov (.c (.int .i64 0)), none⟩]) [0, 1, 5, 6] (
 .seq (
  .seq (
   .region false [⟨(some 7), .mov (.c (.int .i64 0)), none⟩]) [0, 1, 5, 6, 7] (
  .block 0 (
   .loop (
    .seq (
     .seq (
      .region false [⟨(some 8), .mov (.s 7), none⟩,
        ⟨(some 9), .mov (.s 0), none⟩,
        ⟨(some 10), .lenStr (.s 9), none⟩,
        ⟨(some 11), .bin .lss false (.s 8) (.s 10), none⟩]) [0, 1, 5, 6, 7, 11] (
     .cond (.s 11) (
      .skip) (
      .exit 0))) [0, 1, 5, 6, 7] (
    .seq (
     .block 1 (
      .seq (
       .region false [⟨(some 14), .mov (.s 0), none⟩,
         ⟨(some 15), .mov (.s 7), none⟩,
         ⟨(some 16), .indexStr (.s 14) (.s 15), none⟩,
         ⟨(some 17), .mov (.s 1), none⟩,
         ⟨(some 18), .bin .eql false (.s 16) (.s 17), none⟩]) [0, 1, 5, 6, 7, 18] (
      .cond (.s 18) (
       .seq (
        .region false [⟨(some 19), .mov (.s 5), none⟩,
          ⟨(some 20), .mov (.s 0), none⟩,
          ⟨(some 21), .mov (.s 6), none⟩,
          ⟨(some 22), .mov (.s 7), none⟩,
          ⟨(some 23), .sliceStr (.s 20) (some (.s 21)) (some (.s 22)), none⟩,
          ⟨(some 24), .buildSlice 1 9 [(.s 23)], none⟩,
          ⟨(some 25), .append 1 9 16 (.s 19) (.s 24), none⟩,
          ⟨(some 5), .mov (.s 25), none⟩]) [0, 1, 5, 7] (
       .region false [⟨(some 26), .mov (.s 7), none⟩,
         ⟨(some 27), .bin .add false (.s 26) (.c (.int .i64 1)), none⟩,
         ⟨(some 6), .mov (.s 27), none⟩])) (
       .skip)))) [0, 1, 5, 6, 7] (
    .region false [⟨(some 12), .mov (.s 7), none⟩,
      ⟨(some 13), .bin .add false (.s 12) (.c (.int .i64 1)), none⟩,
      ⟨(some 7), .mov (.s 13), none⟩])))))) [0, 5, 6] (
 .seq (
  .region false [⟨(some 28), .mov (.s 5), none⟩,
    ⟨(some 29), .mov (.s 0), none⟩,
    ⟨(some 30), .mov (.s 6), none⟩,
    ⟨(some 31), .sliceStr (.s 29) (some (.s 30)) none, none⟩,
    ⟨(some 32), .buildSlice 1 9 [(.s 31)], none⟩,
    ⟨(some 33), .append 1 9 16 (.s 28) (.s 32), none⟩,
    ⟨(some 4), .mov (.s 33), none⟩]) [4] (
 .ret)))))⟩

def tf47 : TFn := ⟨40, [.tmp 2],
 .seq (
  .region false [⟨(some 2), .mov (.c (.bool false)), none⟩]) [0] (
 .seq (
  .seq (
   .region false [⟨(some 5), .mov (.s 0), none⟩,
     ⟨(some 6), .lenStr (.s 5), none⟩,
     ⟨(some 7), .bin .lss false (.s 6) (.c (.int .i64 1)), none⟩,
     ⟨(some 8), .mov (.s 7), none⟩,
     ⟨(some 9), .mov (.s 0), (some (8, false))⟩,
     ⟨(some 10), .lenStr (.s 9), (some (8, false))⟩,
     ⟨(some 11), .bin .gtr false (.s 10) (.c (.int .i64 8)), (some (8, false))⟩,
     ⟨(some 12), .pick (.s 8) (.c (.bool true)) (.s 11), none⟩]) [0, 12] (
  .cond (.s 12) (
   .seq (
    .region false [⟨(some 2), .mov (.c (.bool false)), none⟩]) [2] (
   .ret)) (
   .skip))) [0] (
 .seq (
  .seq (
   .region false [⟨(some 3), .mov (.c (.int .i64 0)), none⟩]) [0, 3] (
  .block 0 (
   .loop (
    .seq (
     .seq (
      .region false [⟨(some 13), .mov (.s 3), none⟩,
        ⟨(some 14), .mov (.s 0), none⟩,
        ⟨(some 15), .lenStr (.s 14), none⟩,
        ⟨(some 16), .bin .lss false (.s 13) (.s 15), none⟩]) [0, 3, 16] (
     .cond (.s 16) (
      .skip) (
      .exit 0))) [0, 3] (
    .seq (
     .block 1 (
      .seq (
       .region false [⟨(some 19), .mov (.s 0), none⟩,
         ⟨(some 20), .mov (.s 3), none⟩,
         ⟨(some 21), .indexStr (.s 19) (.s 20), none⟩,
         ⟨(some 4), .mov (.s 21), none⟩]) [0, 3, 4] (
      .seq (
       .region false [⟨(some 22), .mov (.s 4), none⟩,
         ⟨(some 23), .bin .lss false (.s 22) (.c (.int .u8 97)), none⟩,
         ⟨(some 24), .mov (.s 23), none⟩,
         ⟨(some 25), .mov (.s 4), (some (24, false))⟩,
         ⟨(some 26), .bin .gtr false (.s 25) (.c (.int .u8 122)), (some (24, false))⟩,
         ⟨(some 27), .pick (.s 24) (.c (.bool true)) (.s 26), none⟩,
         ⟨(some 28), .mov (.s 27), none⟩,
         ⟨(some 29), .mov (.s 4), (some (28, true))⟩,
         ⟨(some 30), .bin .lss false (.s 29) (.c (.int .u8 48)), (some (28, true))⟩,
         ⟨(some 31), .mov (.s 30), (some (28, true))⟩,
         ⟨(some 32), .mov (.s 4), (some (31, false))⟩,
         ⟨(some 33), .bin .gtr false (.s 32) (.c (.int .u8 57)), (some (31, false))⟩,
         ⟨(some 34), .pick (.s 31) (.c (.bool true)) (.s 33), (some (28, true))⟩,
         ⟨(some 35), .pick (.s 28) (.s 34) (.c (.bool false)), none⟩,
         ⟨(some 36), .mov (.s 35), none⟩,
         ⟨(some 37), .mov (.s 4), (some (36, true))⟩,
         ⟨(some 38), .bin .neq false (.s 37) (.c (.int .u8 45)), (some (36, true))⟩,
         ⟨(some 39), .pick (.s 36) (.s 38) (.c (.bool false)), none⟩]) [0, 3, 39] (
      .cond (.s 39) (
       .seq (
        .region false [⟨(some 2), .mov (.c (.bool false)), none⟩]) [2] (
       .ret)) (
       .skip))))) [0, 3] (
    .region false [⟨(some 17), .mov (.s 3), none⟩,
      ⟨(some 18), .bin .add false (.s 17) (.c (.int .i64 1)), none⟩,
      ⟨(some 3), .mov (.s 18), none⟩])))))) [] (
 .seq (
  .region false [⟨(some 2), .mov (.c (.bool true)), none⟩]) [2] (
 .ret))))⟩

def tf48 : TFn := ⟨46, [.tmp 2, .tmp 3],
 .seq (
  .region false [⟨(some 2), .mov (.c (.int .i64 0)), none⟩,
    ⟨(some 3), .mov (.c (.bool false)), none⟩]) [0] (
 .seq (
  .seq (
   .region false [⟨(some 6), .mov (.s 0), none⟩,
     ⟨(some 7), .lenStr (.s 6), none⟩,
     ⟨(some 8), .bin .lss false (.s 7) (.c (.int .i64 1)), none⟩,
     ⟨(some 9), .mov (.s 8), none⟩,
     ⟨(some 10), .mov (.s 0), (some (9, false))⟩,
     ⟨(some 11), .lenStr (.s 10), (some (9, false))⟩,
     ⟨(some 12), .bin .gtr false (.s 11) (.c (.int .i64 9)), (some (9, false))⟩,
     ⟨(some 13), .pick (.s 9) (.c (.bool true)) (.s 12), none⟩,
     ⟨(some 14), .mov (.s 13), none⟩,
     ⟨(some 15), .mov (.s 0), (some (14, false))⟩,
     ⟨(some 16), .lenStr (.s 15), (some (14, false))⟩,
     ⟨(some 17), .bin .gtr false (.s 16) (.c (.int .i64 1)), (some (14, false))⟩,
     ⟨(some 18), .mov (.s 17), (some (14, false))⟩,
     ⟨(some 19), .mov (.s 0), (some (18, true))⟩,
     ⟨(some 20), .indexStr (.s 19) (.c (.int .i64 0)), (some (18, true))⟩,
     ⟨(some 21), .bin .eql false (.s 20) (.c (.int .u8 48)), (some (18, true))⟩,
     ⟨(some 22), .pick (.s 18) (.s 21) (.c (.bool false)), (some (14, false))⟩,
     ⟨(some 23), .pick (.s 14) (.c (.bool true)) (.s 22), none⟩]) [0, 23] (
  .cond (.s 23) (
   .seq (
    .region false [⟨(some 2), .mov (.c (.int .i64 0)), none⟩,
      ⟨(some 3), .mov (.c (.bool false)), none⟩]) [2, 3] (
   .ret)) (
   .skip))) [0] (
 .seq (
  .region false [⟨(some 4), .mov (.c (.int .i64 0)), none⟩]) [0, 4] (
 .seq (
  .seq (
   .region false [⟨(some 5), .mov (.c (.int .i64 0)), none⟩]) [0, 4, 5] (
  .block 0 (
   .loop (
    .seq (
     .seq (
      .region false [⟨(some 24), .mov (.s 5), none⟩,
        ⟨(some 25), .mov (.s 0), none⟩,
        ⟨(some 26), .lenStr (.s 25), none⟩,
        ⟨(some 27), .bin .lss false (.s 24) (.s 26), none⟩]) [0, 4, 5, 27] (
     .cond (.s 27) (
      .skip) (
      .exit 0))) [0, 4, 5] (
    .seq (
     .block 1 (
      .seq (
       .seq (
        .region false [⟨(some 30), .mov (.s 0), none⟩,
          ⟨(some 31), .mov (.s 5), none⟩,
          ⟨(some 32), .indexStr (.s 30) (.s 31), none⟩,
          ⟨(some 33), .call 52 [(.s 32)], none⟩,
          ⟨(some 34), .un .not (.s 33), none⟩]) [0, 4, 5, 34] (
       .cond (.s 34) (
        .seq (
         .region false [⟨(some 2), .mov (.c (.int .i64 0)), none⟩,
           ⟨(some 3), .mov (.c (.bool false)), none⟩]) [2, 3] (
        .ret)) (
        .skip))) [0, 4, 5] (
      .region false [⟨(some 35), .mov (.s 4), none⟩,
        ⟨(some 36), .bin .mul false (.s 35) (.c (.int .i64 10)), none⟩,
        ⟨(some 37), .mov (.s 0), none⟩,
        ⟨(some 38), .mov (.s 5), none⟩,
        ⟨(some 39), .indexStr (.s 37) (.s 38), none⟩,
        ⟨(some 40), .bin .sub false (.s 39) (.c (.int .u8 48)), none⟩,
        ⟨(some 41), .conv .i64 (.s 40), none⟩,
        ⟨(some 42), .bin .add false (.s 36) (.s 41), none⟩,
        ⟨(some 4), .mov (.s 42), none⟩]))) [0, 4, 5] (
    .region false [⟨(some 28), .mov (.s 5), none⟩,
      ⟨(some 29), .bin .add false (.s 28) (.c (.int .i64 1)), none⟩,
      ⟨(some 5), .mov (.s 29), none⟩])))))) [4] (
 .seq (
  .seq (
   .region false [⟨(some 43), .mov (.s 4), none⟩,
     ⟨(some 44), .bin .gtr false (.s 43) (.c (.int .i64 9999)), none⟩]) [4, 44] (
  .cond (.s 44) (
   .seq (
    .region false [⟨(some 2), .mov (.c (.int .i64 0)), none⟩,
      ⟨(some 3), .mov (.c (.bool false)), none⟩]) [2, 3] (
   .ret)) (
   .skip))) [4] (
 .seq (
  .region false [⟨(some 45), .mov (.s 4), none⟩,
    ⟨(some 2), .mov (.s 45), none⟩,
    ⟨(some 3), .mov (.c (.bool true)), none⟩]) [2, 3] (
 .ret))))))⟩

def tf49 : TFn := ⟨23, [.tmp 2],
 .seq (
  .region false [⟨(some 2), .mov (.c (.bool false)), none⟩]) [0] (
 .seq (
  .seq (
   .region false [⟨(some 3), .mov (.c (.int .i64 0)), none⟩]) [0, 3] (
  .block 0 (
   .loop (
    .seq (
     .seq (
      .region false [⟨(some 4), .mov (.s 3), none⟩,
        ⟨(some 5), .mov (.s 0), none⟩,
        ⟨(some 6), .lenStr (.s 5), none⟩,
        ⟨(some 7), .bin .lss false (.s 4) (.s 6), none⟩]) [0, 3, 7] (
     .cond (.s 7) (
      .skip) (
      .exit 0))) [0, 3] (
    .seq (
     .block 1 (
      .seq (
       .region false [⟨(some 10), .mov (.s 0), none⟩,
         ⟨(some 11), .mov (.s 3), none⟩,
         ⟨(some 12), .indexStr (.s 10) (.s 11), none⟩,
         ⟨(some 13), .bin .lss false (.s 12) (.c (.int .u8 48)), none⟩,
         ⟨(some 14), .mov (.s 13), none⟩,
         ⟨(some 15), .mov (.s 0), (some (14, false))⟩,
         ⟨(some 16), .mov (.s 3), (some (14, false))⟩,
         ⟨(some 17), .indexStr (.s 15) (.s 16), (some (14, false))⟩,
         ⟨(some 18), .bin .gtr false (.s 17) (.c (.int .u8 57)), (some (14, false))⟩,
         ⟨(some 19), .pick (.s 14) (.c (.bool true)) (.s 18), none⟩]) [0, 3, 19] (
      .cond (.s 19) (
       .seq (
        .region false [⟨(some 2), .mov (.c (.bool false)), none⟩]) [2] (
       .ret)) (
       .skip)))) [0, 3] (
    .region false [⟨(some 8), .mov (.s 3), none⟩,
      ⟨(some 9), .bin .add false (.s 8) (.c (.int .i64 1)), none⟩,
      ⟨(some 3), .mov (.s 9), none⟩])))))) [0] (
 .seq (
  .region false [⟨(some 20), .mov (.s 0), none⟩,
    ⟨(some 21), .lenStr (.s 20), none⟩,
    ⟨(some 22), .bin .gtr false (.s 21) (.c (.int .i64 0)), none⟩,
    ⟨(some 2), .mov (.s 22), none⟩]) [2] (
 .ret)))⟩

def tf50 : TFn := ⟨40, [.tmp 4],
 .seq (
  .region false [⟨(some 4), .mov (.c (.int .i64 0)), none⟩]) [0, 1] (
 .seq (
  .region false [⟨(some 11), .mov (.s 0), none⟩,
    ⟨(some 12), .call 49 [(.s 11)], none⟩,
    ⟨(some 13), .mov (.s 1), none⟩,
    ⟨(some 14), .call 49 [(.s 13)], none⟩,
    ⟨(some 5), .mov (.s 12), none⟩,
    ⟨(some 6), .mov (.s 14), none⟩]) [0, 1, 5, 6] (
 .seq (
  .block 0 (
   .seq (
    .region false [⟨(some 16), .mov (.s 5), none⟩,
      ⟨(some 17), .mov (.s 16), none⟩,
      ⟨(some 18), .mov (.s 6), (some (17, true))⟩,
      ⟨(some 19), .pick (.s 17) (.s 18) (.c (.bool false)), none⟩,
      ⟨(some 15), .mov (.s 19), none⟩]) [0, 1, 5, 6, 15] (
   .cond (.s 15) (
    .seq (
     .region false [⟨(some 21), .mov (.s 0), none⟩,
       ⟨(some 22), .call 48 [(.s 21)], none⟩,
       ⟨(some 20), .mov (.s 22), none⟩,
       ⟨(some 23), .extract 0 (.s 20), none⟩,
       ⟨(some 24), .extract 1 (.s 20), none⟩,
       ⟨(some 7), .mov (.s 23), none⟩,
       ⟨(some 8), .mov (.s 24), none⟩]) [1, 7] (
    .seq (
     .region false [⟨(some 26), .mov (.s 1), none⟩,
       ⟨(some 27), .call 48 [(.s 26)], none⟩,
       ⟨(some 25), .mov (.s 27), none⟩,
       ⟨(some 28), .extract 0 (.s 25), none⟩,
       ⟨(some 29), .extract 1 (.s 25), none⟩,
       ⟨(some 9), .mov (.s 28), none⟩,
       ⟨(some 10), .mov (.s 29), none⟩]) [7, 9] (
    .seq (
     .region false [⟨(some 30), .mov (.s 7), none⟩,
       ⟨(some 31), .mov (.s 9), none⟩,
       ⟨(some 32), .call 28 [(.s 30), (.s 31)], none⟩,
       ⟨(some 4), .mov (.s 32), none⟩]) [4] (
    .ret)))) (
    .seq (
     .region false [⟨(some 34), .mov (.s 5), none⟩,
       ⟨(some 33), .mov (.s 34), none⟩]) [0, 1, 6, 33] (
    .cond (.s 33) (
     .seq (
      .region false [⟨(some 4), .mov (.c (.int .i64 (-1))), none⟩]) [4] (
     .ret)) (
     .seq (
      .region false [⟨(some 36), .mov (.s 6), none⟩,
        ⟨(some 35), .mov (.s 36), none⟩]) [0, 1, 35] (
     .cond (.s 35) (
      .seq (
       .region false [⟨(some 4), .mov (.c (.int .i64 1)), none⟩]) [4] (
      .ret)) (
      .skip)))))))) [0, 1] (
 .seq (
  .region false [⟨(some 37), .mov (.s 0), none⟩,
    ⟨(some 38), .mov (.s 1), none⟩,
    ⟨(some 39), .call 53 [(.s 37), (.s 38)], none⟩,
    ⟨(some 4), .mov (.s 39), none⟩]) [4] (
 .ret))))⟩

def tf51 : TFn := ⟨6, [.tmp 2],
 .seq (
  .region false [⟨(some 2), .mov (.c (.bool false)), none⟩]) [0] (
 .seq (
  .region false [⟨(some 3), .mov (.s 0), none⟩,
    ⟨(some 4), .mov (.s 0), none⟩,
    ⟨(some 5), .bin .neq false (.s 3) (.s 4), none⟩,
    ⟨(some 2), .mov (.s 5), none⟩]) [2] (
 .ret))⟩

def tf52 : TFn := ⟨9, [.tmp 2],
 .seq (
  .region false [⟨(some 2), .mov (.c (.bool false)), none⟩]) [0] (
 .seq (
  .region false [⟨(some 3), .mov (.s 0), none⟩,
    ⟨(some 4), .bin .geq false (.s 3) (.c (.int .u8 48)), none⟩,
    ⟨(some 5), .mov (.s 4), none⟩,
    ⟨(some 6), .mov (.s 0), (some (5, true))⟩,
    ⟨(some 7), .bin .leq false (.s 6) (.c (.int .u8 57)), (some (5, true))⟩,
    ⟨(some 8), .pick (.s 5) (.s 7) (.c (.bool false)), none⟩,
    ⟨(some 2), .mov (.s 8), none⟩]) [2] (
 .ret))⟩

def tf53 : TFn := ⟨13, [.tmp 4],
 .seq (
  .region false [⟨(some 4), .mov (.c (.int .i64 0)), none⟩]) [0, 1] (
 .seq (
  .block 0 (
   .seq (
    .region false [⟨(some 6), .mov (.s 0), none⟩,
      ⟨(some 7), .mov (.s 1), none⟩,
      ⟨(some 8), .bin .lss false (.s 6) (.s 7), none⟩,
      ⟨(some 5), .mov (.s 8), none⟩]) [0, 1, 5] (
   .cond (.s 5) (
    .seq (
     .region false [⟨(some 4), .mov (.c (.int .i64 (-1))), none⟩]) [4] (
    .ret)) (
    .seq (
     .region false [⟨(some 10), .mov (.s 0), none⟩,
       ⟨(some 11), .mov (.s 1), none⟩,
       ⟨(some 12), .bin .gtr false (.s 10) (.s 11), none⟩,
       ⟨(some 9), .mov (.s 12), none⟩]) [9] (
    .cond (.s 9) (
     .seq (
      .region false [⟨(some 4), .mov (.c (.int .i64 1)), none⟩]) [4] (
     .ret)) (
     .skip)))))) [] (
 .seq (
  .region false [⟨(some 4), .mov (.c (.int .i64 0)), none⟩]) [4] (
 .ret)))⟩


theorem tp2 : prepFn Try.prog Try.f2 = some tf2.erase := by kernel_rfl
theorem tp3 : prepFn Try.prog Try.f3 = some tf3.erase := by kernel_rfl
theorem tp4 : prepFn Try.prog Try.f4 = some tf4.erase := by kernel_rfl
theorem tp5 : prepFn Try.prog Try.f5 = some tf5.erase := by kernel_rfl
theorem tp6 : prepFn Try.prog Try.f6 = some tf6.erase := by kernel_rfl
theorem tp7 : prepFn Try.prog Try.f7 = some tf7.erase := by kernel_rfl
theorem tp8 : prepFn Try.prog Try.f8 = some tf8.erase := by kernel_rfl
theorem tp9 : prepFn Try.prog Try.f9 = some tf9.erase := by kernel_rfl
theorem tp10 : prepFn Try.prog Try.f10 = some tf10.erase := by kernel_rfl
theorem tp11 : prepFn Try.prog Try.f11 = some tf11.erase := by kernel_rfl
theorem tp12 : prepFn Try.prog Try.f12 = some tf12.erase := by kernel_rfl
theorem tp13 : prepFn Try.prog Try.f13 = some tf13.erase := by kernel_rfl
theorem tp14 : prepFn Try.prog Try.f14 = some tf14.erase := by kernel_rfl
theorem tp15 : prepFn Try.prog Try.f15 = some tf15.erase := by kernel_rfl
theorem tp16 : prepFn Try.prog Try.f16 = some tf16.erase := by kernel_rfl
theorem tp17 : prepFn Try.prog Try.f17 = some tf17.erase := by kernel_rfl
theorem tp18 : prepFn Try.prog Try.f18 = some tf18.erase := by kernel_rfl
theorem tp19 : prepFn Try.prog Try.f19 = some tf19.erase := by kernel_rfl
theorem tp20 : prepFn Try.prog Try.f20 = some tf20.erase := by kernel_rfl
theorem tp21 : prepFn Try.prog Try.f21 = some tf21.erase := by kernel_rfl
theorem tp22 : prepFn Try.prog Try.f22 = some tf22.erase := by kernel_rfl
theorem tp23 : prepFn Try.prog Try.f23 = some tf23.erase := by kernel_rfl
theorem tp24 : prepFn Try.prog Try.f24 = some tf24.erase := by kernel_rfl
theorem tp25 : prepFn Try.prog Try.f25 = some tf25.erase := by kernel_rfl
theorem tp26 : prepFn Try.prog Try.f26 = some tf26.erase := by kernel_rfl
theorem tp27 : prepFn Try.prog Try.f27 = some tf27.erase := by kernel_rfl
theorem tp28 : prepFn Try.prog Try.f28 = some tf28.erase := by kernel_rfl
theorem tp29 : prepFn Try.prog Try.f29 = some tf29.erase := by kernel_rfl
theorem tp30 : prepFn Try.prog Try.f30 = some tf30.erase := by kernel_rfl
theorem tp31 : prepFn Try.prog Try.f31 = some tf31.erase := by kernel_rfl
theorem tp32 : prepFn Try.prog Try.f32 = some tf32.erase := by kernel_rfl
theorem tp33 : prepFn Try.prog Try.f33 = some tf33.erase := by kernel_rfl
theorem tp34 : prepFn Try.prog Try.f34 = some tf34.erase := by kernel_rfl
theorem tp35 : prepFn Try.prog Try.f35 = some tf35.erase := by kernel_rfl
theorem tp36 : prepFn Try.prog Try.f36 = some tf36.erase := by kernel_rfl
theorem tp37 : prepFn Try.prog Try.f37 = some tf37.erase := by kernel_rfl
theorem tp38 : prepFn Try.prog Try.f38 = some tf38.erase := by kernel_rfl
theorem tp39 : prepFn Try.prog Try.f39 = some tf39.erase := by kernel_rfl
theorem tp40 : prepFn Try.prog Try.f40 = some tf40.erase := by kernel_rfl
theorem tp41 : prepFn Try.prog Try.f41 = some tf41.erase := by kernel_rfl
theorem tp42 : prepFn Try.prog Try.f42 = some tf42.erase := by kernel_rfl
theorem tp43 : prepFn Try.prog Try.f43 = some tf43.erase := by kernel_rfl
theorem tp44 : prepFn Try.prog Try.f44 = some tf44.erase := by kernel_rfl
theorem tp45 : prepFn Try.prog Try.f45 = some tf45.erase := by kernel_rfl
theorem tp46 : prepFn Try.prog Try.f46 = some tf46.erase := by kernel_rfl
theorem tp47 : prepFn Try.prog Try.f47 = some tf47.erase := by kernel_rfl
theorem tp48 : prepFn Try.prog Try.f48 = some tf48.erase := by kernel_rfl
theorem tp49 : prepFn Try.prog Try.f49 = some tf49.erase := by kernel_rfl
theorem tp50 : prepFn Try.prog Try.f50 = some tf50.erase := by kernel_rfl
theorem tp51 : prepFn Try.prog Try.f51 = some tf51.erase := by kernel_rfl
theorem tp52 : prepFn Try.prog Try.f52 = some tf52.erase := by kernel_rfl
theorem tp53 : prepFn Try.prog Try.f53 = some tf53.erase := by kernel_rfl
theorem tfol : Try.prog.follows .mixedOrders = true := by kernel_rfl
end Go.Proofs
namespace M3
open Go Go.Abs
def mFits (n : Int) : Bool := decide (0 ≤ n) && decide (n ≤ 9999)
def mInts (m n : Int) : Int := if m < n then -1 else if n < m then 1 else 0
def isDig (c : UInt8) : Bool := decide (48 ≤ c.toNat) && decide (c.toNat ≤ 57)
def mNumeric (s : List UInt8) : Bool := s.all isDig && !decide (s = [])
theorem numeric_no {s : List UInt8} {i : Nat} (h : i < s.length) (hd : isDig s[i] = false) : mNumeric s = false := by
  have : s.all isDig = false := by
    rw [Bool.eq_false_iff]
    intro ha
    rw [List.all_eq_true] at ha
    rw [ha _ (List.getElem_mem h)] at hd
    cases hd
  rw [mNumeric, this]; rfl
theorem numeric_yes {s : List UInt8} {i : Nat} (hi : s.length ≤ i) (h : (s.take i).all isDig = true) : mNumeric s = !decide (s = []) := by
  rw [List.take_of_length_le hi] at h
  rw [mNumeric, h]; rfl
def mPlace (v n : Int) : Int := if v.tmod n < 0 then v.tmod n + n else v.tmod n
def mAt (l : List Int) (i : Int) : Int := if i < 0 ∨ (l.length : Int) ≤ i then 0 else l.getD i.toNat 0
theorem mAt_in {l : List Int} {i : Int} (h0 : 0 ≤ i) (h : i < l.length) : mAt l i = l[i.toNat]'(by omega) := by
  rw [mAt, if_neg (by omega), List.getD_eq_getElem?_getD, List.getElem?_eq_getElem (by omega)]; rfl
def mFrom (l : List Int) (i n : Int) : Int := mPlace (mAt l i) n
def dInts (l : List Int) : D := .sl (l.map fun x => [.int .i64 x])
theorem place_lo {v n : Int} (h : 0 < n) : 0 ≤ mPlace v n := by
  unfold mPlace
  have h1 := Int.tmod_lt_of_pos v h
  have h2 := Int.lt_tmod_of_pos v h
  split <;> omega
theorem place_hi {v n : Int} (h : 0 < n) : mPlace v n < n := by
  unfold mPlace
  have h1 := Int.tmod_lt_of_pos v h
  split <;> omega
end M3
namespace M3
open Go Go.Abs
def splitGo (c : Int) : List UInt8 → List UInt8 → List (List UInt8)
  | [], cur => [cur]
  | x :: xs, cur => if (x.toNat : Int) = c then cur :: splitGo c xs [] else splitGo c xs (cur ++ [x])
def mSplit (s : List UInt8) (c : Int) : List (List UInt8) := splitGo c s []
def dStrs (l : List (List UInt8)) : List (List D) := l.map fun x => [.str x]
def SplitI (s : List UInt8) (c : Int) (i k : Nat) (acc : List (List UInt8)) : Prop :=
  i ≤ s.length ∧ k ≤ i ∧ acc.length ≤ i ∧ mSplit s c = acc ++ splitGo c (s.drop i) ((s.take i).drop k)
theorem SplitI.zero {s : List UInt8} {c : Int} : SplitI s c 0 0 [] := ⟨Nat.zero_le _, Nat.le_refl _, Nat.le_refl _, by simp [mSplit]⟩
theorem SplitI.hit {s : List UInt8} {c : Int} {i k : Nat} {acc : List (List UInt8)} (h : SplitI s c i k acc) (hi : i < s.length) (he : ((s[i]).toNat : Int) = c) : SplitI s c (i + 1) (i + 1) (acc ++ [(s.take i).drop k]) := by
  obtain ⟨h1, h2, h3, h4⟩ := h
  refine ⟨hi, Nat.le_refl _, by simp; omega, ?_⟩
  rw [List.drop_eq_getElem_cons hi] at h4
  simp only [splitGo, he, if_true] at h4
  rw [h4, List.append_assoc]
  simp
theorem SplitI.miss {s : List UInt8} {c : Int} {i k : Nat} {acc : List (List UInt8)} (h : SplitI s c i k acc) (hi : i < s.length) (he : ¬ ((s[i]).toNat : Int) = c) : SplitI s c (i + 1) k acc := by
  obtain ⟨h1, h2, h3, h4⟩ := h
  refine ⟨hi, by omega, by omega, ?_⟩
  rw [List.drop_eq_getElem_cons hi] at h4
  simp only [splitGo, he, if_false] at h4
  rw [h4, List.take_succ_eq_append_getElem hi, List.drop_append_of_le_length (by simp; omega)]
theorem SplitI.done {s : List UInt8} {c : Int} {i k : Nat} {acc : List (List UInt8)} (h : SplitI s c i k acc) (hi : s.length ≤ i) : mSplit s c = acc ++ [s.drop k] := by
  obtain ⟨h1, h2, h3, h4⟩ := h
  rw [h4, List.drop_eq_nil_of_le hi, List.take_of_length_le hi]
  rfl
end M3
namespace M3
open Go Go.Abs
def mTexts (a b : List UInt8) : Int := if Op.bytesLess a b = true then -1 else if a = b then 0 else 1
def mDigit (c : Int) : Bool := decide (48 ≤ c) && decide (c ≤ 57)
def isTag (c : UInt8) : Bool := (decide (97 ≤ c.toNat) && decide (c.toNat ≤ 122)) || (decide (48 ≤ c.toNat) && decide (c.toNat ≤ 57)) || decide (c.toNat = 45)
def mTag (s : List UInt8) : Bool := decide (1 ≤ s.length) && decide (s.length ≤ 8) && s.all isTag
def val (s : List UInt8) : Nat := s.foldl (fun n c => 10 * n + (c.toNat - 48)) 0
/-- The number that a text is, and whether it is one. -/
def mNumber (s : List UInt8) : Int × Bool :=
  if s.length < 1 ∨ 9 < s.length ∨ (1 < s.length ∧ s.head? = some 48) ∨ s.all isDig = false ∨ 9999 < val s then (0, false) else ((val s : Int), true)
def mOne (a b : List UInt8) : Int :=
  if mNumeric a = true ∧ mNumeric b = true then mInts (mNumber a).1 (mNumber b).1
  else if mNumeric a = true then -1 else if mNumeric b = true then 1 else mTexts a b
/-- Two rows of tags. -/
def mRow : List (List UInt8) → List (List UInt8) → Int
  | [], [] => 0
  | [], _ :: _ => -1
  | _ :: _, [] => 1
  | a :: l, b :: m => if mOne a b ≠ 0 then mOne a b else mRow l m
def mPres (a b : List UInt8) : Int := if a = b then 0 else if a = [] then 1 else if b = [] then -1 else mRow (mSplit a 46) (mSplit b 46)
def tagOk (pre : Bool) (t : List UInt8) : Bool := mTag t && !(pre && mNumeric t && !(mNumber t).2)
def mTags (s : List UInt8) (pre : Bool) : Bool := decide (s = []) || (decide ((mSplit s 46).length ≤ 4) && (mSplit s 46).all (tagOk pre))
def mMay (a b c : Int) (p q : List UInt8) : Bool := mFits a && mFits b && mFits c && mTags p true && mTags q false
def mOr3 (a b c : Int) : Int := if a ≠ 0 then a else if b ≠ 0 then b else c
def mCmp (a b c : Int) (p q : List UInt8) (a' b' c' : Int) (p' q' : List UInt8) : Int :=
  if mMay a b c p q = false ∨ mMay a' b' c' p' q' = false then 0
  else if mInts a a' ≠ 0 then mInts a a' else if mInts b b' ≠ 0 then mInts b b' else if mInts c c' ≠ 0 then mInts c c' else mPres p p'
theorem all_no {α : Type} {s : List α} {p : α → Bool} {i : Nat} (h : i < s.length) (hd : p s[i] = false) : s.all p = false := by
  rw [Bool.eq_false_iff]
  intro ha
  rw [List.all_eq_true] at ha
  rw [ha _ (List.getElem_mem h)] at hd
  cases hd
theorem all_yes {α : Type} {s : List α} {p : α → Bool} {i : Nat} (hi : s.length ≤ i) (h : (s.take i).all p = true) : s.all p = true := by rwa [List.take_of_length_le hi] at h
theorem val_take {s : List UInt8} {i : Nat} (h : i < s.length) : val (s.take (i + 1)) = 10 * val (s.take i) + (s[i].toNat - 48) := by
  rw [List.take_succ_eq_append_getElem h]; simp only [val, List.foldl_append, List.foldl_cons, List.foldl_nil]
theorem val_lt : ∀ {s : List UInt8}, s.all isDig = true → val s < 10 ^ s.length := by
  intro s
  rw [← List.reverse_reverse s]
  generalize s.reverse = r
  induction r with
  | nil => intro _; decide
  | cons c r ih =>
    intro h
    rw [List.reverse_cons, List.all_append, Bool.and_eq_true] at h
    have h1 := ih h.1
    have h2 : isDig c = true := by simpa using h.2
    simp only [isDig, Bool.and_eq_true, decide_eq_true_eq] at h2
    rw [List.reverse_cons]
    simp only [val, List.foldl_append, List.foldl_cons, List.foldl_nil, List.length_append, List.length_cons, List.length_nil] at h1 ⊢
    rw [Nat.pow_succ]
    omega
theorem mRow_drop {l m : List (List UInt8)} {i : Nat} (h1 : i < l.length) (h2 : i < m.length) (h : mOne l[i] m[i] = 0) : mRow (l.drop i) (m.drop i) = mRow (l.drop (i + 1)) (m.drop (i + 1)) := by
  rw [List.drop_eq_getElem_cons h1, List.drop_eq_getElem_cons h2]
  simp [mRow, h]
theorem mRow_hit {l m : List (List UInt8)} {i : Nat} (h1 : i < l.length) (h2 : i < m.length) (h : mOne l[i] m[i] ≠ 0) : mRow (l.drop i) (m.drop i) = mOne l[i] m[i] := by
  rw [List.drop_eq_getElem_cons h1, List.drop_eq_getElem_cons h2]
  simp [mRow, h]
theorem mRow_end {l m : List (List UInt8)} {i : Nat} (hl : i ≤ l.length) (hm : i ≤ m.length) (h : l.length ≤ i ∨ m.length ≤ i) : mRow (l.drop i) (m.drop i) = mInts l.length m.length := by
  rcases Nat.lt_or_ge i l.length with h1 | h1 <;> rcases Nat.lt_or_ge i m.length with h2 | h2
  · omega
  · rw [List.drop_eq_getElem_cons h1, List.drop_eq_nil_of_le h2]
    simp only [mRow, mInts]
    rw [if_neg (by omega), if_pos (by omega)]
  · rw [List.drop_eq_getElem_cons h2, List.drop_eq_nil_of_le h1]
    simp only [mRow, mInts]
    rw [if_pos (by omega)]
  · rw [List.drop_eq_nil_of_le h1, List.drop_eq_nil_of_le h2]
    simp only [mRow, mInts]
    rw [if_neg (by omega), if_neg (by omega)]
end M3
namespace M3
theorem mAt_range {l : List Int} {i : Int} (hv : ∀ x ∈ l, -9223372036854775808 ≤ x ∧ x ≤ 9223372036854775807) : -9223372036854775808 ≤ mAt l i ∧ mAt l i ≤ 9223372036854775807 := by
  by_cases h : i < 0 ∨ (l.length : Int) ≤ i
  · rw [mAt, if_pos h]; omega
  · rw [mAt_in (by omega) (by omega)]
    exact hv _ (List.getElem_mem _)
end M3
namespace M3
theorem head48 {s : List UInt8} (h : 0 < s.length) (e : ((s[0]).toNat : Int) = 48) : s.head? = some 48 := by
  cases s with
  | nil => simp at h
  | cons x r =>
    simp only [List.getElem_cons_zero] at e
    have : x = 48 := UInt8.toNat_inj.1 (by simpa using (by omega : x.toNat = 48))
    simp [this]
theorem head48' {s : List UInt8} (h : 0 < s.length) (e : ¬ ((s[0]).toNat : Int) = 48) : s.head? ≠ some 48 := by
  cases s with
  | nil => simp at h
  | cons x r =>
    simp only [List.getElem_cons_zero] at e
    intro hh
    simp at hh
    subst hh
    exact e rfl
theorem num_ok {s : List UInt8} {i : Nat} (h : ¬ (s.length < 1 ∨ 9 < s.length ∨ (1 < s.length ∧ s.head? = some 48))) (hi : s.length ≤ i) (ha : (s.take i).all isDig = true) (hv : val (s.take i) ≤ 9999) : mNumber s = ((val (s.take i) : Int), true) := by
  have h1 := all_yes hi ha
  rw [List.take_of_length_le hi] at hv ⊢
  rw [mNumber, if_neg]
  rintro (q | q | q | q | q)
  · exact h (.inl q)
  · exact h (.inr (.inl q))
  · exact h (.inr (.inr q))
  · rw [h1] at q; cases q
  · omega
theorem num_big {s : List UInt8} {i : Nat} (hi : s.length ≤ i) (hv : 9999 < val (s.take i)) : mNumber s = (0, false) := by
  rw [List.take_of_length_le hi] at hv
  rw [mNumber, if_pos (.inr (.inr (.inr (.inr hv))))]
theorem num_dig {s : List UInt8} {i : Nat} (h : i < s.length) (hd : isDig s[i] = false) : mNumber s = (0, false) := by
  rw [mNumber, if_pos (.inr (.inr (.inr (.inl (all_no h hd)))))]
theorem num_len {s : List UInt8} (h : s.length < 1 ∨ 9 < s.length) : mNumber s = (0, false) := by
  rw [mNumber, if_pos (by rcases h with h | h; exact .inl h; exact .inr (.inl h))]
theorem num_head {s : List UInt8} (h : 1 < s.length) (e : ((s[0]).toNat : Int) = 48) : mNumber s = (0, false) := by
  rw [mNumber, if_pos (.inr (.inr (.inl ⟨h, head48 (by omega) e⟩)))]
end M3
namespace M3
open Go Go.Abs
theorem dStrs_len (l : List (List UInt8)) : (dStrs l).length = l.length := by simp [dStrs]
theorem idx_strs {l : List (List UInt8)} {i : Nat} (h : i < l.length) : (dStrs l)[((i : Nat) : Int).toNat]? = some [.str l[i]] := by simp [dStrs, h]
theorem splitGo_len {c : Int} : ∀ (s cur : List UInt8), (splitGo c s cur).length ≤ s.length + 1 ∧ ∀ x ∈ splitGo c s cur, x.length ≤ s.length + cur.length
  | [], cur => by simp [splitGo]
  | x :: xs, cur => by
    simp only [splitGo]
    split
    · obtain ⟨h1, h2⟩ := splitGo_len (c := c) xs []
      refine ⟨by simp; omega, fun y hy => ?_⟩
      rcases List.mem_cons.1 hy with rfl | hy
      · simp <;> omega
      · have := h2 y hy; simp at this ⊢; omega
    · obtain ⟨h1, h2⟩ := splitGo_len (c := c) xs (cur ++ [x])
      refine ⟨by simp; omega, fun y hy => ?_⟩
      have := h2 y hy; simp at this ⊢; omega
theorem split_len {s : List UInt8} {c : Int} : (mSplit s c).length ≤ s.length + 1 := (splitGo_len s []).1
theorem split_at {s : List UInt8} {c : Int} {i : Nat} (h : i < (mSplit s c).length) (hl : s.length ≤ 1000000) : ((mSplit s c)[i]).length ≤ 1000000 := by
  have := (splitGo_len (c := c) s []).2 _ (List.getElem_mem h)
  simp only [List.length_nil, Nat.add_zero] at this
  exact Nat.le_trans this hl
end M3
namespace M3
open Go Go.Abs
theorem mTags_no {s : List UInt8} {pre : Bool} {i : Nat} (hs : s ≠ []) (h : i < (mSplit s 46).length) (hd : tagOk pre (mSplit s 46)[i] = false) : mTags s pre = false := by
  rw [mTags, all_no h hd]; simp [hs]
theorem mTags_yes {s : List UInt8} {pre : Bool} {i : Nat} (h4 : (mSplit s 46).length ≤ 4) (hi : (mSplit s 46).length ≤ i) (h : ((mSplit s 46).take i).all (tagOk pre) = true) : mTags s pre = true := by
  rw [mTags, all_yes hi h]; simp [h4]
def firstNZ : List Int → Int
  | [] => 0
  | x :: r => if x ≠ 0 then x else firstNZ r
theorem firstNZ_hit {l : List Int} {i : Nat} (h : i < l.length) (e : ¬ l[i] = 0) : firstNZ (l.drop i) = l[i] := by
  rw [List.drop_eq_getElem_cons h]; simp [firstNZ, e]
theorem firstNZ_skip {l : List Int} {i : Nat} (h : i < l.length) (e : l[i] = 0) : firstNZ (l.drop i) = firstNZ (l.drop (i + 1)) := by
  rw [List.drop_eq_getElem_cons h]; simp [firstNZ, e]
end M3
namespace M3
open Go Go.Abs
/-- A cut, and a version: their leaves. -/
structure Cu where
  e : Int
  a : Int
  b : Int
  c : Int
  p : List UInt8
  q : List UInt8
  f : Bool
def mCMay (e a b c : Int) (p q : List UInt8) (f : Bool) : Bool :=
  if e = 0 then mMay a b c p q && decide (q = [])
  else (decide (e = -1) || decide (e = 1)) && (decide (a = 0) && (decide (b = 0) && (decide (c = 0) && (decide (p = []) && (decide (q = []) && true))))) && !f
def mCCmp (e a b c : Int) (p q : List UInt8) (f : Bool) (e' a' b' c' : Int) (p' q' : List UInt8) (f' : Bool) : Int :=
  if mCMay e a b c p q f = false ∨ mCMay e' a' b' c' p' q' f' = false then 0
  else if e ≠ e' ∨ e ≠ 0 then mInts e e'
  else if mCmp a b c p q a' b' c' p' q' ≠ 0 then mCmp a b c p q a' b' c' p' q'
  else if f = f' then 0 else if f' = true then -1 else 1
def mAhead (e a b c : Int) (p q : List UInt8) (f : Bool) (a' b' c' : Int) (p' q' : List UInt8) : Bool :=
  if mCMay e a b c p q f = false ∨ mMay a' b' c' p' q' = false then false
  else if e ≠ 0 then decide (e < 0)
  else decide (mCmp a b c p q a' b' c' p' q' < 0) || (decide (mCmp a b c p q a' b' c' p' q' = 0) && !f)
end M3
namespace M3
def mSpan (e a b c : Int) (p q : List UInt8) (f : Bool) (e' a' b' c' : Int) (p' q' : List UInt8) (f' : Bool) : Bool :=
  mCMay e a b c p q f && mCMay e' a' b' c' p' q' f' && decide (mCCmp e a b c p q f e' a' b' c' p' q' f' < 0)
def mHolds (e a b c : Int) (p q : List UInt8) (f : Bool) (e' a' b' c' : Int) (p' q' : List UInt8) (f' : Bool) (x y z : Int) (r s : List UInt8) : Bool :=
  mSpan e a b c p q f e' a' b' c' p' q' f' && mMay x y z r s && mAhead e a b c p q f x y z r s && !mAhead e' a' b' c' p' q' f' x y z r s
end M3

namespace M3
open Go Go.Abs
theorem num4_len {s : List UInt8} (h : s = [] ∨ 4 < s.length) : mNumber s = (0, false) := by
  rcases h with rfl | h
  · rfl
  · unfold mNumber
    split
    · rfl
    · rename_i hn
      exfalso
      apply hn
      by_cases h1 : s.head? = some 48
      · exact .inr (.inr (.inl ⟨by omega, h1⟩))
      · cases hd : s.all isDig with
        | false => exact .inr (.inr (.inr (.inl rfl)))
        | true =>
          refine .inr (.inr (.inr (.inr ?_)))
          cases s with
          | nil => simp at h
          | cons x r =>
            simp only [List.all_cons, Bool.and_eq_true, isDig, decide_eq_true_eq] at hd
            simp only [List.head?_cons, Option.some.injEq] at h1
            have hx : 1 ≤ x.toNat - 48 := by
              have : x.toNat ≠ 48 := fun e => h1 (UInt8.toNat_inj.1 (by simpa using e))
              omega
            have key : ∀ (r : List UInt8) (n : Nat), n * 10 ^ r.length ≤ r.foldl (fun n c => 10 * n + (c.toNat - 48)) n := by
              intro r
              induction r with
              | nil => intro n; simp
              | cons c r ih =>
                intro n
                simp only [List.foldl_cons, List.length_cons]
                refine Nat.le_trans ?_ (ih _)
                rw [Nat.pow_succ, ← Nat.mul_assoc, Nat.mul_right_comm]
                exact Nat.mul_le_mul_right _ (by omega)
            have h2 := key r (10 * 0 + (x.toNat - 48))
            have h3 : 10 ^ 4 ≤ 10 ^ r.length := Nat.pow_le_pow_right (by omega) (by simp at h; omega)
            have h4 : 10 ^ r.length ≤ (10 * 0 + (x.toNat - 48)) * 10 ^ r.length := Nat.le_mul_of_pos_left _ (by omega)
            show 9999 < (x :: r).foldl (fun n c => 10 * n + (c.toNat - 48)) 0
            simp only [List.foldl_cons]
            omega
theorem num4_ok {s : List UInt8} {i : Nat} (h : ¬ (s = [] ∨ 4 < s.length ∨ (1 < s.length ∧ s.head? = some 48))) (hi : s.length ≤ i) (ha : (s.take i).all isDig = true) : mNumber s = ((val (s.take i) : Int), true) := by
  have h1 := all_yes hi ha
  have hv := val_lt h1
  have h4 : s.length ≤ 4 := Nat.le_of_not_lt fun q => h (.inr (.inl q))
  have hp : 10 ^ s.length ≤ 10 ^ 4 := Nat.pow_le_pow_right (by omega) h4
  refine num_ok ?_ hi ha ?_
  · rintro (q | q | q)
    · exact h (.inl (List.eq_nil_of_length_eq_zero (by omega)))
    · omega
    · exact h (.inr (.inr q))
  · rw [List.take_of_length_le hi]; omega
end M3

namespace M3
open Go Go.Abs
def mTags1 (s : List UInt8) : Bool := decide ((mSplit s 46).length ≤ 4) && (mSplit s 46).all mTag
theorem mTag_of {t : List UInt8} (h0 : ¬ t = []) (h8 : t.length ≤ 8) (h : t.all isTag = true) : mTag t = true := by
  have : 1 ≤ t.length := List.length_pos_iff.2 h0
  simp [mTag, h, h8, this]
theorem mTag_len {t : List UInt8} (h : t = [] ∨ 8 < t.length) : mTag t = false := by
  rcases h with rfl | h
  · rfl
  · simp [mTag]; omega
theorem mTag_all {t : List UInt8} (h : t.all isTag = false) : mTag t = false := by simp [mTag, h]
theorem tags1_no {s : List UInt8} {i : Nat} (h : i < (mSplit s 46).length) (hd : mTag (mSplit s 46)[i] = false) : mTags1 s = false := by
  rw [mTags1, all_no h hd, Bool.and_false]
theorem tags1_yes {s : List UInt8} {i : Nat} (hi : (mSplit s 46).length ≤ i) (h : ((mSplit s 46).take i).all mTag = true) : mTags1 s = decide ((mSplit s 46).length ≤ 4) := by
  rw [mTags1, all_yes hi h, Bool.and_true]
theorem mTags_false (s : List UInt8) : mTags s false = (decide (s = []) || mTags1 s) := by
  have : tagOk false = mTag := by funext t; simp [tagOk]
  rw [mTags, mTags1, this]
end M3

namespace M3
open Go Go.Abs
def preOk (t : List UInt8) : Bool := !(mNumeric t && !(mNumber t).2)
def mPre1 (s : List UInt8) : Bool := mTags1 s && (mSplit s 46).all preOk
theorem pre1_no {s : List UInt8} {i : Nat} (h : i < (mSplit s 46).length) (hd : preOk (mSplit s 46)[i] = false) : mPre1 s = false := by
  rw [mPre1, all_no h hd, Bool.and_false]
theorem pre1_yes {s : List UInt8} {i : Nat} (h1 : mTags1 s = true) (hi : (mSplit s 46).length ≤ i) (h : ((mSplit s 46).take i).all preOk = true) : mPre1 s = true := by
  rw [mPre1, all_yes hi h, h1]; rfl
theorem mTags_true (s : List UInt8) : mTags s true = (decide (s = []) || mPre1 s) := by
  have : tagOk true = fun t => mTag t && preOk t := by funext t; simp [tagOk, preOk]
  rw [mTags, mPre1, mTags1, this, Bool.and_assoc]
  congr 2
  induction (mSplit s 46) with
  | nil => rfl
  | cons x xs ih => simp only [List.all_cons, ih]; cases mTag x <;> cases preOk x <;> simp
theorem mInts_zero {a b : Int} : mInts a b = 0 ↔ a = b := by unfold mInts; (repeat' split) <;> omega
theorem cmp_eq {a b c : Int} {p q : List UInt8} {a' b' c' : Int} {p' q' : List UInt8} (h1 : mMay a b c p q = true) (h2 : mMay a' b' c' p' q' = true)
    (h : (decide (a = a') && (decide (b = b') && (decide (c = c') && (decide (p = p') && (decide (([] : List UInt8) = []) && true))))) = true) : mCmp a b c p q a' b' c' p' q' = 0 := by
  simp only [Bool.and_eq_true, decide_eq_true_eq, and_true] at h
  obtain ⟨rfl, rfl, rfl, rfl⟩ := h
  have e : ∀ x, mInts x x = 0 := fun x => mInts_zero.2 rfl
  simp [mCmp, h1, h2, e, mPres]
theorem cmp_num {a b c : Int} {p q : List UInt8} {a' b' c' : Int} {p' q' : List UInt8} (h1 : mMay a b c p q = true) (h2 : mMay a' b' c' p' q' = true)
    (h : ¬ firstNZ [mInts a a', mInts b b', mInts c c'] = 0) : firstNZ [mInts a a', mInts b b', mInts c c'] = mCmp a b c p q a' b' c' p' q' := by
  simp only [firstNZ, mCmp, h1, h2] at h ⊢
  simp only [Bool.true_eq_false, or_self, if_false]
  repeat' split
  all_goals first | rfl | (exfalso; simp_all)
theorem cmp_three {a b c : Int} {p q : List UInt8} {a' b' c' : Int} {p' q' : List UInt8} (h1 : mMay a b c p q = true) (h2 : mMay a' b' c' p' q' = true) (h : firstNZ [mInts a a', mInts b b', mInts c c'] = 0) :
    mCmp a b c p q a' b' c' p' q' = mPres p p' := by
  simp only [firstNZ] at h
  simp only [mCmp, h1, h2, Bool.true_eq_false, or_self, if_false]
  repeat' split
  all_goals first | rfl | (exfalso; simp_all)
theorem cmp_ne {a b c : Int} {p : List UInt8} {a' b' c' : Int} {p' : List UInt8} (h : (decide (a = a') && (decide (b = b') && (decide (c = c') && (decide (p = p') && (decide (([] : List UInt8) = []) && true))))) = false)
    (h0 : firstNZ [mInts a a', mInts b b', mInts c c'] = 0) : p ≠ p' := by
  rintro rfl
  have e : mInts a a' = 0 ∧ mInts b b' = 0 ∧ mInts c c' = 0 := by
    simp only [firstNZ] at h0
    revert h0
    repeat' split
    all_goals simp_all
  simp only [mInts_zero] at e
  simp [e] at h
theorem cmp_pre1 {a b c : Int} {p q : List UInt8} {a' b' c' : Int} {p' q' : List UInt8} (h1 : mMay a b c p q = true) (h2 : mMay a' b' c' p' q' = true)
    (h : (decide (a = a') && (decide (b = b') && (decide (c = c') && (decide (p = p') && (decide (([] : List UInt8) = []) && true))))) = false)
    (h0 : firstNZ [mInts a a', mInts b b', mInts c c'] = 0) (hp : p = []) : mCmp a b c p q a' b' c' p' q' = 1 := by
  rw [cmp_three h1 h2 h0, mPres, if_neg (cmp_ne h h0), if_pos hp]
theorem cmp_pre2 {a b c : Int} {p q : List UInt8} {a' b' c' : Int} {p' q' : List UInt8} (h1 : mMay a b c p q = true) (h2 : mMay a' b' c' p' q' = true)
    (h0 : firstNZ [mInts a a', mInts b b', mInts c c'] = 0) (hp : ¬ p = []) (hp' : p' = []) : mCmp a b c p q a' b' c' p' q' = -1 := by
  have : p ≠ p' := fun e => hp (e.trans hp')
  rw [cmp_three h1 h2 h0, mPres, if_neg this, if_neg hp, if_pos hp']
theorem cmp_row {a b c : Int} {p q : List UInt8} {a' b' c' : Int} {p' q' : List UInt8} (h1 : mMay a b c p q = true) (h2 : mMay a' b' c' p' q' = true)
    (h : (decide (a = a') && (decide (b = b') && (decide (c = c') && (decide (p = p') && (decide (([] : List UInt8) = []) && true))))) = false)
    (h0 : firstNZ [mInts a a', mInts b b', mInts c c'] = 0) (hp : ¬ p = []) (hp' : ¬ p' = []) : mCmp a b c p q a' b' c' p' q' = mRow ((mSplit p 46).drop 0) ((mSplit p' 46).drop 0) := by
  rw [cmp_three h1 h2 h0, mPres, if_neg (cmp_ne h h0), if_neg hp, if_neg hp']; rfl
end M3

namespace M3
open Go Go.Abs
theorem ccmp_end {e a b c : Int} {p q : List UInt8} {f : Bool} {e' a' b' c' : Int} {p' q' : List UInt8} {f' : Bool} (h1 : mCMay e a b c p q f = true) (h2 : mCMay e' a' b' c' p' q' f' = true) (h : ¬ e = 0 ∨ ¬ e' = 0) :
    mCCmp e a b c p q f e' a' b' c' p' q' f' = mInts e e' := by
  rw [mCCmp, h1, h2, if_neg (by simp), if_pos]
  by_cases h0 : e = 0
  · exact .inl (by omega)
  · exact .inr h0
end M3
namespace M3
open Go Go.Abs
def numT : List Int := [0, 1, 2, 3, 0, 1, 10, 9999]
def preT : List (List UInt8) := [[], [], [], [], [48], [49], [50], [49, 49], [97], [97, 46, 49], [97, 46, 98], [98], [48, 46, 48], [114, 99, 46, 49]]
def buildT : List (List UInt8) := [[], [], [], [], [48, 48, 55], [120, 46, 49]]
theorem head_map {α : Type} (f : α → D) (l : List α) (x : α) {n : Nat} (h : n < l.length) : ((l.map f).drop (0 + n * 1)).head? = some (f (l.getD n x)) := by
  rw [Nat.zero_add, Nat.mul_one, List.head?_drop, List.getElem?_map, List.getElem?_eq_getElem h, List.getD_eq_getElem?_getD, List.getElem?_eq_getElem h]; rfl
def vNum (l : List Int) (i : Int) : Int := numT.getD (mFrom l i 8).toNat 0
def vPre (l : List Int) (i : Int) : List UInt8 := preT.getD (mFrom l i 14).toNat []
def vBuild (l : List Int) (i : Int) : List UInt8 := buildT.getD (mFrom l i 6).toNat []
/-- A cut by numbers. -/
def cu (l : List Int) (i : Int) : Cu :=
  if mFrom l (i + 5) 9 < 2 then ⟨2 * mFrom l (i + 5) 9 - 1, 0, 0, 0, [], [], false⟩
  else ⟨0, vNum l i, vNum l (i + 1), vNum l (i + 2), vPre l (i + 3), [], decide (mFrom l (i + 5) 2 = 1)⟩
theorem getD_mem {α : Type} {l : List α} {n : Nat} {d : α} (h : d ∈ l) : l.getD n d ∈ l := by
  rw [List.getD_eq_getElem?_getD]
  cases e : l[n]? with
  | none => exact h
  | some x => exact List.mem_of_getElem? e
theorem num_mem (l : List Int) (i : Int) : vNum l i ∈ numT := getD_mem (by decide)
theorem pre_mem (l : List Int) (i : Int) : vPre l i ∈ preT := getD_mem (by decide)
theorem build_mem (l : List Int) (i : Int) : vBuild l i ∈ buildT := getD_mem (by decide)
theorem num_all : ∀ x ∈ numT, 0 ≤ x ∧ x ≤ 9999 := by decide
theorem pre_all : ∀ p ∈ preT, mTags p true = true ∧ p.length ≤ 4 := by decide
theorem build_all : ∀ p ∈ buildT, mTags p false = true ∧ p.length ≤ 3 := by decide
def rank (p : List UInt8) : Int :=
  if p = [48] then 0 else if p = [48, 46, 48] then 1 else if p = [49] then 2 else if p = [50] then 3 else if p = [49, 49] then 4 else if p = [97] then 5 else if p = [97, 46, 49] then 6
  else if p = [97, 46, 98] then 7 else if p = [98] then 8 else if p = [114, 99, 46, 49] then 9 else 10
theorem pres_rank : ∀ p ∈ preT, ∀ q ∈ preT, mPres p q = mInts (rank p) (rank q) ∧ (rank p = rank q → p = q) ∧ 0 ≤ rank p ∧ rank p ≤ 10 := by decide
end M3
namespace M3
open Go Go.Abs
def vkey (a b c : Int) (p : List UInt8) : Int := ((a * 10000 + b) * 10000 + c) * 16 + rank p
def cN (x : Cu) : Int := if x.e = 0 then 2 * vkey x.a x.b x.c x.p + (if x.f = true then 1 else 0) else x.e * 1000000000000000
def vGood (a b c : Int) (p q : List UInt8) : Prop := (0 ≤ a ∧ a ≤ 9999) ∧ (0 ≤ b ∧ b ≤ 9999) ∧ (0 ≤ c ∧ c ≤ 9999) ∧ p ∈ preT ∧ q ∈ buildT
def cGood (x : Cu) : Prop := (x = ⟨-1, 0, 0, 0, [], [], false⟩ ∨ x = ⟨1, 0, 0, 0, [], [], false⟩) ∨ (x.e = 0 ∧ vGood x.a x.b x.c x.p x.q ∧ x.q = [])
theorem vGood.of (l : List Int) (i j k m n : Int) : vGood (vNum l i) (vNum l j) (vNum l k) (vPre l m) (vBuild l n) :=
  ⟨num_all _ (num_mem l i), num_all _ (num_mem l j), num_all _ (num_mem l k), pre_mem l m, build_mem l n⟩
theorem vGood.core {a b c : Int} {p q : List UInt8} (h : vGood a b c p q) : vGood a b c p [] := ⟨h.1, h.2.1, h.2.2.1, h.2.2.2.1, by decide⟩
theorem cGood.of (l : List Int) (i : Int) : cGood (cu l i) := by
  have q1 := place_lo (v := mAt l (i + 5)) (n := 9) (by omega)
  change 0 ≤ mFrom l (i + 5) 9 at q1
  unfold cu
  split
  · rename_i h
    by_cases h0 : mFrom l (i + 5) 9 = 0
    · rw [h0]; exact .inl (.inl rfl)
    · have h1 : mFrom l (i + 5) 9 = 1 := by omega
      rw [h1]; exact .inl (.inr rfl)
  · exact .inr ⟨rfl, (vGood.of l i (i + 1) (i + 2) (i + 3) 0).core, rfl⟩
theorem cGood.lo : cGood ⟨-1, 0, 0, 0, [], [], false⟩ := .inl (.inl rfl)
theorem cGood.hi : cGood ⟨1, 0, 0, 0, [], [], false⟩ := .inl (.inr rfl)
theorem cGood.cut {a b c : Int} {p q : List UInt8} {f : Bool} (h : vGood a b c p q) : cGood ⟨0, a, b, c, p, [], f⟩ := .inr ⟨rfl, h.core, rfl⟩
theorem may_v {a b c : Int} {p q : List UInt8} (h : vGood a b c p q) : mMay a b c p q = true := by
  obtain ⟨h1, h2, h3, h4, h5⟩ := h
  have e1 := (pre_all p h4).1
  have e2 := (build_all q h5).1
  simp [mMay, mFits, h1, h2, h3, e1, e2]
theorem may_c {x : Cu} (h : cGood x) : mCMay x.e x.a x.b x.c x.p x.q x.f = true := by
  rcases h with (rfl | rfl) | ⟨h1, h2, h3⟩
  · rfl
  · rfl
  · simp [mCMay, h1, h3, may_v h2.core]
theorem cGood.len {x : Cu} (h : cGood x) : x.p.length ≤ 1000000 ∧ x.q.length ≤ 1000000 := by
  rcases h with (rfl | rfl) | ⟨h1, h2, h3⟩
  · decide
  · decide
  · have := (pre_all _ h2.2.2.2.1).2
    rw [h3]; exact ⟨by omega, by decide⟩
theorem vGood.len {a b c : Int} {p q : List UInt8} (h : vGood a b c p q) : p.length ≤ 1000000 ∧ q.length ≤ 1000000 := by
  have h1 := (pre_all _ h.2.2.2.1).2
  have h2 := (build_all _ h.2.2.2.2).2
  omega
theorem mInts_lt {m n : Int} : mInts m n < 0 ↔ m < n := by unfold mInts; (repeat' split) <;> omega
theorem mInts_gt {m n : Int} : 0 < mInts m n ↔ n < m := by unfold mInts; (repeat' split) <;> omega
theorem mInts_le {m n : Int} : mInts m n ≤ 0 ↔ m ≤ n := by unfold mInts; (repeat' split) <;> omega
theorem mInts_bd {m n : Int} : -1 ≤ mInts m n ∧ mInts m n ≤ 1 := by unfold mInts; (repeat' split) <;> omega
theorem mInts_neg {m n : Int} : mInts m n = 0 - mInts n m := by unfold mInts; (repeat' split) <;> omega
theorem lexI {a a' r r' : Int} (h1 : 0 ≤ r) (h2 : r < 10000) (h3 : 0 ≤ r') (h4 : r' < 10000) : mInts (a * 10000 + r) (a' * 10000 + r') = if mInts a a' ≠ 0 then mInts a a' else mInts r r' := by
  unfold mInts; (repeat' split) <;> omega
theorem lexR {a a' r r' : Int} (h1 : 0 ≤ r) (h2 : r < 16) (h3 : 0 ≤ r') (h4 : r' < 16) : mInts (a * 16 + r) (a' * 16 + r') = if mInts a a' ≠ 0 then mInts a a' else mInts r r' := by
  unfold mInts; (repeat' split) <;> omega
theorem cmp_v {a b c : Int} {p q : List UInt8} {a' b' c' : Int} {p' q' : List UInt8} (h : vGood a b c p q) (h' : vGood a' b' c' p' q') : mCmp a b c p q a' b' c' p' q' = mInts (vkey a b c p) (vkey a' b' c' p') := by
  rw [mCmp, may_v h, may_v h']
  obtain ⟨h1, h2, h3, h4, h5⟩ := h
  obtain ⟨g1, g2, g3, g4, g5⟩ := h'
  obtain ⟨e1, _, e2, e3⟩ := pres_rank p h4 p' g4
  obtain ⟨_, _, e4, e5⟩ := pres_rank p' g4 p h4
  rw [e1]
  simp only [Bool.true_eq_false, or_self, if_false, vkey]
  rw [lexR (by omega) (by omega) (by omega) (by omega), lexI (by omega) (by omega) (by omega) (by omega), lexI (by omega) (by omega) (by omega) (by omega)]
  by_cases ha : mInts a a' = 0
  · by_cases hb : mInts b b' = 0
    · simp [ha, hb]
    · simp [ha, hb]
  · simp [ha]
theorem cN_range {z : Cu} (hz : cGood z) : (z.e = -1 ∧ cN z = -1000000000000000) ∨ (z.e = 1 ∧ cN z = 1000000000000000) ∨ (z.e = 0 ∧ -1000000000 ≤ cN z ∧ cN z ≤ 100000000000000) := by
  rcases hz with (rfl | rfl) | ⟨h1, h2, h3⟩
  · exact .inl ⟨rfl, rfl⟩
  · exact .inr (.inl ⟨rfl, rfl⟩)
  · obtain ⟨q1, q2, q3, q4, _⟩ := h2
    obtain ⟨_, _, e4, e5⟩ := pres_rank z.p q4 z.p q4
    refine .inr (.inr ⟨h1, ?_, ?_⟩) <;> (rw [cN, if_pos h1, vkey]; split <;> omega)
theorem cmp_c {x y : Cu} (h : cGood x) (h' : cGood y) : mCCmp x.e x.a x.b x.c x.p x.q x.f y.e y.a y.b y.c y.p y.q y.f = mInts (cN x) (cN y) := by
  rw [mCCmp, may_c h, may_c h', if_neg (by simp)]
  by_cases h0 : x.e ≠ y.e ∨ x.e ≠ 0
  · rw [if_pos h0]
    rcases cN_range h with ⟨k1, k2⟩ | ⟨k1, k2⟩ | ⟨k1, k2, k3⟩ <;> rcases cN_range h' with ⟨j1, j2⟩ | ⟨j1, j2⟩ | ⟨j1, j2, j3⟩ <;> rw [k1, j1] <;> unfold mInts <;> (repeat' split) <;> omega
  · rw [if_neg h0]
    have hx : x.e = 0 := by omega
    have hy : y.e = 0 := by omega
    rcases h with (rfl | rfl) | ⟨_, h2, _⟩
    · simp at hx
    · simp at hx
    rcases h' with (rfl | rfl) | ⟨_, g2, _⟩
    · simp at hy
    · simp at hy
    rw [cmp_v h2 g2, cN, if_pos hx, cN, if_pos hy]
    cases x.f <;> cases y.f <;> simp <;> unfold mInts <;> (repeat' split) <;> omega
theorem key_inj {a b c : Int} {p q : List UInt8} {a' b' c' : Int} {p' q' : List UInt8} (h : vGood a b c p q) (h' : vGood a' b' c' p' q') (e : vkey a b c p = vkey a' b' c' p') : a = a' ∧ b = b' ∧ c = c' ∧ p = p' := by
  obtain ⟨h1, h2, h3, h4, h5⟩ := h
  obtain ⟨g1, g2, g3, g4, g5⟩ := h'
  obtain ⟨e1, e6, e2, e3⟩ := pres_rank p h4 p' g4
  obtain ⟨_, _, e4, e5⟩ := pres_rank p' g4 p h4
  unfold vkey at e
  have hr : rank p = rank p' := by omega
  exact ⟨by omega, by omega, by omega, e6 hr⟩
theorem cN_eq {x y : Cu} (h : cGood x) (h' : cGood y) :
    (decide (x.e = y.e) && (decide (x.a = y.a) && (decide (x.b = y.b) && (decide (x.c = y.c) && (decide (x.p = y.p) && (decide (x.q = y.q) && (decide (x.f = y.f) && true))))))) = decide (cN x = cN y) := by
  rw [Bool.eq_iff_iff]
  simp only [Bool.and_eq_true, decide_eq_true_eq, and_true]
  constructor
  · rintro ⟨h1, h2, h3, h4, h5, h6, h7⟩
    unfold cN
    rw [h1, h2, h3, h4, h5, h7]
  · intro e
    have r1 := cN_range h
    have r2 := cN_range h'
    rcases h with (rfl | rfl) | ⟨h1, h2, h3⟩ <;> rcases h' with (rfl | rfl) | ⟨g1, g2, g3⟩
    · simp
    · exfalso; simp at r1 r2; omega
    · exfalso; simp at r1; omega
    · exfalso; simp at r1 r2; omega
    · simp
    · exfalso; simp at r1; omega
    · exfalso; simp at r2; omega
    · exfalso; simp at r2; omega
    · rw [cN, cN, if_pos h1, if_pos g1] at e
      have hf : x.f = y.f ∧ vkey x.a x.b x.c x.p = vkey y.a y.b y.c y.p := by
        cases hx : x.f <;> cases hy : y.f <;> simp only [hx, hy] at e <;> simp at e ⊢ <;> omega
      obtain ⟨k1, k2, k3, k4⟩ := key_inj h2 g2 hf.2
      exact ⟨h1.trans g1.symm, k1, k2, k3, k4, h3.trans g3.symm, hf.1⟩
theorem ahead_c {x : Cu} {a b c : Int} {p q : List UInt8} (h : cGood x) (h' : vGood a b c p q) : mAhead x.e x.a x.b x.c x.p x.q x.f a b c p q = decide (cN x ≤ 2 * vkey a b c p) := by
  rw [mAhead, may_c h, may_v h', if_neg (by simp)]
  have hb : 0 ≤ vkey a b c p ∧ vkey a b c p ≤ 100000000000000 := by
    obtain ⟨q1, q2, q3, q4, _⟩ := h'
    obtain ⟨_, _, e4, e5⟩ := pres_rank p q4 p q4
    simp only [vkey]; omega
  rcases h with (rfl | rfl) | ⟨h1, h2, h3⟩
  · simp [cN]; omega
  · simp [cN]; omega
  · rw [if_neg (by simpa using h1), cmp_v h2 h', cN, if_pos h1]
    cases x.f <;> simp [mInts_lt, mInts_zero] <;> first | omega | (rw [Bool.eq_iff_iff]; simp; omega)
theorem span_c {x y : Cu} (h : cGood x) (h' : cGood y) : mSpan x.e x.a x.b x.c x.p x.q x.f y.e y.a y.b y.c y.p y.q y.f = decide (cN x < cN y) := by
  rw [mSpan, may_c h, may_c h', cmp_c h h']
  simp [mInts_lt]
theorem holds_c {x y : Cu} {a b c : Int} {p q : List UInt8} (h : cGood x) (h' : cGood y) (hv : vGood a b c p q) :
    mHolds x.e x.a x.b x.c x.p x.q x.f y.e y.a y.b y.c y.p y.q y.f a b c p q = (decide (cN x ≤ 2 * vkey a b c p) && !decide (cN y ≤ 2 * vkey a b c p)) := by
  rw [mHolds, span_c h h', may_v hv, ahead_c h hv, ahead_c h' hv]
  rw [Bool.eq_iff_iff]
  simp
  omega
end M3

namespace M3
open Go Go.Abs
theorem cN_lo {x : Cu} (h : cGood x) : cN ⟨-1, 0, 0, 0, [], [], false⟩ ≤ cN x := by
  have e : cN ⟨-1, 0, 0, 0, [], [], false⟩ = -1000000000000000 := rfl
  have := cN_range h
  omega
theorem cN_hi {x : Cu} (h : cGood x) : cN x ≤ cN ⟨1, 0, 0, 0, [], [], false⟩ := by
  have e : cN ⟨1, 0, 0, 0, [], [], false⟩ = 1000000000000000 := rfl
  have := cN_range h
  omega
theorem vkey_range {a b c : Int} {p q : List UInt8} (h : vGood a b c p q) : 0 ≤ vkey a b c p ∧ vkey a b c p ≤ 100000000000000 := by
  obtain ⟨q1, q2, q3, q4, _⟩ := h
  obtain ⟨_, _, e4, e5⟩ := pres_rank p q4 p q4
  simp only [vkey]; omega
theorem ahead_lo {a b c : Int} {p q : List UInt8} (h : vGood a b c p q) : cN ⟨-1, 0, 0, 0, [], [], false⟩ ≤ 2 * vkey a b c p := by
  have e : cN ⟨-1, 0, 0, 0, [], [], false⟩ = -1000000000000000 := rfl
  have := vkey_range h
  omega
theorem ahead_hi {a b c : Int} {p q : List UInt8} (h : vGood a b c p q) : ¬ cN ⟨1, 0, 0, 0, [], [], false⟩ ≤ 2 * vkey a b c p := by
  have e : cN ⟨1, 0, 0, 0, [], [], false⟩ = 1000000000000000 := rfl
  have := vkey_range h
  omega
theorem cN_at {a b c : Int} {p q : List UInt8} : cN ⟨0, a, b, c, p, q, false⟩ = 2 * vkey a b c p := by simp [cN]
theorem cN_behind {a b c : Int} {p q : List UInt8} : cN ⟨0, a, b, c, p, q, true⟩ = 2 * vkey a b c p + 1 := by simp [cN]
end M3
namespace Go.Proofs
open Go Go.Abs M3
set_option linter.unusedVariables false
set_option linter.unusedSimpArgs false

theorem c_version_fits {n : Int} : Ok Try.prog 34 [.int .i64 n] (.bool (mFits n)) := by
  refine Ok.ofT tfol Try.func34 tp34 (Nat.le_of_ble_eq_true rfl) ?_
  show TW _ _ tf34.body _ _
  refine R_seq fun K hK => ?_
  refine R_mov rfl ?_
  refine hK _ _ (TW_keep (keep_cons rfl (keep_nil)) ?_)
  clear hK K
  refine R_seq fun K hK => ?_
  refine R_mov rfl ?_
  refine R_ge rfl rfl ?_
  refine R_mov rfl ?_
  refine G_split (g := 5) rfl (fun h1 => ?_) (fun h1 => ?_)
  · try rw [h1]
    try simp only [decide_eq_true_eq, decide_eq_false_iff_not, Bool.not_eq_eq_eq_not, Bool.not_true, Bool.not_false] at h1
    refine G_yes rfl ?_
    refine R_mov rfl ?_
    refine G_yes rfl ?_
    refine R_le rfl rfl ?_
    refine R_pick rfl rfl ?_
    refine R_mov rfl ?_
    refine hK _ _ (TW_keep (keep_cons rfl (keep_nil)) ?_)
    clear hK K
    refine T_ret ?_
    refine post_retB rfl ?_
    simp_all [mFits] <;> omega
  · try rw [h1]
    try simp only [decide_eq_true_eq, decide_eq_false_iff_not, Bool.not_eq_eq_eq_not, Bool.not_true, Bool.not_false] at h1
    refine G_no rfl ?_
    refine G_no rfl ?_
    refine R_pick rfl rfl ?_
    refine R_mov rfl ?_
    refine hK _ _ (TW_keep (keep_cons rfl (keep_nil)) ?_)
    clear hK K
    refine T_ret ?_
    refine post_retB rfl ?_
    simp_all [mFits] <;> omega

theorem c_linchpinref2_num {n : Int} : Ok Try.prog 37 [.int .i64 n] (.bool (mFits n)) := by
  refine Ok.ofT tfol Try.func37 tp37 (Nat.le_of_ble_eq_true rfl) ?_
  show TW _ _ tf37.body _ _
  refine R_seq fun K hK => ?_
  refine R_mov rfl ?_
  refine hK _ _ (TW_keep (keep_cons rfl (keep_nil)) ?_)
  clear hK K
  refine R_seq fun K hK => ?_
  refine R_mov rfl ?_
  refine R_ge rfl rfl ?_
  refine R_mov rfl ?_
  refine G_split (g := 5) rfl (fun h1 => ?_) (fun h1 => ?_)
  · try rw [h1]
    try simp only [decide_eq_true_eq, decide_eq_false_iff_not, Bool.not_eq_eq_eq_not, Bool.not_true, Bool.not_false] at h1
    refine G_yes rfl ?_
    refine R_mov rfl ?_
    refine G_yes rfl ?_
    refine R_le rfl rfl ?_
    refine R_pick rfl rfl ?_
    refine R_mov rfl ?_
    refine hK _ _ (TW_keep (keep_cons rfl (keep_nil)) ?_)
    clear hK K
    refine T_ret ?_
    refine post_retB rfl ?_
    simp_all [mFits] <;> omega
  · try rw [h1]
    try simp only [decide_eq_true_eq, decide_eq_false_iff_not, Bool.not_eq_eq_eq_not, Bool.not_true, Bool.not_false] at h1
    refine G_no rfl ?_
    refine G_no rfl ?_
    refine R_pick rfl rfl ?_
    refine R_mov rfl ?_
    refine hK _ _ (TW_keep (keep_cons rfl (keep_nil)) ?_)
    clear hK K
    refine T_ret ?_
    refine post_retB rfl ?_
    simp_all [mFits] <;> omega

theorem c_cmp_isNaN_int {n : Int} : Ok Try.prog 39 [.int .i64 n] (.bool false) := by
  refine Ok.ofT tfol Try.func39 tp39 (Nat.le_of_ble_eq_true rfl) ?_
  show TW _ _ tf39.body _ _
  refine R_seq fun K hK => ?_
  refine R_mov rfl ?_
  refine hK _ _ (TW_keep (keep_cons rfl (keep_nil)) ?_)
  clear hK K
  refine R_seq fun K hK => ?_
  refine R_mov rfl ?_
  refine R_mov rfl ?_
  refine R_neI rfl rfl ?_
  refine R_mov rfl ?_
  refine hK _ _ (TW_keep (keep_cons rfl (keep_nil)) ?_)
  clear hK K
  refine T_ret ?_
  refine post_retB rfl ?_
  simp_all

theorem c_linchpinref2_Ints {m n : Int} : Ok Try.prog 28 [.int .i64 m, .int .i64 n] (.int .i64 (mInts m n)) := by
  refine Ok.ofT tfol Try.func28 tp28 (Nat.le_of_ble_eq_true rfl) ?_
  show TW _ _ tf28.body _ _
  refine R_seq fun K hK => ?_
  refine R_mov rfl ?_
  refine hK _ _ (TW_keep (keep_cons rfl (keep_cons rfl (keep_nil))) ?_)
  clear hK K
  refine T_seq ?_ -- 0
  refine T_block ?_
  refine R_seq fun K hK => ?_
  refine R_mov rfl ?_
  refine R_mov rfl ?_
  refine R_lt rfl rfl ?_
  refine R_mov rfl ?_
  refine hK _ _ (TW_keep (keep_cons rfl (keep_cons rfl (keep_cons rfl (keep_nil)))) ?_)
  clear hK K
  refine T_cond rfl (fun h1 => ?_) (fun h1 => ?_)
  · try rw [h1]
    try simp only [decide_eq_true_eq, decide_eq_false_iff_not, Bool.not_eq_eq_eq_not, Bool.not_true, Bool.not_false] at h1
    refine R_seq fun K hK => ?_
    refine R_mov rfl ?_
    refine hK _ _ (TW_keep (keep_cons rfl (keep_nil)) ?_)
    clear hK K
    refine T_ret ?_
    refine block_ret ?_
    refine seqT_ret ?_
    refine post_retI rfl ?_
    simp_all [mInts] <;> omega
  · try rw [h1]
    try simp only [decide_eq_true_eq, decide_eq_false_iff_not, Bool.not_eq_eq_eq_not, Bool.not_true, Bool.not_false] at h1
    refine R_seq fun K hK => ?_
    refine R_mov rfl ?_
    refine R_mov rfl ?_
    refine R_gt rfl rfl ?_
    refine R_mov rfl ?_
    refine hK _ _ (TW_keep (keep_cons rfl (keep_nil)) ?_)
    clear hK K
    refine T_cond rfl (fun h2 => ?_) (fun h2 => ?_)
    · try rw [h2]
      try simp only [decide_eq_true_eq, decide_eq_false_iff_not, Bool.not_eq_eq_eq_not, Bool.not_true, Bool.not_false] at h2
      refine R_seq fun K hK => ?_
      refine R_mov rfl ?_
      refine hK _ _ (TW_keep (keep_cons rfl (keep_nil)) ?_)
      clear hK K
      refine T_ret ?_
      refine block_ret ?_
      refine seqT_ret ?_
      refine post_retI rfl ?_
      simp_all [mInts] <;> omega
    · try rw [h2]
      try simp only [decide_eq_true_eq, decide_eq_false_iff_not, Bool.not_eq_eq_eq_not, Bool.not_true, Bool.not_false] at h2
      refine T_skip ?_
      refine block_normal ?_
      refine seqT_keep (keep_nil) ?_
      refine R_seq fun K hK => ?_
      refine R_mov rfl ?_
      refine hK _ _ (TW_keep (keep_cons rfl (keep_nil)) ?_)
      clear hK K
      refine T_ret ?_
      refine post_retI rfl ?_
      simp_all [mInts] <;> omega

theorem c_cmp_Compare_int {m n : Int} : Ok Try.prog 27 [.int .i64 m, .int .i64 n] (.int .i64 (mInts m n)) := by
  refine Ok.ofT tfol Try.func27 tp27 (Nat.le_of_ble_eq_true rfl) ?_
  show TW _ _ tf27.body _ _
  refine R_seq fun K hK => ?_
  refine R_mov rfl ?_
  refine hK _ _ (TW_keep (keep_cons rfl (keep_cons rfl (keep_nil))) ?_)
  clear hK K
  refine R_seq fun K hK => ?_
  refine R_mov rfl ?_
  refine R_call (c_cmp_isNaN_int) rfl rfl (.inr rfl) ?_
  refine R_mov rfl ?_
  refine hK _ _ (TW_keep (keep_cons rfl (keep_cons rfl (keep_cons rfl (keep_nil)))) ?_)
  clear hK K
  refine R_seq fun K hK => ?_
  refine R_mov rfl ?_
  refine R_call (c_cmp_isNaN_int) rfl rfl (.inr rfl) ?_
  refine R_mov rfl ?_
  refine hK _ _ (TW_keep (keep_cons rfl (keep_cons rfl (keep_cons rfl (keep_cons rfl (keep_nil))))) ?_)
  clear hK K
  refine T_seq ?_ -- 0
  refine R_seq fun K hK => ?_
  refine R_mov rfl ?_
  refine hK _ _ (TW_keep (keep_cons rfl (keep_cons rfl (keep_cons rfl (keep_cons rfl (keep_nil))))) ?_)
  clear hK K
  refine T_cond rfl (fun h1 => ?_) (fun h1 => ?_)
  · try rw [h1]
    try simp only [decide_eq_true_eq, decide_eq_false_iff_not, Bool.not_eq_eq_eq_not, Bool.not_true, Bool.not_false] at h1
    refine T_seq ?_ -- 1
    refine R_seq fun K hK => ?_
    refine R_mov rfl ?_
    refine hK _ _ (TW_keep (keep_cons rfl (keep_nil)) ?_)
    clear hK K
    refine T_cond rfl (fun h2 => ?_) (fun h2 => ?_)
    · try rw [h2]
      try simp only [decide_eq_true_eq, decide_eq_false_iff_not, Bool.not_eq_eq_eq_not, Bool.not_true, Bool.not_false] at h2
      refine R_seq fun K hK => ?_
      refine R_mov rfl ?_
      refine hK _ _ (TW_keep (keep_cons rfl (keep_nil)) ?_)
      clear hK K
      refine T_ret ?_
      refine seqT_ret ?_
      refine seqT_ret ?_
      refine post_retI rfl ?_
      simp_all [mInts] <;> omega
    · try rw [h2]
      try simp only [decide_eq_true_eq, decide_eq_false_iff_not, Bool.not_eq_eq_eq_not, Bool.not_true, Bool.not_false] at h2
      refine T_skip ?_
      refine seqT_keep (keep_nil) ?_
      refine R_seq fun K hK => ?_
      refine R_mov rfl ?_
      refine hK _ _ (TW_keep (keep_cons rfl (keep_nil)) ?_)
      clear hK K
      refine T_ret ?_
      refine seqT_ret ?_
      refine post_retI rfl ?_
      simp_all [mInts] <;> omega
  · try rw [h1]
    try simp only [decide_eq_true_eq, decide_eq_false_iff_not, Bool.not_eq_eq_eq_not, Bool.not_true, Bool.not_false] at h1
    refine T_skip ?_
    refine seqT_keep (keep_cons rfl (keep_cons rfl (keep_cons rfl (keep_nil)))) ?_
    refine T_seq ?_ -- 2
    refine R_seq fun K hK => ?_
    refine R_mov rfl ?_
    refine hK _ _ (TW_keep (keep_cons rfl (keep_cons rfl (keep_cons rfl (keep_nil)))) ?_)
    clear hK K
    refine T_cond rfl (fun h3 => ?_) (fun h3 => ?_)
    · try rw [h3]
      try simp only [decide_eq_true_eq, decide_eq_false_iff_not, Bool.not_eq_eq_eq_not, Bool.not_true, Bool.not_false] at h3
      refine R_seq fun K hK => ?_
      refine R_mov rfl ?_
      refine hK _ _ (TW_keep (keep_cons rfl (keep_nil)) ?_)
      clear hK K
      refine T_ret ?_
      refine seqT_ret ?_
      refine post_retI rfl ?_
      simp_all [mInts] <;> omega
    · try rw [h3]
      try simp only [decide_eq_true_eq, decide_eq_false_iff_not, Bool.not_eq_eq_eq_not, Bool.not_true, Bool.not_false] at h3
      refine T_skip ?_
      refine seqT_keep (keep_cons rfl (keep_cons rfl (keep_nil))) ?_
      refine T_seq ?_ -- 3
      refine R_seq fun K hK => ?_
      refine R_mov rfl ?_
      refine R_mov rfl ?_
      refine R_lt rfl rfl ?_
      refine hK _ _ (TW_keep (keep_cons rfl (keep_cons rfl (keep_cons rfl (keep_nil)))) ?_)
      clear hK K
      refine T_cond rfl (fun h4 => ?_) (fun h4 => ?_)
      · try rw [h4]
        try simp only [decide_eq_true_eq, decide_eq_false_iff_not, Bool.not_eq_eq_eq_not, Bool.not_true, Bool.not_false] at h4
        refine R_seq fun K hK => ?_
        refine R_mov rfl ?_
        refine hK _ _ (TW_keep (keep_cons rfl (keep_nil)) ?_)
        clear hK K
        refine T_ret ?_
        refine seqT_ret ?_
        refine post_retI rfl ?_
        simp_all [mInts] <;> omega
      · try rw [h4]
        try simp only [decide_eq_true_eq, decide_eq_false_iff_not, Bool.not_eq_eq_eq_not, Bool.not_true, Bool.not_false] at h4
        refine T_skip ?_
        refine seqT_keep (keep_cons rfl (keep_cons rfl (keep_nil))) ?_
        refine T_seq ?_ -- 4
        refine R_seq fun K hK => ?_
        refine R_mov rfl ?_
        refine R_mov rfl ?_
        refine R_gt rfl rfl ?_
        refine hK _ _ (TW_keep (keep_cons rfl (keep_nil)) ?_)
        clear hK K
        refine T_cond rfl (fun h5 => ?_) (fun h5 => ?_)
        · try rw [h5]
          try simp only [decide_eq_true_eq, decide_eq_false_iff_not, Bool.not_eq_eq_eq_not, Bool.not_true, Bool.not_false] at h5
          refine R_seq fun K hK => ?_
          refine R_mov rfl ?_
          refine hK _ _ (TW_keep (keep_cons rfl (keep_nil)) ?_)
          clear hK K
          refine T_ret ?_
          refine seqT_ret ?_
          refine post_retI rfl ?_
          simp_all [mInts] <;> omega
        · try rw [h5]
          try simp only [decide_eq_true_eq, decide_eq_false_iff_not, Bool.not_eq_eq_eq_not, Bool.not_true, Bool.not_false] at h5
          refine T_skip ?_
          refine seqT_keep (keep_nil) ?_
          refine R_seq fun K hK => ?_
          refine R_mov rfl ?_
          refine hK _ _ (TW_keep (keep_cons rfl (keep_nil)) ?_)
          clear hK K
          refine T_ret ?_
          refine post_retI rfl ?_
          simp_all [mInts] <;> omega

theorem c_version_numeric {s : List UInt8} (hl : s.length ≤ 1000000) : Ok Try.prog 43 [.str s] (.bool (mNumeric s)) := by
  refine Ok.ofT tfol Try.func43 tp43 (Nat.le_of_ble_eq_true rfl) ?_
  show TW _ _ tf43.body _ _
  refine R_seq fun K hK => ?_
  refine R_mov rfl ?_
  refine hK _ _ (TW_keep (keep_cons rfl (keep_nil)) ?_)
  clear hK K
  refine T_seq ?_ -- 0
  refine R_seq fun K hK => ?_
  refine R_mov rfl ?_
  refine R_lenStr rfl ?_
  refine R_mov rfl ?_
  refine hK _ _ (TW_keep (keep_cons rfl (keep_cons rfl (keep_cons rfl (keep_nil)))) ?_)
  clear hK K
  refine T_block ?_
  refine T_loop (ι := Nat) (fun i => ⟨[(0, .str s), (5, .int .i64 s.length), (6, .int .i64 i)], []⟩) (fun i => i ≤ s.length ∧ (s.take i).all isDig = true) (fun i => s.length - i) 0 ?_ ?_ ?_
  · exact le_keep' (keep_cons rfl (keep_cons rfl (keep_cons rfl (keep_nil))))
  · exact ⟨Nat.zero_le _, rfl⟩
  intro i hI
  try dsimp only
  refine R_seq fun K hK => ?_
  refine R_lt rfl rfl ?_
  refine hK _ _ (TW_keep (keep_cons rfl (keep_cons rfl (keep_cons rfl (keep_cons rfl (keep_nil))))) ?_)
  clear hK K
  refine T_seq ?_ -- 1
  refine T_cond rfl (fun h1 => ?_) (fun h1 => ?_)
  · try rw [h1]
    try simp only [decide_eq_true_eq, decide_eq_false_iff_not, Bool.not_eq_eq_eq_not, Bool.not_true, Bool.not_false] at h1
    refine T_skip ?_
    refine seqT_keep (keep_cons rfl (keep_cons rfl (keep_cons rfl (keep_nil)))) ?_
    refine T_seq ?_ -- 2
    refine T_block ?_
    refine R_seq fun K hK => ?_
    refine R_mov rfl ?_
    refine R_mov rfl ?_
    refine hK _ _ (TW_keep (keep_cons rfl (keep_cons rfl (keep_cons rfl (keep_cons rfl (keep_nil))))) ?_)
    clear hK K
    refine R_seq fun K hK => ?_
    refine R_mov rfl ?_
    refine R_mov rfl ?_
    refine R_indexStr rfl rfl (by omega) (idx_at (by omega)) ?_
    refine R_lt rfl rfl ?_
    refine R_mov rfl ?_
    refine G_split (g := 13) rfl (fun h2 => ?_) (fun h2 => ?_)
    · try rw [h2]
      try simp only [decide_eq_true_eq, decide_eq_false_iff_not, Bool.not_eq_eq_eq_not, Bool.not_true, Bool.not_false] at h2
      refine G_no rfl ?_
      refine G_no rfl ?_
      refine G_no rfl ?_
      refine G_no rfl ?_
      refine R_pick rfl rfl ?_
      refine hK _ _ (TW_keep (keep_cons rfl (keep_cons rfl (keep_cons rfl (keep_cons rfl (keep_nil))))) ?_)
      clear hK K
      refine T_condT rfl ?_
      refine R_seq fun K hK => ?_
      refine R_mov rfl ?_
      refine hK _ _ (TW_keep (keep_cons rfl (keep_nil)) ?_)
      clear hK K
      refine T_ret ?_
      refine block_ret ?_
      refine seqT_ret ?_
      refine round_ret ?_
      refine block_ret ?_
      refine seqT_ret ?_
      refine post_retB rfl ?_
      exact (numeric_no (i := i) (by omega) (by simp [isDig]; omega)).symm
    · try rw [h2]
      try simp only [decide_eq_true_eq, decide_eq_false_iff_not, Bool.not_eq_eq_eq_not, Bool.not_true, Bool.not_false] at h2
      refine G_yes rfl ?_
      refine R_mov rfl ?_
      refine G_yes rfl ?_
      refine R_mov rfl ?_
      refine G_yes rfl ?_
      refine R_indexStr rfl rfl (by omega) (idx_at (by omega)) ?_
      refine G_yes rfl ?_
      refine R_gt rfl rfl ?_
      refine R_pick rfl rfl ?_
      refine hK _ _ (TW_keep (keep_cons rfl (keep_cons rfl (keep_cons rfl (keep_cons rfl (keep_nil))))) ?_)
      clear hK K
      refine T_cond rfl (fun h3 => ?_) (fun h3 => ?_)
      · try rw [h3]
        try simp only [decide_eq_true_eq, decide_eq_false_iff_not, Bool.not_eq_eq_eq_not, Bool.not_true, Bool.not_false] at h3
        refine R_seq fun K hK => ?_
        refine R_mov rfl ?_
        refine hK _ _ (TW_keep (keep_cons rfl (keep_nil)) ?_)
        clear hK K
        refine T_ret ?_
        refine block_ret ?_
        refine seqT_ret ?_
        refine round_ret ?_
        refine block_ret ?_
        refine seqT_ret ?_
        refine post_retB rfl ?_
        exact (numeric_no (i := i) (by omega) (by simp [isDig]; omega)).symm
      · try rw [h3]
        try simp only [decide_eq_true_eq, decide_eq_false_iff_not, Bool.not_eq_eq_eq_not, Bool.not_true, Bool.not_false] at h3
        refine T_skip ?_
        refine block_normal ?_
        refine seqT_keep (keep_cons rfl (keep_cons rfl (keep_cons rfl (keep_nil)))) ?_
        refine R_last fun K hK => ?_
        refine R_add rfl rfl (by first | exact wrap_i64 (by omega) (by omega) | exact wrap_i32 (by omega) (by omega) | exact wrap_u8 (by omega) (by omega) | rfl) ?_
        refine R_mov rfl ?_
        refine hK _ ?_
        clear hK K
        refine round_normal (i + 1) ?_ ?_ ?_
        · exact le_keep' (keep_cons rfl (keep_cons rfl (keep_cons rfl (keep_nil))))
        · exact ⟨by omega, take_all (by omega) hI.2 (by simp [isDig]; omega)⟩
        · first | omega | (simp only; omega) | (dsimp only; omega)
  · try rw [h1]
    try simp only [decide_eq_true_eq, decide_eq_false_iff_not, Bool.not_eq_eq_eq_not, Bool.not_true, Bool.not_false] at h1
    refine T_exit ?_
    refine seqT_exit ?_
    refine round_exit ?_
    refine block_hit ?_
    refine seqT_keep (keep_cons rfl (keep_nil)) ?_
    refine R_seq fun K hK => ?_
    refine R_mov rfl ?_
    refine R_neS rfl rfl ?_
    refine R_mov rfl ?_
    refine hK _ _ (TW_keep (keep_cons rfl (keep_nil)) ?_)
    clear hK K
    refine T_ret ?_
    refine post_retB rfl ?_
    exact (numeric_yes (i := i) (by omega) hI.2).symm

theorem c_linchpinlaw0_Place {v n : Int} (hn : 0 < n ∧ n ≤ 9223372036854775807) (hv : -9223372036854775808 ≤ v ∧ v ≤ 9223372036854775807) : Ok Try.prog 41 [.int .i64 v, .int .i64 n] (.int .i64 (mPlace v n)) := by
  refine Ok.ofT tfol Try.func41 tp41 (Nat.le_of_ble_eq_true rfl) ?_
  show TW _ _ tf41.body _ _
  have q1 := Int.tmod_lt_of_pos v hn.1
  have q2 := Int.lt_tmod_of_pos v hn.1
  refine R_seq fun K hK => ?_
  refine R_mov rfl ?_
  refine hK _ _ (TW_keep (keep_cons rfl (keep_cons rfl (keep_nil))) ?_)
  clear hK K
  refine R_seq fun K hK => ?_
  refine R_mov rfl ?_
  refine R_mov rfl ?_
  refine R_rem rfl rfl (by omega) ?_
  refine R_mov rfl ?_
  refine hK _ _ (TW_keep (keep_cons rfl (keep_cons rfl (keep_nil))) ?_)
  clear hK K
  refine T_seq ?_ -- 0
  refine R_seq fun K hK => ?_
  refine R_mov rfl ?_
  refine R_lt rfl rfl ?_
  refine hK _ _ (TW_keep (keep_cons rfl (keep_cons rfl (keep_cons rfl (keep_nil)))) ?_)
  clear hK K
  refine T_cond rfl (fun h1 => ?_) (fun h1 => ?_)
  · try rw [h1]
    try simp only [decide_eq_true_eq, decide_eq_false_iff_not, Bool.not_eq_eq_eq_not, Bool.not_true, Bool.not_false] at h1
    refine R_last fun K hK => ?_
    refine R_mov rfl ?_
    refine R_mov rfl ?_
    refine R_add rfl rfl (by first | exact wrap_i64 (by omega) (by omega) | exact wrap_i32 (by omega) (by omega) | exact wrap_u8 (by omega) (by omega) | rfl) ?_
    refine R_mov rfl ?_
    refine hK _ ?_
    clear hK K
    refine seqT_keep (keep_cons rfl (keep_nil)) ?_
    refine R_seq fun K hK => ?_
    refine R_mov rfl ?_
    refine R_mov rfl ?_
    refine hK _ _ (TW_keep (keep_cons rfl (keep_nil)) ?_)
    clear hK K
    refine T_ret ?_
    refine post_retI rfl ?_
    simp_all [mPlace] <;> omega
  · try rw [h1]
    try simp only [decide_eq_true_eq, decide_eq_false_iff_not, Bool.not_eq_eq_eq_not, Bool.not_true, Bool.not_false] at h1
    refine T_skip ?_
    refine seqT_keep (keep_cons rfl (keep_nil)) ?_
    refine R_seq fun K hK => ?_
    refine R_mov rfl ?_
    refine R_mov rfl ?_
    refine hK _ _ (TW_keep (keep_cons rfl (keep_nil)) ?_)
    clear hK K
    refine T_ret ?_
    refine post_retI rfl ?_
    simp_all [mPlace] <;> omega

theorem c_linchpinlaw0_At {l : List Int} {i : Int} : Ok Try.prog 42 [dInts l, .int .i64 i] (.int .i64 (mAt l i)) := by
  refine Ok.ofT tfol Try.func42 tp42 (Nat.le_of_ble_eq_true rfl) ?_
  show TW _ _ tf42.body _ _
  refine R_seq fun K hK => ?_
  refine R_mov rfl ?_
  refine hK _ _ (TW_keep (keep_cons rfl (keep_cons rfl (keep_nil))) ?_)
  clear hK K
  refine T_seq ?_ -- 0
  refine R_seq fun K hK => ?_
  refine R_mov rfl ?_
  refine R_lt rfl rfl ?_
  refine R_mov rfl ?_
  refine G_split (g := 7) rfl (fun h1 => ?_) (fun h1 => ?_)
  · try rw [h1]
    try simp only [decide_eq_true_eq, decide_eq_false_iff_not, Bool.not_eq_eq_eq_not, Bool.not_true, Bool.not_false] at h1
    refine G_no rfl ?_
    refine G_no rfl ?_
    refine G_no rfl ?_
    refine G_no rfl ?_
    refine R_pick rfl rfl ?_
    refine hK _ _ (TW_keep (keep_cons rfl (keep_cons rfl (keep_cons rfl (keep_nil)))) ?_)
    clear hK K
    refine T_condT rfl ?_
    refine R_seq fun K hK => ?_
    refine R_mov rfl ?_
    refine hK _ _ (TW_keep (keep_cons rfl (keep_nil)) ?_)
    clear hK K
    refine T_ret ?_
    refine seqT_ret ?_
    refine post_retI rfl ?_
    simp_all [mAt]
  · try rw [h1]
    try simp only [decide_eq_true_eq, decide_eq_false_iff_not, Bool.not_eq_eq_eq_not, Bool.not_true, Bool.not_false] at h1
    refine G_yes rfl ?_
    refine R_mov rfl ?_
    refine G_yes rfl ?_
    refine R_mov rfl ?_
    refine G_yes rfl ?_
    refine R_len rfl rfl ?_
    refine G_yes rfl ?_
    refine R_ge rfl rfl ?_
    refine R_pick rfl rfl ?_
    refine hK _ _ (TW_keep (keep_cons rfl (keep_cons rfl (keep_cons rfl (keep_nil)))) ?_)
    clear hK K
    refine T_cond rfl (fun h2 => ?_) (fun h2 => ?_)
    · try rw [h2]
      try simp only [decide_eq_true_eq, decide_eq_false_iff_not, Bool.not_eq_eq_eq_not, Bool.not_true, Bool.not_false] at h2
      refine R_seq fun K hK => ?_
      refine R_mov rfl ?_
      refine hK _ _ (TW_keep (keep_cons rfl (keep_nil)) ?_)
      clear hK K
      refine T_ret ?_
      refine seqT_ret ?_
      refine post_retI rfl ?_
      simp_all [mAt]
    · try rw [h2]
      try simp only [decide_eq_true_eq, decide_eq_false_iff_not, Bool.not_eq_eq_eq_not, Bool.not_true, Bool.not_false] at h2
      refine T_skip ?_
      refine seqT_keep (keep_cons rfl (keep_cons rfl (keep_nil))) ?_
      refine R_seq fun K hK => ?_
      refine R_mov rfl ?_
      refine R_mov rfl ?_
      refine R_index rfl rfl rfl (by omega) (idx_mapI (by omega) (by have hm : (l.map fun x => [D.int .i64 x]).length = l.length := List.length_map _; omega)) rfl ?_
      refine R_load rfl rfl rfl ?_
      refine R_mov rfl ?_
      refine hK _ _ (TW_keep (keep_cons rfl (keep_nil)) ?_)
      clear hK K
      refine T_ret ?_
      refine post_retI rfl ?_
      exact (mAt_in (by omega) (by have hm : (l.map fun x => [D.int .i64 x]).length = l.length := List.length_map _; omega)).symm

theorem c_linchpinref1_Split {s : List UInt8} {c : Int} (hl : s.length ≤ 1000000) : Ok Try.prog 46 [.str s, .int .u8 c] (.sl (dStrs (mSplit s c))) := by
  refine Ok.ofT tfol Try.func46 tp46 (Nat.le_of_ble_eq_true rfl) ?_
  show TW _ _ tf46.body _ _
  refine R_seq fun K hK => ?_
  refine R_mov rfl ?_
  refine hK _ _ (TW_keep (keep_cons rfl (keep_cons rfl (keep_nil))) ?_)
  clear hK K
  refine R_seq fun K hK => ?_
  refine R_mov rfl ?_
  refine hK _ _ (TW_keep (keep_cons rfl (keep_cons rfl (keep_cons rfl (keep_nil)))) ?_)
  clear hK K
  refine R_seq fun K hK => ?_
  refine R_mov rfl ?_
  refine hK _ _ (TW_keep (keep_cons rfl (keep_cons rfl (keep_cons rfl (keep_cons rfl (keep_nil))))) ?_)
  clear hK K
  refine T_seq ?_ -- 0
  refine R_seq fun K hK => ?_
  refine R_mov rfl ?_
  refine hK _ _ (TW_keep (keep_cons rfl (keep_cons rfl (keep_cons rfl (keep_cons rfl (keep_cons rfl (keep_nil)))))) ?_)
  clear hK K
  refine T_block ?_
  refine T_loop (ι := Nat × Nat × List (List UInt8)) (fun ⟨i, k, acc⟩ => ⟨[(0, .str s), (1, .int .u8 c), (5, .osl 25 acc.length), (6, .int .i64 k), (7, .int .i64 i)], [(25, ⟨dStrs acc, 1, 9, true⟩)]⟩) (fun ⟨i, k, acc⟩ => SplitI s c i k acc) (fun ⟨i, k, acc⟩ => s.length - i) (0, 0, []) ?_ ?_ ?_
  · exact le_trans (le_emptyO 5 25 1 9 rfl rfl) (le_eq (l := [0, 1, 5, 6, 7]) (lH := [25]) (keep_cons rfl (keep_cons rfl (keep_cons rfl (keep_cons rfl (keep_cons rfl (keep_nil)))))) (keepH_cons rfl keepH_nil) rfl rfl rfl)
  · exact SplitI.zero
  intro ⟨i, k, acc⟩ hI
  have hI1 := hI.1
  have hI2 := hI.2.1
  have hI3 := hI.2.2.1
  try dsimp only
  refine T_seq ?_ -- 1
  refine R_seq fun K hK => ?_
  refine R_mov rfl ?_
  refine R_mov rfl ?_
  refine R_lenStr rfl ?_
  refine R_lt rfl rfl ?_
  refine hK _ _ (TW_keep (keep_cons rfl (keep_cons rfl (keep_cons rfl (keep_cons rfl (keep_cons rfl (keep_cons rfl (keep_nil))))))) ?_)
  clear hK K
  refine T_cond rfl (fun h1 => ?_) (fun h1 => ?_)
  · try rw [h1]
    try simp only [decide_eq_true_eq, decide_eq_false_iff_not, Bool.not_eq_eq_eq_not, Bool.not_true, Bool.not_false] at h1
    refine T_skip ?_
    refine seqT_keep (keep_cons rfl (keep_cons rfl (keep_cons rfl (keep_cons rfl (keep_cons rfl (keep_nil)))))) ?_
    refine T_seq ?_ -- 2
    refine T_block ?_
    refine R_seq fun K hK => ?_
    refine R_mov rfl ?_
    refine R_mov rfl ?_
    refine R_indexStr rfl rfl (by omega) (idx_at (by omega)) ?_
    refine R_mov rfl ?_
    refine R_eqI rfl rfl ?_
    refine hK _ _ (TW_keep (keep_cons rfl (keep_cons rfl (keep_cons rfl (keep_cons rfl (keep_cons rfl (keep_cons rfl (keep_nil))))))) ?_)
    clear hK K
    refine T_cond rfl (fun h2 => ?_) (fun h2 => ?_)
    · try rw [h2]
      try simp only [decide_eq_true_eq, decide_eq_false_iff_not, Bool.not_eq_eq_eq_not, Bool.not_true, Bool.not_false] at h2
      refine R_seq fun K hK => ?_
      refine R_mov rfl ?_
      refine R_mov rfl ?_
      refine R_mov rfl ?_
      refine R_mov rfl ?_
      refine R_sliceStr rfl rfl rfl (by omega) (by omega) (by omega) rfl ?_
      refine R_buildSlice rfl rfl ?_
      refine R_appO rfl rfl (fun _ h => srcK_O rfl rfl rfl h) rfl (by simp [dStrs]) rfl rfl rfl (by simp; omega) (by simp; omega) ?_
      refine R_mov rfl ?_
      refine hK _ _ (TW_keep (keep_cons rfl (keep_cons rfl (keep_cons rfl (keep_cons rfl (keep_nil))))) ?_)
      clear hK K
      refine R_last fun K hK => ?_
      refine R_mov rfl ?_
      refine R_add rfl rfl (by first | exact wrap_i64 (by omega) (by omega) | exact wrap_i32 (by omega) (by omega) | exact wrap_u8 (by omega) (by omega) | rfl) ?_
      refine R_mov rfl ?_
      refine hK _ ?_
      clear hK K
      refine block_normal ?_
      refine seqT_keep (keep_cons rfl (keep_cons rfl (keep_cons rfl (keep_cons rfl (keep_cons rfl (keep_nil)))))) ?_
      refine R_last fun K hK => ?_
      refine R_mov rfl ?_
      refine R_add rfl rfl (by first | exact wrap_i64 (by omega) (by omega) | exact wrap_i32 (by omega) (by omega) | exact wrap_u8 (by omega) (by omega) | rfl) ?_
      refine R_mov rfl ?_
      refine hK _ ?_
      clear hK K
      refine round_normal (i + 1, i + 1, acc ++ [(s.take i).drop k]) ?_ ?_ ?_
      · exact le_eq (l := [0, 1, 5, 6, 7]) (lH := [25]) (keep_cons rfl (keep_cons rfl (keep_cons rfl (keep_cons rfl (keep_cons rfl (keep_nil)))))) (keepH_cons rfl keepH_nil) (by simp [dStrs, D.scrub]) (by simp [dStrs, Box.scrub]) rfl
      · exact hI.hit (by omega) (by assumption)
      · show s.length - (i + 1) < s.length - i; omega
    · try rw [h2]
      try simp only [decide_eq_true_eq, decide_eq_false_iff_not, Bool.not_eq_eq_eq_not, Bool.not_true, Bool.not_false] at h2
      refine T_skip ?_
      refine block_normal ?_
      refine seqT_keep (keep_cons rfl (keep_cons rfl (keep_cons rfl (keep_cons rfl (keep_cons rfl (keep_nil)))))) ?_
      refine R_last fun K hK => ?_
      refine R_mov rfl ?_
      refine R_add rfl rfl (by first | exact wrap_i64 (by omega) (by omega) | exact wrap_i32 (by omega) (by omega) | exact wrap_u8 (by omega) (by omega) | rfl) ?_
      refine R_mov rfl ?_
      refine hK _ ?_
      clear hK K
      refine round_normal (i + 1, k, acc) ?_ ?_ ?_
      · exact le_eq (l := [0, 1, 5, 6, 7]) (lH := [25]) (keep_cons rfl (keep_cons rfl (keep_cons rfl (keep_cons rfl (keep_cons rfl (keep_nil)))))) (keepH_cons rfl keepH_nil) (by simp [dStrs, D.scrub]) (by simp [dStrs, Box.scrub]) rfl
      · exact hI.miss (by omega) (by assumption)
      · show s.length - (i + 1) < s.length - i; omega
  · try rw [h1]
    try simp only [decide_eq_true_eq, decide_eq_false_iff_not, Bool.not_eq_eq_eq_not, Bool.not_true, Bool.not_false] at h1
    refine T_exit ?_
    refine seqT_exit ?_
    refine round_exit ?_
    refine block_hit ?_
    refine seqT_keep (keep_cons rfl (keep_cons rfl (keep_cons rfl (keep_nil)))) ?_
    refine R_seq fun K hK => ?_
    refine R_mov rfl ?_
    refine R_mov rfl ?_
    refine R_mov rfl ?_
    refine R_sliceStr rfl rfl rfl (by omega) (by omega) (by omega) rfl ?_
    refine R_buildSlice rfl rfl ?_
    refine R_appO rfl rfl (fun _ h => srcK_O rfl rfl rfl h) rfl (by simp [dStrs]) rfl rfl rfl (by simp; omega) (by simp; omega) ?_
    refine R_mov rfl ?_
    refine hK _ _ (TW_keep (keep_cons rfl (keep_nil)) ?_)
    clear hK K
    refine T_ret ?_
    refine post_retD rfl ?_
    rw [hI.done (by omega)]; simp [argD, D.fz, D.fzS, allS, lk, D.can, D.canS, dStrs]

theorem c_ident_Split {s : List UInt8} {c : Int} (hl : s.length ≤ 1000000) : Ok Try.prog 32 [.str s, .int .u8 c] (.sl (dStrs (mSplit s c))) := by
  refine Ok.ofT tfol Try.func32 tp32 (Nat.le_of_ble_eq_true rfl) ?_
  show TW _ _ tf32.body _ _
  refine R_seq fun K hK => ?_
  refine R_mov rfl ?_
  refine hK _ _ (TW_keep (keep_cons rfl (keep_cons rfl (keep_nil))) ?_)
  clear hK K
  refine R_seq fun K hK => ?_
  refine R_mov rfl ?_
  refine hK _ _ (TW_keep (keep_cons rfl (keep_cons rfl (keep_cons rfl (keep_nil)))) ?_)
  clear hK K
  refine R_seq fun K hK => ?_
  refine R_mov rfl ?_
  refine hK _ _ (TW_keep (keep_cons rfl (keep_cons rfl (keep_cons rfl (keep_cons rfl (keep_nil))))) ?_)
  clear hK K
  refine T_seq ?_ -- 0
  refine R_seq fun K hK => ?_
  refine R_mov rfl ?_
  refine R_lenStr rfl ?_
  refine R_mov rfl ?_
  refine hK _ _ (TW_keep (keep_cons rfl (keep_cons rfl (keep_cons rfl (keep_cons rfl (keep_cons rfl (keep_cons rfl (keep_nil))))))) ?_)
  clear hK K
  refine T_block ?_
  refine T_loop (ι := Nat × Nat × List (List UInt8)) (fun ⟨i, k, acc⟩ => ⟨[(0, .str s), (1, .int .u8 c), (5, .osl 24 acc.length), (6, .int .i64 k), (9, .int .i64 s.length), (10, .int .i64 i)], [(24, ⟨dStrs acc, 1, 9, true⟩)]⟩) (fun ⟨i, k, acc⟩ => SplitI s c i k acc) (fun ⟨i, k, acc⟩ => s.length - i) (0, 0, []) ?_ ?_ ?_
  · exact le_trans (le_emptyO 5 24 1 9 rfl rfl) (le_eq (l := [0, 1, 5, 6, 9, 10]) (lH := [24]) (keep_cons rfl (keep_cons rfl (keep_cons rfl (keep_cons rfl (keep_cons rfl (keep_cons rfl (keep_nil))))))) (keepH_cons rfl keepH_nil) rfl rfl rfl)
  · exact SplitI.zero
  intro ⟨i, k, acc⟩ hI
  have hI1 := hI.1
  have hI2 := hI.2.1
  have hI3 := hI.2.2.1
  try dsimp only
  refine R_seq fun K hK => ?_
  refine R_lt rfl rfl ?_
  refine hK _ _ (TW_keep (keep_cons rfl (keep_cons rfl (keep_cons rfl (keep_cons rfl (keep_cons rfl (keep_cons rfl (keep_cons rfl (keep_nil)))))))) ?_)
  clear hK K
  refine T_seq ?_ -- 1
  refine T_cond rfl (fun h1 => ?_) (fun h1 => ?_)
  · try rw [h1]
    try simp only [decide_eq_true_eq, decide_eq_false_iff_not, Bool.not_eq_eq_eq_not, Bool.not_true, Bool.not_false] at h1
    refine T_skip ?_
    refine seqT_keep (keep_cons rfl (keep_cons rfl (keep_cons rfl (keep_cons rfl (keep_cons rfl (keep_cons rfl (keep_nil))))))) ?_
    refine T_seq ?_ -- 2
    refine T_block ?_
    refine R_seq fun K hK => ?_
    refine R_mov rfl ?_
    refine R_mov rfl ?_
    refine hK _ _ (TW_keep (keep_cons rfl (keep_cons rfl (keep_cons rfl (keep_cons rfl (keep_cons rfl (keep_cons rfl (keep_cons rfl (keep_nil)))))))) ?_)
    clear hK K
    refine R_seq fun K hK => ?_
    refine R_mov rfl ?_
    refine R_mov rfl ?_
    refine R_indexStr rfl rfl (by omega) (idx_at (by omega)) ?_
    refine R_mov rfl ?_
    refine R_eqI rfl rfl ?_
    refine hK _ _ (TW_keep (keep_cons rfl (keep_cons rfl (keep_cons rfl (keep_cons rfl (keep_cons rfl (keep_cons rfl (keep_cons rfl (keep_cons rfl (keep_nil))))))))) ?_)
    clear hK K
    refine T_cond rfl (fun h2 => ?_) (fun h2 => ?_)
    · try rw [h2]
      try simp only [decide_eq_true_eq, decide_eq_false_iff_not, Bool.not_eq_eq_eq_not, Bool.not_true, Bool.not_false] at h2
      refine R_seq fun K hK => ?_
      refine R_mov rfl ?_
      refine R_mov rfl ?_
      refine R_mov rfl ?_
      refine R_mov rfl ?_
      refine R_sliceStr rfl rfl rfl (by omega) (by omega) (by omega) rfl ?_
      refine R_buildSlice rfl rfl ?_
      refine R_appO rfl rfl (fun _ h => srcK_O rfl rfl rfl h) rfl (by simp [dStrs]) rfl rfl rfl (by simp; omega) (by simp; omega) ?_
      refine R_mov rfl ?_
      refine hK _ _ (TW_keep (keep_cons rfl (keep_cons rfl (keep_cons rfl (keep_cons rfl (keep_cons rfl (keep_cons rfl (keep_nil))))))) ?_)
      clear hK K
      refine R_last fun K hK => ?_
      refine R_mov rfl ?_
      refine R_add rfl rfl (by first | exact wrap_i64 (by omega) (by omega) | exact wrap_i32 (by omega) (by omega) | exact wrap_u8 (by omega) (by omega) | rfl) ?_
      refine R_mov rfl ?_
      refine hK _ ?_
      clear hK K
      refine block_normal ?_
      refine seqT_keep (keep_cons rfl (keep_cons rfl (keep_cons rfl (keep_cons rfl (keep_cons rfl (keep_cons rfl (keep_nil))))))) ?_
      refine R_last fun K hK => ?_
      refine R_add rfl rfl (by first | exact wrap_i64 (by omega) (by omega) | exact wrap_i32 (by omega) (by omega) | exact wrap_u8 (by omega) (by omega) | rfl) ?_
      refine R_mov rfl ?_
      refine hK _ ?_
      clear hK K
      refine round_normal (i + 1, i + 1, acc ++ [(s.take i).drop k]) ?_ ?_ ?_
      · exact le_eq (l := [0, 1, 5, 6, 9, 10]) (lH := [24]) (keep_cons rfl (keep_cons rfl (keep_cons rfl (keep_cons rfl (keep_cons rfl (keep_cons rfl (keep_nil))))))) (keepH_cons rfl keepH_nil) (by simp [dStrs, D.scrub]) (by simp [dStrs, Box.scrub]) rfl
      · exact hI.hit (by omega) (by assumption)
      · show s.length - (i + 1) < s.length - i; omega
    · try rw [h2]
      try simp only [decide_eq_true_eq, decide_eq_false_iff_not, Bool.not_eq_eq_eq_not, Bool.not_true, Bool.not_false] at h2
      refine T_skip ?_
      refine block_normal ?_
      refine seqT_keep (keep_cons rfl (keep_cons rfl (keep_cons rfl (keep_cons rfl (keep_cons rfl (keep_cons rfl (keep_nil))))))) ?_
      refine R_last fun K hK => ?_
      refine R_add rfl rfl (by first | exact wrap_i64 (by omega) (by omega) | exact wrap_i32 (by omega) (by omega) | exact wrap_u8 (by omega) (by omega) | rfl) ?_
      refine R_mov rfl ?_
      refine hK _ ?_
      clear hK K
      refine round_normal (i + 1, k, acc) ?_ ?_ ?_
      · exact le_eq (l := [0, 1, 5, 6, 9, 10]) (lH := [24]) (keep_cons rfl (keep_cons rfl (keep_cons rfl (keep_cons rfl (keep_cons rfl (keep_cons rfl (keep_nil))))))) (keepH_cons rfl keepH_nil) (by simp [dStrs, D.scrub]) (by simp [dStrs, Box.scrub]) rfl
      · exact hI.miss (by omega) (by assumption)
      · show s.length - (i + 1) < s.length - i; omega
  · try rw [h1]
    try simp only [decide_eq_true_eq, decide_eq_false_iff_not, Bool.not_eq_eq_eq_not, Bool.not_true, Bool.not_false] at h1
    refine T_exit ?_
    refine seqT_exit ?_
    refine round_exit ?_
    refine block_hit ?_
    refine seqT_keep (keep_cons rfl (keep_cons rfl (keep_cons rfl (keep_nil)))) ?_
    refine R_seq fun K hK => ?_
    refine R_mov rfl ?_
    refine R_mov rfl ?_
    refine R_mov rfl ?_
    refine R_sliceStr rfl rfl rfl (by omega) (by omega) (by omega) rfl ?_
    refine R_buildSlice rfl rfl ?_
    refine R_appO rfl rfl (fun _ h => srcK_O rfl rfl rfl h) rfl (by simp [dStrs]) rfl rfl rfl (by simp; omega) (by simp; omega) ?_
    refine R_mov rfl ?_
    refine hK _ _ (TW_keep (keep_cons rfl (keep_nil)) ?_)
    clear hK K
    refine T_ret ?_
    refine post_retD rfl ?_
    rw [hI.done (by omega)]; simp [argD, D.fz, D.fzS, allS, lk, D.can, D.canS, dStrs]

end Go.Proofs
