/-
  A range over a function: the iterator's word, the caller's rule; a function that holds such a loop.
-/
import Derived.Test.YtfnmioggkmkmcaaDoorTriQs
import Derived.RangeFuncLeaves
import Derived.RangeFuncRecord
namespace Go.Tri
open Go.RowKit

theorem St.self {w0 w : World} {I : Look} {H : List HA} (h : St w0 I H w) : St w I H w := { h with os := rfl, tape := rfl, output := rfl, size := Nat.le_refl _ }
class PickObj (b : Nat) (x : outParam Obj) (F : outParam (List HA)) (H : List HA) : Prop where
  pick : Pick H (obj b x) F
instance pickObj_head {b : Nat} {x : Obj} {F : List HA} : PickObj b x F (obj b x :: F) := ⟨pick_head⟩
instance (priority := low) pickObj_tail {b : Nat} {x : Obj} {y : HA} {F H : List HA} [h : PickObj b x F H] : PickObj b x (y :: F) (y :: H) := ⟨pick_tail h.pick⟩

theorem st_put {w0 w : World} {I : Look} {F : List HA} {b : Nat} {x y : Obj} (h : St w0 I (obj b x :: F) w) : St w0 I (obj b y :: F) (w.putObj b y) := by
  have hb : w.heap[b]? = some x := h.sat _ (List.mem_cons_self)
  refine h.turn rfl rfl rfl (by simp) (fun k _ hk => World.putObj_heap_other (fun e => hk (by rw [e]; rfl))) ?_ (.inl rfl)
  exact World.putObj_heap_same (lt_of_some hb)

/-- the loop behind l: handed vs, one round goes on, or says that it goes on no more -/
def Yields (P : Program) (l : Nat) {γ : Type} (Cd Cx : Nat → γ → Prop) (G : γ → List HA) (II : γ → Look) (xs : List (List Value)) : Prop :=
  ∀ (i : Nat) (vs : List Value) (g : γ), xs[i]? = some vs → Cd i g → ∀ (w0 : World) (F : List HA) (w : World), St w0 (II g) (F ++ G g) w →
    ∃ fn tmps assign body, (Instr.yield l vs.toArray).run P w = .ok (.round l fn tmps assign body) w ∧
      RoundIn (WF none) 0 P l fn tmps assign body w (fun e w' =>
        (e = .returned (.bool true) ∧ ∃ g', Cd (i + 1) g' ∧ Le (II g) (II g') ∧ St w0 (II g') (F ++ G g') w') ∨
        (e = .returned (.bool false) ∧ ∃ g', Cx (i + 1) g' ∧ Le (II g) (II g') ∧ St w0 (II g') (F ++ G g') w'))

/-- a function that hands on these, one by one -/
def Iterates (P : Program) (gf : FuncId) (lb : List Value) (xs : List (List Value)) (Pre : Look → Prop) : Prop :=
  ∀ (γ : Type) (Cd Cx : Nat → γ → Prop) (G : γ → List HA) (II : γ → Look) (l : Nat), Yields P l Cd Cx G II xs → ∀ (w0 : World) (g : γ) (F : List HA) (w : World), Cd 0 g → Pre (II g) → St w0 (II g) (F ++ G g) w →
    Calls P gf (.func (.yield l) #[] #[] :: lb).toArray w (fun e w' => ∃ v, e = .returned v ∧ ∃ g', (Cd xs.length g' ∨ ∃ i, i ≤ xs.length ∧ Cx i g') ∧ Le (II g) (II g') ∧ St w0 (II g') (F ++ G g') w')

class Tl (T : List HA) (F : outParam (List HA)) (M : outParam (List HA → List HA)) (H : List HA) : Prop where
  eq : H = F ++ T
  app : ∀ T', F ++ T' = M T'
instance tl_nil {T : List HA} : Tl T [] (fun T' => T') T := ⟨rfl, fun _ => rfl⟩
instance tl_app {T F : List HA} : Tl T F (fun T' => F ++ T') (F ++ T) := ⟨rfl, fun _ => rfl⟩
instance (priority := low) tl_cons {T F H : List HA} {M : List HA → List HA} {x : HA} [h : Tl T F M H] : Tl T (x :: F) (fun T' => x :: M T') (x :: H) := ⟨by rw [h.eq]; rfl, fun T' => by rw [List.cons_append, h.app]⟩

section iter
variable {C : Cx} {E : Env} {I : Look} {H : List HA} {D : List Deferred} {Q : Exit → Act → World → Prop} {o : Oper}

/-- a call of yield -/
theorem l_yield {ops : Array Oper} {rest : List Oper} {d l i : Nat} {γ : Type} {Cd Cx : Nat → γ → Prop} {G : γ → List HA} {II : γ → Look} {xs : List (List Value)} {vs : List Value} {y : Operand} {args : Array Operand} {ts : Array TypeId} {F : List HA} {M : List HA → List HA} (g : γ)
    (hwt : ∀ a : Act, Sat E C.n a.tmps → Region.wanted o (yielded ops a.tmps) = true) (hd : o.dst = some d) (hn : Nat.blt d C.n = true)
    (ho : o.op = .call { callee := .value y, args := args, argTypes := ts }) (hy : ev E y = some (.func (.yield l) #[] #[])) (he : evs E args.toList = some vs)
    (hY : Yields C.P l Cd Cx G II xs) (hi : xs[i]? = some vs) (hc : Cd i g) (hI : I = II g) [ht : Tl (G g) F M H]
    (kt : ∀ g', Cd (i + 1) g' → Le I (II g') → L C ops rest ((d, .bool true) :: E) (II g') (M (G g')) D Q)
    (kf : ∀ g', Cx (i + 1) g' → Le I (II g') → L C ops rest ((d, .bool false) :: E) (II g') (M (G g')) D Q) : L C ops (o :: rest) E I H D Q := by
  intro a w hs hda hw
  subst hI
  rw [ht.eq] at hw
  obtain ⟨fn, tmps, assign, body, hrun, hround⟩ := hY i vs g hi hc C.w0 F w hw
  refine wpListIn_step fun K hK => ?_
  rw [if_pos (hwt a hs)]
  have h1 : args.map a.eval = vs.toArray := by
    rw [← hs.evs he]; cases args; simp
  refine ⟨fun _ _ => trivial, ?_⟩
  rw [Oper.semAt_eq _ _ _ (fun c hc => by rw [ho] at hc; cases hc)]
  have hx : (execOp a.eval o).run C.P w = .ok (.round l fn tmps assign body) w := by
    simp only [execOp, ho, resolve, h1, hs.ev hy]
    simp [Deferred.ofValue, invoke, hrun]
  rw [hx]
  refine ⟨fun h => by simp at h, ?_⟩
  have hr : RoundIn (WF C.r) 0 C.P l fn tmps assign body w _ := hround
  refine hr.mono fun e w' he => ?_
  rcases he with ⟨rfl, g', h1, h2, h3⟩ | ⟨rfl, g', h1, h2, h3⟩
  · refine hK _ _ ?_
    rw [hd]
    exact kt g' h1 h2 _ _ (hs.put (by simpa using hn) _) (by simpa [Act.put] using hda) (ht.app (G g') ▸ h3)
  · refine hK _ _ ?_
    rw [hd]
    exact kf g' h1 h2 _ _ (hs.put (by simpa using hn) _) (by simpa [Act.put] using hda) (ht.app (G g') ▸ h3)

def bindE : List Nat → List Value → Env → Env
  | p :: ps, v :: vs, E => bindE ps vs ((p, v) :: E)
  | _, _, E => E

theorem sat_bind {n : Nat} : ∀ (ps : List Nat) (vs : List Value) (E : Env) (τ : Array Value), Sat E n τ → ps.all (Nat.blt · n) = true → Sat (bindE ps vs E) n ((ps.zip vs).foldl (fun t (x : Nat × Value) => t.setIfInBounds x.1 x.2) τ)
  | [], _, _, _, h, _ => by simpa [bindE] using h
  | _ :: _, [], _, _, h, _ => by simpa [bindE] using h
  | p :: ps, v :: vs, E, τ, h, hp => by
    simp only [List.all_cons, Bool.and_eq_true] at hp
    simp only [List.zip_cons_cons, List.foldl_cons, bindE]
    have := h.put (a := ⟨τ, []⟩) (by simpa using hp.1) v
    exact sat_bind ps vs _ _ this hp.2

/-- what follows the assignments of a round -/
def Begin (C : Cx) (l : Nat) (body : Code) (Rd : Exit → Act → World → Prop) (a₁ : Act) (w₁ : World) : Prop :=
  ∃ w₂, (Instr.beginRound l).run C.P w₁ = .ok () w₂ ∧ body.wpIn (WF (some l)) 0 C.P Rd a₁ w₂

theorem n_begin {l : Nat} {body : Code} {Rd Q' : Exit → Act → World → Prop} {rec : Loop} {F : List HA} (hr : C.r = some l) [hp : PickObj l (.loop rec) F H] (hs : rec.state = .ready)
    (h : T C body E I (obj l (.loop { rec with state := .busy }) :: F) D Rd) : N C .normal E I H D (Exit.then (Begin C l body Rd) Q') := by
  intro a w hsat hd hw
  have hw' := hw.perm hp.pick
  have hb : w.heap[l]? = some (.loop rec) := hw'.sat _ (List.mem_cons_self)
  have := h a _ hsat hd (st_put (y := .loop { rec with state := .busy }) hw')
  rw [hr] at this
  exact ⟨_, run_beginRound hb hs, this⟩

/-- the end of a round: it goes on -/
theorem n_rnext {l : Nat} {R : Ending → World → Prop} {rec : Loop} {F : List HA} [hp : PickObj l (.loop rec) F H]
    (h : ∀ w, St C.w0 I (obj l (.loop { rec with state := .ready, pending := none }) :: F) w → R (.returned (.bool true)) w) : N C .normal E I H D (roundPost C.P l R) := by
  intro a w _ _ hw
  have hw' := hw.perm hp.pick
  have hb : w.heap[l]? = some (.loop rec) := hw'.sat _ (List.mem_cons_self)
  exact ⟨_, _, run_endRound none hb, h _ (st_put hw')⟩
theorem n_rret {l : Nat} {R : Ending → World → Prop} {rec : Loop} {F : List HA} [hp : PickObj l (.loop rec) F H]
    (h : ∀ w, St C.w0 I (obj l (.loop { rec with state := .done, pending := some .ret }) :: F) w → R (.returned (.bool false)) w) : N C .ret E I H D (roundPost C.P l R) := by
  intro a w _ _ hw
  have hw' := hw.perm hp.pick
  have hb : w.heap[l]? = some (.loop rec) := hw'.sat _ (List.mem_cons_self)
  exact ⟨_, _, run_endRound (some .ret) hb, h _ (st_put hw')⟩
theorem n_rexit {l id : Nat} {R : Ending → World → Prop} {rec : Loop} {F : List HA} [hp : PickObj l (.loop rec) F H]
    (h : ∀ w, St C.w0 I (obj l (.loop { rec with state := .done, pending := some (.exit id) }) :: F) w → R (.returned (.bool false)) w) : N C (.exit id) E I H D (roundPost C.P l R) := by
  intro a w _ _ hw
  have hw' := hw.perm hp.pick
  have hb : w.heap[l]? = some (.loop rec) := hw'.sat _ (List.mem_cons_self)
  exact ⟨_, _, run_endRound (some (.exit id)) hb, h _ (st_put hw')⟩

/-- the record of a loop, but for its state -/
def recOf (fn : FuncId) (tmps : Array Value) (ps : Array Tmp) (assign body : Code) (bd : Nat) (s : LoopState) (p : Option Code) : Loop := { state := s, pending := p, fn, tmps, params := ps, assign, body, defers := bd }

/-- the caller: the rows of its own between two rounds are 'Hc g' (with what else there is behind) -/
theorem t_range {γ : Type} {g : Operand} {ps : List Nat} {assign body : Code} {gf : FuncId} {fng : Func} {lb : List Value} {xs : List (List Value)} {Pre : Look → Prop} (hit : Iterates C.P gf lb xs Pre) (hr : C.r = none)
    (hg : ev E g = some (.func (.func gf) #[] lb.toArray)) (hfn : C.P.funcs[gf]? = some fng) (hnm : (fng.name == "runtime.NumGoroutine") = false) (hbd : fng.body.isNone = false)
    (Inv : Nat → γ → Prop) (Ex : Code → γ → Prop) (F0 : List HA) (Hc : γ → List HA → List HA) (hHc : ∀ gg T, Hc gg T = Hc gg [] ++ T) (IIc : γ → Look) (E0 : Env) (hE0 : Sub E E0) (g0 : γ) (h0 : Inv 0 g0) (hpre : Pre (IIc g0)) (hI0 : Le I (IIc g0))
    (hh : ∀ w, St C.w0 I H w → St C.w0 (IIc g0) (Hc g0 F0) w) (hps : ps.all (Nat.blt · C.n) = true) (hvs : ∀ vs ∈ xs, vs.length = ps.length)
    (round : ∀ (bl : Nat) (ready busy done : Loop) (dfr : HA) (i : Nat) (vs : List Value) (gg : γ) (w0' : World) (F : List HA), xs[i]? = some vs → Inv i gg → ready.state = .ready → busy = { ready with state := .busy } →
      T ⟨C.P, some bl, C.n, w0'⟩ assign (bindE ps vs E0) (IIc gg) (Hc gg (obj bl (.loop ready) :: dfr :: F)) []
        (Exit.then (Begin ⟨C.P, some bl, C.n, w0'⟩ bl body (roundPost C.P bl fun e w' =>
          (e = .returned (.bool true) ∧ ∃ g', Inv (i + 1) g' ∧ Le (IIc gg) (IIc g') ∧ St w0' (IIc g') (Hc g' (obj bl (.loop { ready with state := .ready, pending := none }) :: dfr :: F)) w') ∨
          (e = .returned (.bool false) ∧ ∃ c g', Ex c g' ∧ Le (IIc gg) (IIc g') ∧ St w0' (IIc g') (Hc g' (obj bl (.loop { ready with state := .done, pending := some c }) :: dfr :: F)) w'))) (fun _ _ _ => False)))
    (kdone : ∀ bd gg, Inv xs.length gg → Le I (IIc gg) → N C .normal E (IIc gg) (Hc gg (obj bd (.deferred (some [])) :: F0)) ({ target := .collected bd, args := #[] } :: D) Q)
    (kstop : ∀ bd c gg, Ex c gg → Le I (IIc gg) → T C c E (IIc gg) (Hc gg (obj bd (.deferred (some [])) :: F0)) ({ target := .collected bd, args := #[] } :: D) Q) :
    T C (.rangeFunc g ps.toArray assign body) E I H D Q := by
  intro a w hs hd hw
  refine wpIn_rangeFunc ?_
  intro fn hfn'
  rw [WF_round, hr]
  obtain ⟨W1, hW1⟩ : ∃ W1, (w.alloc (.deferred (some []))).alloc (.loop (recOf fn a.tmps ps.toArray assign body w.heap.size .ready none)) = W1 := ⟨_, rfl⟩
  have hw1 : St C.w0 (IIc g0) (Hc g0 [] ++ (obj (w.heap.size + 1) (.loop (recOf fn a.tmps ps.toArray assign body w.heap.size .ready none)) :: obj w.heap.size (.deferred (some [])) :: F0)) W1 := by
    have h1 := ((hh w hw).new (.deferred (some []))).new (.loop (recOf fn a.tmps ps.toArray assign body w.heap.size .ready none))
    rw [World.size_alloc, hW1, hHc g0 F0] at h1
    refine h1.perm ?_
    refine (List.perm_append_comm (l₁ := [obj (w.heap.size + 1) (.loop (recOf fn a.tmps ps.toArray assign body w.heap.size .ready none)), obj w.heap.size (.deferred (some []))]) (l₂ := Hc g0 [] ++ F0)).trans ?_
    rw [List.append_assoc]
    exact List.Perm.append_left _ List.perm_append_comm
  refine ⟨w.heap.size + 1, [{ target := .collected w.heap.size, args := #[] }], W1, { target := .fn (.func gf) lb.toArray, args := #[.func (.yield (w.heap.size + 1)) #[] #[]] }, W1, gf,
    (.func (.yield (w.heap.size + 1)) #[] #[] :: lb).toArray, W1, ?_, ?_, fun _ _ => trivial, ?_, fun h => by simp at h, ?_⟩
  · rw [← hW1]; exact run_enterLoop_outer _ _ _ _ _
  · simp only [resolve, hs.ev hg]
    simp [Deferred.ofValue, Act.eval]
  · simp [invoke, call_of hfn hnm hbd]
  · -- the iterator's word, at the caller's own ghost with the record beside it
    let recS : LoopState → Option Code → Loop := recOf fn a.tmps ps.toArray assign body w.heap.size
    let Cd : Nat → γ × Loop → Prop := fun i p => Inv i p.1 ∧ p.2 = recS .ready none
    let Cx : Nat → γ × Loop → Prop := fun _ p => ∃ c, Ex c p.1 ∧ p.2 = recS .done (some c)
    let G : γ × Loop → List HA := fun p => Hc p.1 [] ++ (obj (w.heap.size + 1) (.loop p.2) :: obj w.heap.size (.deferred (some [])) :: F0)
    let II : γ × Loop → Look := fun p => IIc p.1
    have hperm : ∀ (F : List HA) (p : γ × Loop), (F ++ G p).Perm (Hc p.1 (obj (w.heap.size + 1) (.loop p.2) :: obj w.heap.size (.deferred (some [])) :: (F0 ++ F))) := fun F p => by
      rw [hHc p.1 (_ :: _)]
      refine (List.perm_append_comm (l₁ := F)).trans ?_
      show ((Hc p.1 [] ++ (obj (w.heap.size + 1) (.loop p.2) :: obj w.heap.size (.deferred (some [])) :: F0)) ++ F).Perm _
      rw [List.append_assoc]
      exact List.Perm.refl _
    have hY : Yields C.P (w.heap.size + 1) Cd Cx G II xs := by
      intro i vs p hi hc w0' F w2 hw2
      obtain ⟨gg, rec⟩ := p
      obtain ⟨hinv, hrec⟩ := hc
      simp only at hinv hrec
      subst hrec
      have hw3 := hw2.perm (hperm F (gg, recS .ready none))
      have hl : w2.heap[w.heap.size + 1]? = some (.loop (recS .ready none)) := hw3.sat (obj (w.heap.size + 1) (.loop (recS .ready none))) (by rw [hHc]; exact List.mem_append_right _ (List.mem_cons_self))
      have hlen : vs.toArray.size = (recS .ready none).params.size := by
        show vs.toArray.size = ps.toArray.size
        simpa using hvs vs (List.mem_of_getElem? hi)
      refine ⟨_, _, _, _, run_yield hl hlen, ?_⟩
      refine roundIn_of_wpIn (F := WF none) trivial ?_
      have hsat : Sat (bindE ps vs E0) C.n (((recS .ready none).params.zip vs.toArray).foldl (fun t (x : Nat × Value) => t.setIfInBounds x.1 x.2) (recS .ready none).tmps) := by
        have := sat_bind ps vs E0 a.tmps (hs.sub hE0) hps
        show Sat _ _ ((ps.toArray.zip vs.toArray).foldl _ a.tmps)
        rw [← Array.foldl_toList]
        simpa using this
      have hround := round (w.heap.size + 1) (recS .ready none) (recS .busy none) (recS .done none) (obj w.heap.size (.deferred (some []))) i vs gg w0' (F0 ++ F) hi hinv rfl rfl
        ⟨_, []⟩ w2 hsat rfl hw3
      refine wpIn_mono hround ?_
      rintro e a3 w3 hq
      cases e with
      | normal =>
        obtain ⟨w4, hb1, hb2⟩ := hq
        refine ⟨w4, hb1, wpIn_mono hb2 ?_⟩
        have conv : ∀ e w', ((e = Ending.returned (.bool true) ∧ ∃ g', Inv (i + 1) g' ∧ Le (IIc gg) (IIc g') ∧ St w0' (IIc g') (Hc g' (obj (w.heap.size + 1) (.loop { recS .ready none with state := .ready, pending := none }) :: obj w.heap.size (.deferred (some [])) :: (F0 ++ F))) w') ∨
          (e = .returned (.bool false) ∧ ∃ c g', Ex c g' ∧ Le (IIc gg) (IIc g') ∧ St w0' (IIc g') (Hc g' (obj (w.heap.size + 1) (.loop { recS .ready none with state := .done, pending := some c }) :: obj w.heap.size (.deferred (some [])) :: (F0 ++ F))) w')) →
          ((e = .returned (.bool true) ∧ ∃ g', Cd (i + 1) g' ∧ Le (II (gg, recS .ready none)) (II g') ∧ St w0' (II g') (F ++ G g') w') ∨
          (e = .returned (.bool false) ∧ ∃ g', Cx (i + 1) g' ∧ Le (II (gg, recS .ready none)) (II g') ∧ St w0' (II g') (F ++ G g') w')) := by
          intro e w' h
          rcases h with ⟨rfl, g', h1, h2, h3⟩ | ⟨rfl, c, g', h1, h2, h3⟩
          · exact .inl ⟨rfl, (g', recS .ready none), ⟨h1, rfl⟩, h2, h3.perm (hperm F (g', recS .ready none)).symm⟩
          · exact .inr ⟨rfl, (g', recS .done (some c)), ⟨c, h1, rfl⟩, h2, h3.perm (hperm F (g', recS .done (some c))).symm⟩
        rintro e a5 w5 hp
        cases e <;> simp only [roundPost] at hp ⊢ <;> first | (obtain ⟨v, w6, h1, h2⟩ := hp; exact ⟨v, w6, h1, conv _ _ h2⟩) | exact hp
      | exit id => exact hq
      | goto t => exact hq
      | ret => exact hq
      | panic c => exact hq
      | outgrown => exact hq
    have hcall := hit (γ × Loop) Cd Cx G II (w.heap.size + 1) hY C.w0 (g0, recS .ready none) [] W1 ⟨h0, rfl⟩ hpre hw1
    have hcall' : CallsIn (WF none) 0 C.P gf (.func (.yield (w.heap.size + 1)) #[] #[] :: lb).toArray W1 _ := callsIn_wide.2 hcall
    have hcall2 : CallsIn (WF C.r) 0 C.P gf (.func (.yield (w.heap.size + 1)) #[] #[] :: lb).toArray W1 _ := hcall'
    refine hcall2.mono ?_
    rintro e w' ⟨v, rfl, ⟨gg, rec⟩, hor, hle, hw'⟩
    have hw'' : St C.w0 (IIc gg) (obj (w.heap.size + 1) (.loop rec) :: obj w.heap.size (.deferred (some [])) :: (F0 ++ Hc gg [])) w' := by
      refine hw'.perm ?_
      exact List.perm_append_comm (l₁ := Hc gg [])
    have hl : w'.heap[w.heap.size + 1]? = some (.loop rec) := hw''.sat _ (List.mem_cons_self)
    have hrest : ∀ y, St C.w0 (IIc gg) (Hc gg (obj w.heap.size (.deferred (some [])) :: F0)) (w'.putObj (w.heap.size + 1) y) := fun y => by
      have := (st_put (y := y) hw'').tail
      refine this.perm ?_
      rw [hHc gg (_ :: _)]
      exact List.perm_append_comm (l₁ := obj w.heap.size (.deferred (some [])) :: F0)
    rcases hor with ⟨hinv, hrec⟩ | ⟨i, _, c, hex, hrec⟩
    · simp only at hinv hrec
      subst hrec
      refine ⟨none, _, run_endLoop hl (show LoopState.ready ≠ LoopState.busy by decide), ?_⟩
      exact kdone w.heap.size gg hinv (hI0.trans hle) { a with defers := [{ target := .collected w.heap.size, args := #[] }] ++ a.defers } _ hs (by rw [← hd]; rfl) (hrest _)
    · simp only at hex hrec
      subst hrec
      refine ⟨some c, _, run_endLoop hl (show LoopState.done ≠ LoopState.busy by decide), ?_⟩
      have hk := kstop w.heap.size c gg hex (hI0.trans hle) { a with defers := [{ target := .collected w.heap.size, args := #[] }] ++ a.defers }
      simp only [hr] at hk
      exact hk _ hs (by rw [← hd]; rfl) (hrest _)
end iter

/-! ### a function that holds such a loop -/
theorem enterM {P : Program} {f : FuncId} {fn : Func} {c : Code} {args : List Value} {R : Ending → World → Prop} {n : Nat} {w : World} {I : Look} {H : List HA}
    (hf : P.funcs[f]? = some fn) (hb : fn.body = some c) (hn : fn.ntmps = n) (ha : Nat.ble args.length n = true) (hst : St w I H w)
    (h : T ⟨P, none, n, w⟩ c (zipE 0 args) I H [] (bodyPostM (WF none) 0 P fn R)) : Calls P f args.toArray w R := by
  have hal : args.length ≤ n := by simpa using ha
  refine callsIn_wide (n := 0).1 (callsIn_of_wp_marks hf hb trivial ?_)
  refine h _ w ⟨by simp [hn, hal], fun k v hk => ?_⟩ rfl hst
  obtain ⟨_, h2⟩ := get_zipE args 0 k v hk
  have hlt : k < args.length := by
    have := (List.getElem?_eq_some_iff.1 h2).1
    omega
  show (args.toArray ++ Array.replicate (fn.ntmps - args.toArray.size) undef)[k]? = some v
  rw [Array.getElem?_append_left (by simpa using hlt)]
  simpa using h2

section ret
variable {C : Cx} {E : Env} {I : Look} {H : List HA} {R : Ending → World → Prop} {fn : Func}
def marks (bs : List Nat) : List Deferred := bs.map fun b => { target := .collected b, args := #[] }

theorem leaves_marks {P : Program} {tmps : Array Value} {w0 : World} {v : Value} (hr : ∀ w, (results fn tmps).run P w = .ok v w) : ∀ (bs : List Nat) (F : List HA) (w : World), St w0 I (bs.map (fun b => obj b (.deferred (some []))) ++ F) w →
    (∀ w, St w0 I F w → R (.returned v) w) → LeavesInM (WF none) 0 P fn tmps R (marks bs) .returning w
  | [], _, w, hw, k => ⟨v, hr w, k w hw⟩
  | b :: bs, F, w, hw, k => by
    refine ⟨(by intro h; cases h), .inl ⟨b, w.putObj b (.deferred none), rfl, ?_, ?_⟩⟩
    · exact run_takeDeferred (hw.sat (obj b (.deferred (some []))) (List.mem_cons_self))
    · exact leaves_marks hr bs F _ (st_put (y := .deferred none) hw).tail k

class PickDs (bs : List Nat) (F : outParam (List HA)) (H : List HA) : Prop where
  sub : SubH H (bs.map (fun b => obj b (.deferred (some []))) ++ F)
instance pickDs_nil {H : List HA} : PickDs [] H H := ⟨subH_refl H⟩
instance pickDs_cons {b : Nat} {bs : List Nat} {F F' H : List HA} [p : PickI (obj b (.deferred (some []))) F' H] [h : PickDs bs F F'] : PickDs (b :: bs) F H := ⟨subH_cons p.pick h.sub⟩

theorem n_retM {bs : List Nat} {F : List HA} {v : Value} {e : Exit} (he : e = .ret ∨ e = .normal) [hp : PickDs bs F H] (hr : ∀ τ w, Sat E C.n τ → (results fn τ).run C.P w = .ok v w) (k : ∀ w, St C.w0 I F w → R (.returned v) w) : N C e E I H (marks bs) (bodyPostM (WF none) 0 C.P fn R) := by
  intro a w hs hd hw
  have := leaves_marks (P := C.P) (tmps := a.tmps) (fn := fn) (R := R) (fun w => hr a.tmps w hs) bs F w (hw.sub hp.sub) k
  rcases he with rfl | rfl
  · show LeavesInM _ _ _ _ _ _ a.defers .returning w
    rw [hd]; exact this
  · show LeavesInM _ _ _ _ _ _ a.defers .returning w
    rw [hd]; exact this
theorem n_ret1M {bs : List Nat} {F : List HA} {t : Nat} {v : Value} (hr : fn.results = #[.tmp t]) (hv : get E t = some v) [hp : PickDs bs F H] (k : ∀ w, St C.w0 I F w → R (.returned v) w) : N C .ret E I H (marks bs) (bodyPostM (WF none) 0 C.P fn R) :=
  n_retM (.inl rfl) (fun τ w hs => by rw [results_tmp hr]; simp [hs.2 t v hv]) k
theorem n_ret2M {bs : List Nat} {F : List HA} {t u : Nat} {v x : Value} (hr : fn.results = #[.tmp t, .tmp u]) (hv : get E t = some v) (hx : get E u = some x) [hp : PickDs bs F H] (k : ∀ w, St C.w0 I F w → R (.returned (.tuple #[v, x])) w) : N C .ret E I H (marks bs) (bodyPostM (WF none) 0 C.P fn R) :=
  n_retM (.inl rfl) (fun τ w hs => by rw [results_tmp2 hr]; simp [hs.2 t v hv, hs.2 u x hx]) k
end ret
end Go.Tri
