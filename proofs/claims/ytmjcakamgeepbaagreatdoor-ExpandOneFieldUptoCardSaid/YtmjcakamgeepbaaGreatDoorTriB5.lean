/-
 A range over a function: the iterator's word, the caller's rule; a function that holds such a loop.
-/
import Derived.Test.YtmjcakamgeepbaaGreatDoorTriQs
import Derived.RangeFuncLeaves
import Derived.RangeFuncRecord
import Derived.Laws.StructEq
import Derived.Laws.IdiomStrings
import Derived.Lib.Bytealg
import Derived.Lib.UnsafeStr
import Derived.Lib.Builder
import Derived.Laws.Pointers
import Derived.LaidEqlPtr
import Derived.Laws.Slices
import Derived.Deep.Upon
import Derived.Lib.ConvBytes
import Derived.Lib.AppendStr
namespace Go.Tri
open Go.RowKit

theorem St.self {w0 w : World} {I : Look} {H : List HA} (h : St w0 I H w) : St w I H w := { h with os := rfl, tape := rfl, output := rfl, size := Nat.le_refl _ }
class PickObj (b : Nat) (x : outParam Obj) (F : outParam (List HA)) (H : List HA) : Prop where
 pick : Pick H (obj b x) F
instance pickObj_head {b : Nat} {x : Obj} {F : List HA} : PickObj b x F (obj b x :: F) := ⟨pick_head⟩
instance (priority := low) pickObj_tail {b : Nat} {x : Obj} {y : HA} {F H : List HA} [h : PickObj b x F H] : PickObj b x (y :: F) (y :: H) := ⟨pick_tail h.pick⟩

theorem st_put {w0 w : World} {I : Look} {F : List HA} {b : Nat} {x y : Obj} (h : St w0 I (obj b x :: F) w) : St w0 I (obj b y :: F) (w.putObj b y) := by
 have hb : w.heap[b]? = some x := h.sat _ (List.mem_cons_self)
 refine h.turn rfl rfl rfl (by simp) (fun k _ hk => World.putObj_heap_other (fun e => hk (by rw [e]; rfl))) ?_ (.inl rfl)
 exact World.putObj_heap_same (lt_of_some hb)

/-- the loop behind l: handed vs, one round goes on, or says that it goes on no more -/
def Yields (P : Program) (l : Nat) {γ : Type} (Cd Cx : Nat → γ → Prop) (G : γ → List HA) (II : γ → Look) (xs : List (List Value)) : Prop :=
 ∀ (i : Nat) (vs : List Value) (g : γ), xs[i]? = some vs → Cd i g → ∀ (w0 : World) (F : List HA) (w : World), St w0 (II g) (F ++ G g) w →
  ∃ fn tmps assign body, (Instr.yield l vs.toArray).run P w = .ok (.round l fn tmps assign body) w ∧
   RoundIn (WF none) 0 P l fn tmps assign body w (fun e w' =>
    (e = .returned (.bool true) ∧ ∃ g', Cd (i + 1) g' ∧ Le (II g) (II g') ∧ St w0 (II g') (F ++ G g') w') ∨
    (e = .returned (.bool false) ∧ ∃ g', Cx (i + 1) g' ∧ Le (II g) (II g') ∧ St w0 (II g') (F ++ G g') w'))

/-- a function that hands on these, one by one -/
def Iterates (P : Program) (gf : FuncId) (lb : List Value) (xs : List (List Value)) (Pre : Look → Prop) : Prop :=
 ∀ (γ : Type) (Cd Cx : Nat → γ → Prop) (G : γ → List HA) (II : γ → Look) (l : Nat), Yields P l Cd Cx G II xs → ∀ (w0 : World) (g : γ) (F : List HA) (w : World), Cd 0 g → Pre (II g) → St w0 (II g) (F ++ G g) w →
  Calls P gf (.func (.yield l) #[] #[] :: lb).toArray w (fun e w' => ∃ v, e = .returned v ∧ ∃ g', (Cd xs.length g' ∨ ∃ i, i ≤ xs.length ∧ Cx i g') ∧ Le (II g) (II g') ∧ St w0 (II g') (F ++ G g') w')

class Tl (T : List HA) (F : outParam (List HA)) (M : outParam (List HA → List HA)) (H : List HA) : Prop where
 eq : H = F ++ T
 app : ∀ T', F ++ T' = M T'
instance tl_nil {T : List HA} : Tl T [] (fun T' => T') T := ⟨rfl, fun _ => rfl⟩
instance tl_app {T F : List HA} : Tl T F (fun T' => F ++ T') (F ++ T) := ⟨rfl, fun _ => rfl⟩
instance (priority := low) tl_cons {T F H : List HA} {M : List HA → List HA} {x : HA} [h : Tl T F M H] : Tl T (x :: F) (fun T' => x :: M T') (x :: H) := ⟨by rw [h.eq]; rfl, fun T' => by rw [List.cons_append, h.app]⟩

section iter
variable {C : Cx} {E : Env} {I : Look} {H : List HA} {D : List Deferred} {Q : Exit → Act → World → Prop} {o : Oper}

/-- a call of yield -/
theorem l_yield {ops : Array Oper} {rest : List Oper} {d l i : Nat} {γ : Type} {Cd Cx : Nat → γ → Prop} {G : γ → List HA} {II : γ → Look} {xs : List (List Value)} {vs : List Value} {y : Operand} {args : Array Operand} {ts : Array TypeId} {F : List HA} {M : List HA → List HA} (g : γ)
  (hwt : ∀ a : Act, Sat E C.n a.tmps → Region.wanted o (yielded ops a.tmps) = true) (hd : o.dst = some d) (hn : Nat.blt d C.n = true)
  (ho : o.op = .call { callee := .value y, args := args, argTypes := ts }) (hy : ev E y = some (.func (.yield l) #[] #[])) (he : evs E args.toList = some vs)
  (hY : Yields C.P l Cd Cx G II xs) (hi : xs[i]? = some vs) (hc : Cd i g) (hI : I = II g) [ht : Tl (G g) F M H]
  (kt : ∀ g', Cd (i + 1) g' → Le I (II g') → L C ops rest ((d, .bool true) :: E) (II g') (M (G g')) D Q)
  (kf : ∀ g', Cx (i + 1) g' → Le I (II g') → L C ops rest ((d, .bool false) :: E) (II g') (M (G g')) D Q) : L C ops (o :: rest) E I H D Q := by
 intro a w hs hda hw
 subst hI
 rw [ht.eq] at hw
 obtain ⟨fn, tmps, assign, body, hrun, hround⟩ := hY i vs g hi hc C.w0 F w hw
 refine wpListIn_step fun K hK => ?_
 rw [if_pos (hwt a hs)]
 have h1 : args.map a.eval = vs.toArray := by
  rw [← hs.evs he]; cases args; simp
 refine ⟨fun _ _ => trivial, ?_⟩
 rw [Oper.semAt_eq _ _ _ (fun c hc => by rw [ho] at hc; cases hc)]
 have hx : (execOp a.eval o).run C.P w = .ok (.round l fn tmps assign body) w := by
  simp only [execOp, ho, resolve, h1, hs.ev hy]
  simp [Deferred.ofValue, invoke, hrun]
 rw [hx]
 refine ⟨fun h => by simp at h, ?_⟩
 have hr : RoundIn (WF C.r) 0 C.P l fn tmps assign body w _ := hround
 refine hr.mono fun e w' he => ?_
 rcases he with ⟨rfl, g', h1, h2, h3⟩ | ⟨rfl, g', h1, h2, h3⟩
 ·refine hK _ _ ?_
  rw [hd]
  exact kt g' h1 h2 _ _ (hs.put (by simpa using hn) _) (by simpa [Act.put] using hda) (ht.app (G g') ▸ h3)
 ·refine hK _ _ ?_
  rw [hd]
  exact kf g' h1 h2 _ _ (hs.put (by simpa using hn) _) (by simpa [Act.put] using hda) (ht.app (G g') ▸ h3)

def bindE : List Nat → List Value → Env → Env
 | p :: ps, v :: vs, E => bindE ps vs ((p, v) :: E)
 | _, _, E => E

theorem sat_bind {n : Nat} : ∀ (ps : List Nat) (vs : List Value) (E : Env) (τ : Array Value), Sat E n τ → ps.all (Nat.blt · n) = true → Sat (bindE ps vs E) n ((ps.zip vs).foldl (fun t (x : Nat × Value) => t.setIfInBounds x.1 x.2) τ)
 | [], _, _, _, h, _ => by simpa [bindE] using h
 | _ :: _, [], _, _, h, _ => by simpa [bindE] using h
 | p :: ps, v :: vs, E, τ, h, hp => by
  simp only [List.all_cons, Bool.and_eq_true] at hp
  simp only [List.zip_cons_cons, List.foldl_cons, bindE]
  have := h.put (a := ⟨τ, []⟩) (by simpa using hp.1) v
  exact sat_bind ps vs _ _ this hp.2

/-- what follows the assignments of a round -/
def Begin (C : Cx) (l : Nat) (body : Code) (Rd : Exit → Act → World → Prop) (a₁ : Act) (w₁ : World) : Prop :=
 ∃ w₂, (Instr.beginRound l).run C.P w₁ = .ok () w₂ ∧ body.wpIn (WF (some l)) 0 C.P Rd a₁ w₂

theorem n_begin {l : Nat} {body : Code} {Rd Q' : Exit → Act → World → Prop} {rec : Loop} {F : List HA} (hr : C.r = some l) [hp : PickObj l (.loop rec) F H] (hs : rec.state = .ready)
  (h : T C body E I (obj l (.loop { rec with state := .busy }) :: F) D Rd) : N C .normal E I H D (Exit.then (Begin C l body Rd) Q') := by
 intro a w hsat hd hw
 have hw' := hw.perm hp.pick
 have hb : w.heap[l]? = some (.loop rec) := hw'.sat _ (List.mem_cons_self)
 have := h a _ hsat hd (st_put (y := .loop { rec with state := .busy }) hw')
 rw [hr] at this
 exact ⟨_, run_beginRound hb hs, this⟩

/-- the end of a round: it goes on -/
theorem n_rnext {l : Nat} {R : Ending → World → Prop} {rec : Loop} {F : List HA} [hp : PickObj l (.loop rec) F H]
  (h : ∀ w, St C.w0 I (obj l (.loop { rec with state := .ready, pending := none }) :: F) w → R (.returned (.bool true)) w) : N C .normal E I H D (roundPost C.P l R) := by
 intro a w _ _ hw
 have hw' := hw.perm hp.pick
 have hb : w.heap[l]? = some (.loop rec) := hw'.sat _ (List.mem_cons_self)
 exact ⟨_, _, run_endRound none hb, h _ (st_put hw')⟩
theorem n_rret {l : Nat} {R : Ending → World → Prop} {rec : Loop} {F : List HA} [hp : PickObj l (.loop rec) F H]
  (h : ∀ w, St C.w0 I (obj l (.loop { rec with state := .done, pending := some .ret }) :: F) w → R (.returned (.bool false)) w) : N C .ret E I H D (roundPost C.P l R) := by
 intro a w _ _ hw
 have hw' := hw.perm hp.pick
 have hb : w.heap[l]? = some (.loop rec) := hw'.sat _ (List.mem_cons_self)
 exact ⟨_, _, run_endRound (some .ret) hb, h _ (st_put hw')⟩
/-- the record of a loop, but for its state -/
def recOf (fn : FuncId) (tmps : Array Value) (ps : Array Tmp) (assign body : Code) (bd : Nat) (s : LoopState) (p : Option Code) : Loop := { state := s, pending := p, fn, tmps, params := ps, assign, body, defers := bd }

/-- the caller: the rows of its own between two rounds are 'Hc g' (with what else there is behind) -/
theorem t_range {γ : Type} {g : Operand} {ps : List Nat} {assign body : Code} {gf : FuncId} {fng : Func} {lb : List Value} {xs : List (List Value)} {Pre : Look → Prop} (hit : Iterates C.P gf lb xs Pre) (hr : C.r = none)
  (hg : ev E g = some (.func (.func gf) #[] lb.toArray)) (hfn : C.P.funcs[gf]? = some fng) (hnm : (fng.name == "runtime.NumGoroutine") = false) (hbd : fng.body.isNone = false)
  (Inv : Nat → γ → Prop) (Ex : Code → γ → Prop) (F0 : List HA) (Hc : γ → List HA → List HA) (hHc : ∀ gg T, Hc gg T = Hc gg [] ++ T) (IIc : γ → Look) (E0 : Env) (hE0 : Sub E E0) (g0 : γ) (h0 : Inv 0 g0) (hpre : Pre (IIc g0)) (hI0 : Le I (IIc g0))
  (hh : ∀ w, St C.w0 I H w → St C.w0 (IIc g0) (Hc g0 F0) w) (hps : ps.all (Nat.blt · C.n) = true) (hvs : ∀ vs ∈ xs, vs.length = ps.length)
  (round : ∀ (bl : Nat) (ready busy done : Loop) (dfr : HA) (i : Nat) (vs : List Value) (gg : γ) (w0' : World) (F : List HA), xs[i]? = some vs → Inv i gg → ready.state = .ready → busy = { ready with state := .busy } →
   T ⟨C.P, some bl, C.n, w0'⟩ assign (bindE ps vs E0) (IIc gg) (Hc gg (obj bl (.loop ready) :: dfr :: F)) []
    (Exit.then (Begin ⟨C.P, some bl, C.n, w0'⟩ bl body (roundPost C.P bl fun e w' =>
     (e = .returned (.bool true) ∧ ∃ g', Inv (i + 1) g' ∧ Le (IIc gg) (IIc g') ∧ St w0' (IIc g') (Hc g' (obj bl (.loop { ready with state := .ready, pending := none }) :: dfr :: F)) w') ∨
     (e = .returned (.bool false) ∧ ∃ c g', Ex c g' ∧ Le (IIc gg) (IIc g') ∧ St w0' (IIc g') (Hc g' (obj bl (.loop { ready with state := .done, pending := some c }) :: dfr :: F)) w'))) (fun _ _ _ => False)))
  (kdone : ∀ bd gg, Inv xs.length gg → Le I (IIc gg) → N C .normal E (IIc gg) (Hc gg (obj bd (.deferred (some [])) :: F0)) ({ target := .collected bd, args := #[] } :: D) Q)
  (kstop : ∀ bd c gg, Ex c gg → Le I (IIc gg) → T C c E (IIc gg) (Hc gg (obj bd (.deferred (some [])) :: F0)) ({ target := .collected bd, args := #[] } :: D) Q) :
  T C (.rangeFunc g ps.toArray assign body) E I H D Q := by
 intro a w hs hd hw
 refine wpIn_rangeFunc ?_
 intro fn hfn'
 rw [WF_round, hr]
 obtain ⟨W1, hW1⟩ : ∃ W1, (w.alloc (.deferred (some []))).alloc (.loop (recOf fn a.tmps ps.toArray assign body w.heap.size .ready none)) = W1 := ⟨_, rfl⟩
 have hw1 : St C.w0 (IIc g0) (Hc g0 [] ++ (obj (w.heap.size + 1) (.loop (recOf fn a.tmps ps.toArray assign body w.heap.size .ready none)) :: obj w.heap.size (.deferred (some [])) :: F0)) W1 := by
  have h1 := ((hh w hw).new (.deferred (some []))).new (.loop (recOf fn a.tmps ps.toArray assign body w.heap.size .ready none))
  rw [World.size_alloc, hW1, hHc g0 F0] at h1
  refine h1.perm ?_
  refine (List.perm_append_comm (l₁ := [obj (w.heap.size + 1) (.loop (recOf fn a.tmps ps.toArray assign body w.heap.size .ready none)), obj w.heap.size (.deferred (some []))]) (l₂ := Hc g0 [] ++ F0)).trans ?_
  rw [List.append_assoc]
  exact List.Perm.append_left _ List.perm_append_comm
 refine ⟨w.heap.size + 1, [{ target := .collected w.heap.size, args := #[] }], W1, { target := .fn (.func gf) lb.toArray, args := #[.func (.yield (w.heap.size + 1)) #[] #[]] }, W1, gf,
  (.func (.yield (w.heap.size + 1)) #[] #[] :: lb).toArray, W1, ?_, ?_, fun _ _ => trivial, ?_, fun h => by simp at h, ?_⟩
 ·rw [← hW1]; exact run_enterLoop_outer _ _ _ _ _
 ·simp only [resolve, hs.ev hg]
  simp [Deferred.ofValue, Act.eval]
 ·simp [invoke, call_of hfn hnm hbd]
 · -- the iterator's word, at the caller's own ghost with the record beside it
  let recS : LoopState → Option Code → Loop := recOf fn a.tmps ps.toArray assign body w.heap.size
  let Cd : Nat → γ × Loop → Prop := fun i p => Inv i p.1 ∧ p.2 = recS .ready none
  let Cx : Nat → γ × Loop → Prop := fun _ p => ∃ c, Ex c p.1 ∧ p.2 = recS .done (some c)
  let G : γ × Loop → List HA := fun p => Hc p.1 [] ++ (obj (w.heap.size + 1) (.loop p.2) :: obj w.heap.size (.deferred (some [])) :: F0)
  let II : γ × Loop → Look := fun p => IIc p.1
  have hperm : ∀ (F : List HA) (p : γ × Loop), (F ++ G p).Perm (Hc p.1 (obj (w.heap.size + 1) (.loop p.2) :: obj w.heap.size (.deferred (some [])) :: (F0 ++ F))) := fun F p => by
   rw [hHc p.1 (_ :: _)]
   refine (List.perm_append_comm (l₁ := F)).trans ?_
   show ((Hc p.1 [] ++ (obj (w.heap.size + 1) (.loop p.2) :: obj w.heap.size (.deferred (some [])) :: F0)) ++ F).Perm _
   rw [List.append_assoc]
   exact List.Perm.refl _
  have hY : Yields C.P (w.heap.size + 1) Cd Cx G II xs := by
   intro i vs p hi hc w0' F w2 hw2
   obtain ⟨gg, rec⟩ := p
   obtain ⟨hinv, hrec⟩ := hc
   simp only at hinv hrec
   subst hrec
   have hw3 := hw2.perm (hperm F (gg, recS .ready none))
   have hl : w2.heap[w.heap.size + 1]? = some (.loop (recS .ready none)) := hw3.sat (obj (w.heap.size + 1) (.loop (recS .ready none))) (by rw [hHc]; exact List.mem_append_right _ (List.mem_cons_self))
   have hlen : vs.toArray.size = (recS .ready none).params.size := by
    show vs.toArray.size = ps.toArray.size
    simpa using hvs vs (List.mem_of_getElem? hi)
   refine ⟨_, _, _, _, run_yield hl hlen, ?_⟩
   refine roundIn_of_wpIn (F := WF none) trivial ?_
   have hsat : Sat (bindE ps vs E0) C.n (((recS .ready none).params.zip vs.toArray).foldl (fun t (x : Nat × Value) => t.setIfInBounds x.1 x.2) (recS .ready none).tmps) := by
    have := sat_bind ps vs E0 a.tmps (hs.sub hE0) hps
    show Sat _ _ ((ps.toArray.zip vs.toArray).foldl _ a.tmps)
    rw [← Array.foldl_toList]
    simpa using this
   have hround := round (w.heap.size + 1) (recS .ready none) (recS .busy none) (recS .done none) (obj w.heap.size (.deferred (some []))) i vs gg w0' (F0 ++ F) hi hinv rfl rfl
    ⟨_, []⟩ w2 hsat rfl hw3
   refine wpIn_mono hround ?_
   rintro e a3 w3 hq
   cases e with
   | normal =>
    obtain ⟨w4, hb1, hb2⟩ := hq
    refine ⟨w4, hb1, wpIn_mono hb2 ?_⟩
    have conv : ∀ e w', ((e = Ending.returned (.bool true) ∧ ∃ g', Inv (i + 1) g' ∧ Le (IIc gg) (IIc g') ∧ St w0' (IIc g') (Hc g' (obj (w.heap.size + 1) (.loop { recS .ready none with state := .ready, pending := none }) :: obj w.heap.size (.deferred (some [])) :: (F0 ++ F))) w') ∨
     (e = .returned (.bool false) ∧ ∃ c g', Ex c g' ∧ Le (IIc gg) (IIc g') ∧ St w0' (IIc g') (Hc g' (obj (w.heap.size + 1) (.loop { recS .ready none with state := .done, pending := some c }) :: obj w.heap.size (.deferred (some [])) :: (F0 ++ F))) w')) →
     ((e = .returned (.bool true) ∧ ∃ g', Cd (i + 1) g' ∧ Le (II (gg, recS .ready none)) (II g') ∧ St w0' (II g') (F ++ G g') w') ∨
     (e = .returned (.bool false) ∧ ∃ g', Cx (i + 1) g' ∧ Le (II (gg, recS .ready none)) (II g') ∧ St w0' (II g') (F ++ G g') w')) := by
     intro e w' h
     rcases h with ⟨rfl, g', h1, h2, h3⟩ | ⟨rfl, c, g', h1, h2, h3⟩
     ·exact .inl ⟨rfl, (g', recS .ready none), ⟨h1, rfl⟩, h2, h3.perm (hperm F (g', recS .ready none)).symm⟩
     ·exact .inr ⟨rfl, (g', recS .done (some c)), ⟨c, h1, rfl⟩, h2, h3.perm (hperm F (g', recS .done (some c))).symm⟩
    rintro e a5 w5 hp
    cases e <;> simp only [roundPost] at hp ⊢ <;> first | (obtain ⟨v, w6, h1, h2⟩ := hp; exact ⟨v, w6, h1, conv _ _ h2⟩) | exact hp
   | exit id => exact hq
   | goto t => exact hq
   | ret => exact hq
   | panic c => exact hq
   | outgrown => exact hq
  have hcall := hit (γ × Loop) Cd Cx G II (w.heap.size + 1) hY C.w0 (g0, recS .ready none) [] W1 ⟨h0, rfl⟩ hpre hw1
  have hcall' : CallsIn (WF none) 0 C.P gf (.func (.yield (w.heap.size + 1)) #[] #[] :: lb).toArray W1 _ := callsIn_wide.2 hcall
  have hcall2 : CallsIn (WF C.r) 0 C.P gf (.func (.yield (w.heap.size + 1)) #[] #[] :: lb).toArray W1 _ := hcall'
  refine hcall2.mono ?_
  rintro e w' ⟨v, rfl, ⟨gg, rec⟩, hor, hle, hw'⟩
  have hw'' : St C.w0 (IIc gg) (obj (w.heap.size + 1) (.loop rec) :: obj w.heap.size (.deferred (some [])) :: (F0 ++ Hc gg [])) w' := by
   refine hw'.perm ?_
   exact List.perm_append_comm (l₁ := Hc gg [])
  have hl : w'.heap[w.heap.size + 1]? = some (.loop rec) := hw''.sat _ (List.mem_cons_self)
  have hrest : ∀ y, St C.w0 (IIc gg) (Hc gg (obj w.heap.size (.deferred (some [])) :: F0)) (w'.putObj (w.heap.size + 1) y) := fun y => by
   have := (st_put (y := y) hw'').tail
   refine this.perm ?_
   rw [hHc gg (_ :: _)]
   exact List.perm_append_comm (l₁ := obj w.heap.size (.deferred (some [])) :: F0)
  rcases hor with ⟨hinv, hrec⟩ | ⟨i, _, c, hex, hrec⟩
  ·simp only at hinv hrec
   subst hrec
   refine ⟨none, _, run_endLoop hl (show LoopState.ready ≠ LoopState.busy by decide), ?_⟩
   exact kdone w.heap.size gg hinv (hI0.trans hle) { a with defers := [{ target := .collected w.heap.size, args := #[] }] ++ a.defers } _ hs (by rw [← hd]; rfl) (hrest _)
  ·simp only at hex hrec
   subst hrec
   refine ⟨some c, _, run_endLoop hl (show LoopState.done ≠ LoopState.busy by decide), ?_⟩
   have hk := kstop w.heap.size c gg hex (hI0.trans hle) { a with defers := [{ target := .collected w.heap.size, args := #[] }] ++ a.defers }
   simp only [hr] at hk
   exact hk _ hs (by rw [← hd]; rfl) (hrest _)
end iter

/-! ### a function that holds such a loop -/
theorem enterM {P : Program} {f : FuncId} {fn : Func} {c : Code} {args : List Value} {R : Ending → World → Prop} {n : Nat} {w : World} {I : Look} {H : List HA}
  (hf : P.funcs[f]? = some fn) (hb : fn.body = some c) (hn : fn.ntmps = n) (ha : Nat.ble args.length n = true) (hst : St w I H w)
  (h : T ⟨P, none, n, w⟩ c (zipE 0 args) I H [] (bodyPostM (WF none) 0 P fn R)) : Calls P f args.toArray w R := by
 have hal : args.length ≤ n := by simpa using ha
 refine callsIn_wide (n := 0).1 (callsIn_of_wp_marks hf hb trivial ?_)
 refine h _ w ⟨by simp [hn, hal], fun k v hk => ?_⟩ rfl hst
 obtain ⟨_, h2⟩ := get_zipE args 0 k v hk
 have hlt : k < args.length := by
  have := (List.getElem?_eq_some_iff.1 h2).1
  omega
 show (args.toArray ++ Array.replicate (fn.ntmps - args.toArray.size) undef)[k]? = some v
 rw [Array.getElem?_append_left (by simpa using hlt)]
 simpa using h2

section ret
variable {C : Cx} {E : Env} {I : Look} {H : List HA} {R : Ending → World → Prop} {fn : Func}
def marks (bs : List Nat) : List Deferred := bs.map fun b => { target := .collected b, args := #[] }

theorem leaves_marks {P : Program} {tmps : Array Value} {w0 : World} {v : Value} (hr : ∀ w, (results fn tmps).run P w = .ok v w) : ∀ (bs : List Nat) (F : List HA) (w : World), St w0 I (bs.map (fun b => obj b (.deferred (some []))) ++ F) w →
  (∀ w, St w0 I F w → R (.returned v) w) → LeavesInM (WF none) 0 P fn tmps R (marks bs) .returning w
 | [], _, w, hw, k => ⟨v, hr w, k w hw⟩
 | b :: bs, F, w, hw, k => by
  refine ⟨(by intro h; cases h), .inl ⟨b, w.putObj b (.deferred none), rfl, ?_, ?_⟩⟩
  ·exact run_takeDeferred (hw.sat (obj b (.deferred (some []))) (List.mem_cons_self))
  ·exact leaves_marks hr bs F _ (st_put (y := .deferred none) hw).tail k

class PickDs (bs : List Nat) (F : outParam (List HA)) (H : List HA) : Prop where
 sub : SubH H (bs.map (fun b => obj b (.deferred (some []))) ++ F)
instance pickDs_nil {H : List HA} : PickDs [] H H := ⟨subH_refl H⟩
instance pickDs_cons {b : Nat} {bs : List Nat} {F F' H : List HA} [p : PickI (obj b (.deferred (some []))) F' H] [h : PickDs bs F F'] : PickDs (b :: bs) F H := ⟨subH_cons p.pick h.sub⟩

theorem n_retM {bs : List Nat} {F : List HA} {v : Value} {e : Exit} (he : e = .ret ∨ e = .normal) [hp : PickDs bs F H] (hr : ∀ τ w, Sat E C.n τ → (results fn τ).run C.P w = .ok v w) (k : ∀ w, St C.w0 I F w → R (.returned v) w) : N C e E I H (marks bs) (bodyPostM (WF none) 0 C.P fn R) := by
 intro a w hs hd hw
 have := leaves_marks (P := C.P) (tmps := a.tmps) (fn := fn) (R := R) (fun w => hr a.tmps w hs) bs F w (hw.sub hp.sub) k
 rcases he with rfl | rfl
 ·show LeavesInM _ _ _ _ _ _ a.defers .returning w
  rw [hd]; exact this
 ·show LeavesInM _ _ _ _ _ _ a.defers .returning w
  rw [hd]; exact this
theorem n_ret1M {bs : List Nat} {F : List HA} {t : Nat} {v : Value} (hr : fn.results = #[.tmp t]) (hv : get E t = some v) [hp : PickDs bs F H] (k : ∀ w, St C.w0 I F w → R (.returned v) w) : N C .ret E I H (marks bs) (bodyPostM (WF none) 0 C.P fn R) :=
 n_retM (.inl rfl) (fun τ w hs => by rw [results_tmp hr]; simp [hs.2 t v hv]) k
theorem n_ret2M {bs : List Nat} {F : List HA} {t u : Nat} {v x : Value} (hr : fn.results = #[.tmp t, .tmp u]) (hv : get E t = some v) (hx : get E u = some x) [hp : PickDs bs F H] (k : ∀ w, St C.w0 I F w → R (.returned (.tuple #[v, x])) w) : N C .ret E I H (marks bs) (bodyPostM (WF none) 0 C.P fn R) :=
 n_retM (.inl rfl) (fun τ w hs => by rw [results_tmp2 hr]; simp [hs.2 t v hv, hs.2 u x hx]) k
end ret
end Go.Tri

/-
 More operations: texts, structs by value, conversions; calls that turn memory; short circuits ahead of effects.
-/
namespace Go.Tri
open Go.RowKit

section ops
variable {C : Cx} {E : Env} {I : Look} {H : List HA} {D : List Deferred} {Q : Exit → Act → World → Prop} {o : Oper}

theorem q_pick_b {c : Operand} {b : Bool} (ho : o.op = .pick c (.const (.bool true)) (.const (.bool false))) (hc : ev E c = some (.bool b)) : Quiet C E I H o (.bool b) := by
 have h := q_pick (C := C) (I := I) (H := H) ho hc (u := .bool true) (v := .bool false) rfl rfl
 cases b <;> exact h
/-! texts -/
section strings
variable {x y i j : Operand} {t t' : TypeId} {s s' : List UInt8} {k kl kh : IntKind} {m n : Int}
theorem extract_str (s : List UInt8) (l h : Nat) : (⟨s.toArray⟩ : ByteArray).extract l h = ⟨((s.drop l).take (h - l)).toArray⟩ := by
 apply ByteArray.ext
 simp [ByteArray.data_extract]
theorem q_index_strN {j : Nat} (ho : o.op = .index t x i) (ht : C.P.underlying t = some .string) (hx : ev E x = some (str s)) (hi : ev E i = some (.int k (j : Int))) (h : j < s.length) :
  Quiet C E I H o (u8 (nth s j 0)) := q_index_str ho ht hx hi ⟨by omega, by omega⟩
theorem q_indexAddrN {e : TypeId} {v z : Value} {j n sz bytes : Nat} (ho : o.op = .indexAddr t x i) (ht : C.P.underlying t = some (.slice e)) (hi : TI C.P e sz bytes z)
  (hx : ev E x = some v) (hix : ev E i = some (.int k (j : Int))) (hv : ∃ A c, v = .slice A n c ∧ (0 < n → ∀ a, A = some a → a.spot = none) ∧ (0 < n → A ≠ none)) (h0 : j < n) :
  Quiet C E I H o (.pointer (some ⟨(adr v).block, (adr v).off + j * sz, none⟩)) := q_indexAddr ho ht hi hx hix hv ⟨by omega, by omega⟩
theorem q_indexAddrVN {e te : TypeId} {v z : Value} {j n sz sz' bytes : Nat} {xs : List Value} (ho : o.op = .indexAddr t x i) (ht : C.P.underlying t = some (.slice e)) (hi : TI C.P e sz bytes z)
  (hx : ev E x = some v) (hix : ev E i = some (.int k (j : Int))) [hm : InVec v te sz' n xs H] (h0 : j < n) :
  Quiet C E I H o (.pointer (some ⟨(adr v).block, (adr v).off + j * sz, none⟩)) := q_indexAddrV ho ht hi hx hix ⟨by omega, by omega⟩
theorem q_slice_str (ho : o.op = .slice t x (some i) (some j) none) (ht : C.P.underlying t = some .string) (hx : ev E x = some (str s)) (hi : ev E i = some (.int kl m)) (hj : ev E j = some (.int kh n)) (h : 0 ≤ m ∧ m ≤ n ∧ n ≤ s.length) :
  Quiet C E I H o (str ((s.drop m.toNat).take (n.toNat - m.toNat))) :=
 quiet_run (by rw [ho]; rfl) fun a w hs _ => by
  simp only [execOp, ho, hs.ev hx, Option.map_some, Option.map_none, hs.ev hi, hs.ev hj]
  rw [Sem.run_bind, run_sliceAt_string w t _ _ _ _ ht]
  unfold str
  rw [run_slice_string w t _ kl kh m n ht h.1 h.2.1 (by rw [size_str]; exact h.2.2), extract_str]
  rfl
theorem q_slice_str_from (ho : o.op = .slice t x (some i) none none) (ht : C.P.underlying t = some .string) (hx : ev E x = some (str s)) (hi : ev E i = some (.int kl m)) (h : 0 ≤ m ∧ m ≤ s.length) :
  Quiet C E I H o (str (s.drop m.toNat)) :=
 quiet_run (by rw [ho]; rfl) fun a w hs _ => by
  simp only [execOp, ho, hs.ev hx, Option.map_some, Option.map_none, hs.ev hi]
  rw [Sem.run_bind, run_sliceAt_string w t _ _ _ _ ht]
  unfold str
  have h1 := run_slice_string_l (P := C.P) (w := w) (t := t) ht (s := ⟨s.toArray⟩) kl m h.1 (by rw [size_str]; exact h.2)
  rw [h1, extract_str, size_str, List.take_of_length_le (by simp)]
  rfl
theorem q_slice_str_to (ho : o.op = .slice t x none (some j) none) (ht : C.P.underlying t = some .string) (hx : ev E x = some (str s)) (hj : ev E j = some (.int kh n)) (h : 0 ≤ n ∧ n ≤ s.length) :
  Quiet C E I H o (str (s.take n.toNat)) :=
 quiet_run (by rw [ho]; rfl) fun a w hs _ => by
  simp only [execOp, ho, hs.ev hx, Option.map_some, Option.map_none, hs.ev hj]
  rw [Sem.run_bind, run_sliceAt_string w t _ _ _ _ ht]
  unfold str
  have h1 := run_slice_string_h (P := C.P) (w := w) (t := t) ht (s := ⟨s.toArray⟩) kh n h.1 (by rw [size_str]; exact h.2)
  rw [h1, extract_str]
  simp
theorem q_cat (ho : o.op = .binOp .add t x y t') (hx : ev E x = some (str s)) (hy : ev E y = some (str s')) (h : s.length + s'.length ≤ 9223372036854775807) : Quiet C E I H o (str (s ++ s')) :=
 quiet_bin ho hx hy fun w => by
  have e : (⟨s.toArray⟩ : ByteArray) ++ ⟨s'.toArray⟩ = ⟨(s ++ s').toArray⟩ := by apply ByteArray.ext; simp
  simp only [eqGuard, str, binOp]
  rw [Sem.run_bind]
  simp [run_string_add_sum (P := C.P) (w := w) ⟨s.toArray⟩ ⟨s'.toArray⟩ (by simpa [size_str] using h), e]
theorem q_neq_str (ho : o.op = .binOp .neq t x y t') (hx : ev E x = some (str s)) (hy : ev E y = some (str s')) : Quiet C E I H o (.bool (decide (s ≠ s'))) :=
 quiet_bin ho hx hy fun w => by
  simp [eqGuard, str, binOp, Op.stringOp, ByteArray.toList_eq]; rw [Bool.eq_iff_iff]; simp
theorem q_eql_bool {a b : Bool} (ho : o.op = .binOp .eql t x y t') (ht : C.P.underlying t = some .bool) (hx : ev E x = some (.bool a)) (hy : ev E y = some (.bool b)) : Quiet C E I H o (.bool (a == b)) :=
 quiet_bin ho hx hy fun w => by
  simp [eqGuard, binOp, Op.equal, Op.maxDepth, run_equalIn_bool' (P := C.P) w 9999 t a b ht]
theorem q_neq_bool {a b : Bool} (ho : o.op = .binOp .neq t x y t') (ht : C.P.underlying t = some .bool) (hx : ev E x = some (.bool a)) (hy : ev E y = some (.bool b)) : Quiet C E I H o (.bool (a != b)) :=
 quiet_bin ho hx hy fun w => by
  simp [eqGuard, binOp, Op.equal, Op.maxDepth, run_equalIn_bool' (P := C.P) w 9999 t a b ht]
  cases a <;> cases b <;> rfl
theorem q_conv_int {d : TypeDesc} {k' : IntKind} {r : Int} (ho : o.op = .convert t t' x) (hs : C.P.underlying t = some d) (hd : C.P.underlying t' = some (.int k')) (hx : ev E x = some (.int k n)) (hr : k'.wrap n = r) : Quiet C E I H o (.int k' r) :=
 quiet_run (by rw [ho]; rfl) fun a w hsat _ => by
  subst hr
  simp [execOp, ho, hsat.ev hx, convert, run_underlying hs, run_underlying hd, Conv.intToInt]
def byC (c : UInt8) : List Value := [u8 c]
theorem byC_ones (c : UInt8) : ∀ u ∈ byC c, u.oneCell' = true := fun u hu => by
 rw [byC, List.mem_singleton] at hu
 subst hu
 rfl
theorem byC_flat (l : List UInt8) : (l.map byC).flatten = l.map u8 := by
 induction l with
 | nil => rfl
 | cons c l ih => simp [byC, ih]
theorem q_bytes_str {e : TypeId} {v : Value} {T : TypeId} {l : List UInt8} (ho : o.op = .convert t t' x) (hs : C.P.underlying t = some (.slice e)) (hd : C.P.underlying t' = some .string) (he : C.P.underlying e = some (.int .u8)) (hx : ev E x = some v) [hm : InVec v T 1 l.length (l.map byC).flatten H] : Quiet C E I H o (str l) :=
 quiet_run (by rw [ho]; rfl) fun a w hsat hw => by
  obtain ⟨hl, hh⟩ := hw.sat _ hm.mem
  simp only [execOp, ho, hsat.ev hx]
  rw [byC_flat] at hh
  rcases hh with ⟨rfl, hz⟩ | ⟨g, cap, cur, rfl, hg, hn, hc, hsz, htk⟩
  ·have : l = [] := List.eq_nil_of_length_eq_zero hz
   subst this
   simp [convert, run_underlying hs, run_underlying hd, run_underlying he, Conv.bytesToString, str]
   rfl
  ·rw [Sem.run_bind, run_convert_bytes_back (P := C.P) w t t' e ⟨g, 0, none⟩ cap l hs he hd (fun j hj => by
    rw [Addr.add_lit]
    have hg' : w.heap[g]? = some (.cells cur T (0, 0)) := hg
    unfold World.cell?
    simp only [hg', Option.isSome_none, Bool.false_eq_true, if_false, Nat.zero_add]
    have h2 : (l.map u8)[j]? = some (u8 l[j]) := by simp [hj]
    rw [← htk, List.getElem?_take] at h2
    split at h2
    ·simpa [u8] using h2
    ·cases h2)]
   rfl
end strings

section bytes
variable {x y : Operand} {t t' : TypeId} {c d : UInt8} {n : Int}
theorem u8_eq (c d : UInt8) : ((c.toNat : Int) = (d.toNat : Int)) ↔ c = d := by
 constructor
 ·intro h; exact UInt8.toNat_inj.1 (by omega)
 ·intro h; rw [h]
theorem u8_eqc {n : Int} (c : UInt8) (h : (decide (0 ≤ n) && decide (n < 256)) = true) : ((c.toNat : Int) = n) ↔ c = UInt8.ofNat n.toNat := by
 simp only [Bool.and_eq_true, decide_eq_true_eq] at h
 rw [← u8_eq]
 have : (UInt8.ofNat n.toNat).toNat = n.toNat := by rw [UInt8.toNat_ofNat']; omega
 rw [this]
 omega
theorem q_eql_u8 (ho : o.op = .binOp .eql t x y t') (hx : ev E x = some (u8 c)) (hy : ev E y = some (u8 d)) : Quiet C E I H o (.bool (decide (c = d))) := by
 have := q_eql (C := C) (I := I) (H := H) ho hx hy
 simpa only [u8_eq] using this
theorem q_eql_u8c (ho : o.op = .binOp .eql t x y t') (hx : ev E x = some (u8 c)) (hy : ev E y = some (.int .u8 n)) (h : (decide (0 ≤ n) && decide (n < 256)) = true) : Quiet C E I H o (.bool (decide (c = UInt8.ofNat n.toNat))) := by
 have := q_eql (C := C) (I := I) (H := H) ho hx hy
 simpa only [u8_eqc c h] using this
end bytes

/-! structs by value -/
def evP (E : Env) : List (Nat × Operand) → Option (List (Nat × Value))
 | [] => some []
 | (i, x) :: r => match ev E x, evP E r with
  | some v, some vs => some ((i, v) :: vs)
  | _, _ => none
theorem Sat.evP {n : Nat} {a : Act} (h : Sat E n a.tmps) : ∀ {xs : List (Nat × Operand)} {vs : List (Nat × Value)}, evP E xs = some vs → xs.map (fun p => (p.1, a.eval p.2)) = vs
 | [], _, hx => by cases hx; rfl
 | (i, x) :: r, vs, hx => by
  unfold Tri.evP at hx
  split at hx
  ·rename_i v vs' h1 h2
   cases hx
   rw [List.map_cons, h.ev h1, h.evP h2]
  ·cases hx
/-- each field's place and size -/
def Places (P : Program) : List Field → List (Nat × Nat) → Prop
 | [], [] => True
 | f :: fs, (o, s) :: pl => f.offset = o ∧ (∃ b z, TI P f.type s b z) ∧ Places P fs pl
 | _, _ => False
theorem run_places {P : Program} {w : World} : ∀ {fs : List Field} {pl : List (Nat × Nat)}, Places P fs pl → (fs.mapM (fun f => do pure (f.offset, ← sizeOf f.type) : Field → Sem (Nat × Nat))).run P w = .ok pl w
 | [], [], _ => by simp
 | f :: fs, (o, s) :: pl, h => by
  obtain ⟨h1, ⟨b, z, h2⟩, h3⟩ := h
  have ih := run_places (w := w) h3
  subst h1
  simp only [List.mapM_cons, Sem.run_bind, h2.sizeOf, Sem.run_pure, Result.andThen_ok, ih]
 | [], _ :: _, h => h.elim
 | _ :: _, [], h => h.elim
theorem q_build {t : TypeId} {parts : Array (Nat × Operand)} {fs : Array Field} {n bytes : Nat} {z : Value} {vs : List (Nat × Value)} {pl : List (Nat × Nat)} {cs : Array Value} (ho : o.op = .build t parts) (ht : C.P.underlying t = some (.struct fs)) (hi : TI C.P t n bytes z)
  (hpl : Places C.P fs.toList pl) (hv : evP E parts.toList = some vs) (hf : Instr.fill (fun i => pl[i]?) z.cells vs = some cs) : Quiet C E I H o (.agg cs) :=
 quiet_run (by rw [ho]; rfl) fun a w hs _ => by
  have h1 : (parts.map fun p => (p.1, a.eval p.2)).toList = vs := by rw [← hs.evP hv]; simp
  simp only [execOp, ho, Instr.build]
  have h2 := run_places (w := w) hpl
  have h3 : (fs.mapM (fun f => do pure (f.offset, ← sizeOf f.type) : Field → Sem (Nat × Nat))).run C.P w = .ok pl.toArray w := by
   obtain ⟨fl⟩ := fs
   simp only [List.mapM_toArray]
   rw [Sem.run_map]
   simp only at h2
   rw [h2]
   rfl
  simp only [Sem.run_bind, hi.zero, run_underlying ht, Result.andThen_ok, h3]
  have h4 : (fun (i : Nat) => pl.toArray[i]?) = (fun (i : Nat) => pl[i]?) := by funext i; simp
  rw [h4]
  have h5 : (parts.map fun x => match x with | (i, x) => (i, a.eval x)).toList = vs := h1
  rw [h5, hf]
  rfl
theorem q_neq_st {x y : Operand} {t t' : TypeId} {xs ys : Array Value} {r : Bool} (ho : o.op = .binOp .neq t x y t') (hg : C.P.eqGuardType C.P.depth t = false) (hx : ev E x = some (.agg xs)) (hy : ev E y = some (.agg ys)) (hr : ∀ w, (Op.equalIn 10000 t (.agg xs) (.agg ys)).run C.P w = .ok r w) : Quiet C E I H o (.bool (!r)) :=
 quiet_bin ho hx hy fun w => by
  rw [Sem.run_bind, run_eqGuard_agg w _ _ _ _ _ _ hg]
  simp only [Result.andThen_ok]
  rw [run_neq_struct, hr]
  rfl

/-! calls that turn memory -/
theorem eff_call {g : Operand} {f : FuncId} {args : Array Operand} {ts : Array TypeId} {vs : List Value} {fn : Func} {Post : Value → Look → List HA → Prop}
  (ho : o.op = .call { callee := .value g, args := args, argTypes := ts }) (hg : ev E g = some (.func (.func f) #[] #[])) (he : evs E args.toList = some vs)
  (hfn : C.P.funcs[f]? = some fn) (hnm : (fn.name == "runtime.NumGoroutine") = false) (hbd : fn.body.isNone = false)
  (hc : ∀ w, St C.w0 I H w → Calls C.P f vs.toArray w (fun e w' => ∃ v, e = .returned v ∧ ∃ I' H', Post v I' H' ∧ St w I' H' w')) : Eff C E I H o Post := by
 intro a w hs hw K Q hk
 have h1 : args.map a.eval = vs.toArray := by
  rw [← hs.evs he]; cases args; simp
 have hrun : (execOp a.eval o).run C.P w = .ok (.enter f vs.toArray) w := by
  simp only [execOp, ho, resolve, h1, hs.ev hg]
  simp [Deferred.ofValue, invoke, call_of hfn hnm hbd]
 exact wpIn_of_call (by rw [ho]; rfl) hrun (hc w hw) fun v w'' ⟨I', H', hp, hw'⟩ => hk v I' H' w'' hp (St.rebase hw hw')

/-- a function of the table beneath the text -/
theorem quiet_extern {g : Operand} {f : FuncId} {args : Array Operand} {ts : Array TypeId} {vs : List Value} {fn : Func} {e : Array Value → Sem Value} {v : Value}
  (ho : o.op = .call { callee := .value g, args := args, argTypes := ts }) (hg : ev E g = some (.func (.func f) #[] #[])) (he : evs E args.toList = some vs)
  (hfn : C.P.funcs[f]? = some fn) (hnm : (fn.name == "runtime.NumGoroutine") = false) (hbd : fn.body = none) (h1 : Extern.findNext fn = none) (h2 : Extern.find fn = some e)
  (hr : ∀ w, (e vs.toArray).run C.P w = .ok v w) : Quiet C E I H o v :=
 quiet_run (by rw [ho]; rfl) fun a w hs _ => by
  have h3 : args.map a.eval = vs.toArray := by
   rw [← hs.evs he]; cases args; simp
  have hn' : ¬ fn.name = "runtime.NumGoroutine" := by simpa using hnm
  simp only [execOp, ho, resolve, h3, hs.ev hg]
  simp [Deferred.ofValue, invoke, callFunc, hfn, hn', hbd, h1, h2, hr]

/-- 'c && y', 'c || y' of operations that leave things alone, ahead of others -/
theorem l_quietHead {ops : Array Oper} {l : List Oper} (k : Nat) (hs : QS C ops (l.take k) E I H (fun a' => a'.defers = D → ∀ w', St C.w0 I H w' → wpListIn (WF C.r) 0 C.P ops Q (l.drop k) a' w')) : L C ops l E I H D Q := by
 intro a w hsat hd hw
 have h1 := qs_keeps _ a (hs a hsat)
 have := qs_list (Q := Q) (l.take k) (l.drop k) a w (qs_mono (fun a' h' w' hb => h'.1 (h'.2.1.trans hd) w' (hw.garb hb)) _ a h1) hw
 rwa [List.take_append_drop] at this
theorem s_list {ops : Array Oper} {l : List Oper} (h : L C ops l E I H D Q) : QS C ops [] E I H (fun a' => a'.defers = D → ∀ w', St C.w0 I H w' → wpListIn (WF C.r) 0 C.P ops Q l a' w') := fun a hs hd w' hw' => h a w' hs hd hw'
/-- both ways of a bool that is known by name alone -/
theorem l_split {ops : Array Oper} {l : List Oper} {t : Nat} {b : Bool} (hb : get E t = some (.bool b)) (ht : b = true → L C ops l ((t, .bool true) :: E) I H D Q) (hf : b = false → L C ops l ((t, .bool false) :: E) I H D Q) : L C ops l E I H D Q := by
 cases b
 ·exact l_sub (sub_cons hb (Sub.refl E)) (hf rfl)
 ·exact l_sub (sub_cons hb (Sub.refl E)) (ht rfl)
/-- a guarded operation that is not wanted -/
theorem l_skip {ops : Array Oper} {rest : List Oper} {oj : Oper} {d j dj : Nat} {b b' : Bool} (hg : o.guard = some (j, b)) (hj : ops[j]? = some oj) (hdj : oj.dst = some dj) (hb : get E dj = some (.bool b')) (hbb : (b == b') = false) (hd : o.dst = some d) (hn : Nat.blt d C.n = true)
  (k : L C ops rest ((d, undef) :: E) I H D Q) : L C ops (o :: rest) E I H D Q := by
 intro a w hs hda hw
 have hy := yielded_of (C := C) hs hj hdj hb
 refine wpListIn_step fun K hK => ?_
 rw [if_neg (by
  have : ¬ b' = b := fun e => by subst e; simp at hbb
  simp [Region.wanted, hg, hy, this])]
 refine ⟨fun _ _ => trivial, hK _ _ ?_⟩
 rw [hd]
 exact k _ _ (hs.put (by simpa using hn) undef) (by simpa [Act.put] using hda) hw
/-- a guarded operation that is wanted -/
theorem wanted_g {ops : Array Oper} {oj : Oper} {j dj : Nat} {b : Bool} (hg : o.guard = some (j, b)) (hj : ops[j]? = some oj) (hdj : oj.dst = some dj) (hb : get E dj = some (.bool b)) : ∀ a : Act, Sat E C.n a.tmps → Region.wanted o (yielded ops a.tmps) = true := fun a hs => by
 simp [Region.wanted, hg, yielded_of (C := C) hs hj hdj hb]
theorem wanted_n {ops : Array Oper} (hg : o.guard = none) : ∀ a : Act, Sat E C.n a.tmps → Region.wanted o (yielded ops a.tmps) = true := fun a _ => by simp [Region.wanted, hg]
theorem l_qg {ops : Array Oper} {rest : List Oper} {d : Nat} {v : Value} (hw : ∀ a : Act, Sat E C.n a.tmps → Region.wanted o (yielded ops a.tmps) = true) (hd : o.dst = some d) (hn : Nat.blt d C.n = true)
  (hq : Quiet C E I H o v) (k : L C ops rest ((d, v) :: E) I H D Q) : L C ops (o :: rest) E I H D Q := by
 intro a w hs hda hst
 refine wpListIn_step fun K hK => ?_
 rw [if_pos (hw a hs)]
 refine (hq a w hs hst).wpIn fun w' g => hK _ _ ?_
 rw [hd]
 exact k _ _ (hs.put (by simpa using hn) v) (by simpa [Act.put] using hda) (hst.garb g)
theorem One.cells {v : Value} (h : One v) : v.cells = [v].toArray := h.1
/-- an owned slice of things of one kind -/
@[reducible] def tvec {α : Type} (T : TypeId) (sz : Nat) (f : α → List Value) (v : Value) (l : List α) : HA := vec v T sz l.length (l.map f).flatten
theorem ones1 {v : Value} (h : One v) : ∀ u ∈ [v], u.oneCell' = true := fun u hu => by
 rw [List.mem_singleton] at hu
 subst hu
 exact h.2
theorem e_appendRow {x y : Operand} {t e e' e2 : TypeId} {n m c sz bytes b : Nat} {v z : Value} {xs cs : List Value} {F : List HA} (ho : o.op = .call { callee := .builtin .append, args := #[x, y], argTypes := #[t, t] })
  (ht : C.P.underlying t = some (.slice e)) (hi : TI C.P e sz bytes z) (hz : z.cells.size = sz) (hsz : Nat.blt 0 sz = true)
  (hx : ev E x = some v) (hy : ev E y = some (.slice (some ⟨b, 0, none⟩) m c)) [hpk : PickVec v e' sz n xs F H] (hee : e = e') [hm : InRow b e2 cs H]
  (hl : cs.length = m * sz) (h1 : ∀ u ∈ cs, u.oneCell' = true) (h63 : n + m ≤ maxLen) (hby : (n + m) * bytes ≤ 140737488355328) :
  Eff C E I H o (fun v' I' H' => I = I' ∧ H' = vec v' e' sz (n + m) (xs ++ cs) :: F) :=
 e_append ho ht hi hz hsz hx hy hee (rds_row (n := cs.length) hm.mem (by simp)) hl h1 h63 hby
theorem e_appendT {α : Type} {f : α → List Value} {l : List α} {x y : Operand} {t e e' e2 : TypeId} {k sz bytes b : Nat} {v z : Value} {cs : List Value} {F : List HA} (c : α) (ho : o.op = .call { callee := .builtin .append, args := #[x, y], argTypes := #[t, t] })
  (ht : C.P.underlying t = some (.slice e)) (hi : TI C.P e sz bytes z) (hz : z.cells.size = sz) (hsz : Nat.blt 0 sz = true)
  (hx : ev E x = some v) (hy : ev E y = some (.slice (some ⟨b, 0, none⟩) 1 k)) [hpk : PickVec v e' sz l.length (l.map f).flatten F H] (hee : e = e') [hm : InRow b e2 cs H] (hc : cs = f c)
  (hl : (f c).length = sz) (h1 : ∀ u ∈ f c, u.oneCell' = true) (h63 : l.length + 1 ≤ maxLen) (hby : (l.length + 1) * bytes ≤ 140737488355328) :
  Eff C E I H o (fun v' I' H' => I = I' ∧ H' = tvec e' sz f v' (l ++ [c]) :: F) := by
 subst hc
 have := e_appendRow (C := C) (I := I) ho ht hi hz hsz hx hy hee (hm := hm) (by rw [hl, Nat.one_mul]) h1 h63 hby
 simpa [tvec] using this
theorem l_freezeT {α : Type} {f : α → List Value} {l : List α} {ops : Array Oper} {os : List Oper} {T : TypeId} {sz : Nat} {F : List HA} (v : Value) [hp : PickVec v T sz l.length (l.map f).flatten F H] (hu : ∀ c, (f c).length = sz)
  (k : ∀ J, Le I J → Sl J sz v (l.map f) → L C ops os E J F D Q) : L C ops os E I H D Q := by
 intro a w hs hd hw
 obtain ⟨J, h1, h2, h3⟩ := st_freeze (hw.perm hp.pick) (by simp) (fun cs hcs => by obtain ⟨c, _, rfl⟩ := List.mem_map.1 hcs; exact hu c)
 exact k J h1 h3 a w hs hd h2
theorem t_freezeT {α : Type} {f : α → List Value} {l : List α} {c : Code} {T : TypeId} {sz : Nat} {F : List HA} (v : Value) [hp : PickVec v T sz l.length (l.map f).flatten F H] (hu : ∀ c, (f c).length = sz)
  (k : ∀ J, Le I J → Sl J sz v (l.map f) → Tri.T C c E J F D Q) : Tri.T C c E I H D Q := by
 intro a w hs hd hw
 obtain ⟨J, h1, h2, h3⟩ := st_freeze (hw.perm hp.pick) (by simp) (fun cs hcs => by obtain ⟨c, _, rfl⟩ := List.mem_map.1 hcs; exact hu c)
 exact k J h1 h3 a w hs hd h2

/-- what is owned may be told otherwise -/
theorem l_heap {ops : Array Oper} {l : List Oper} {I' : Look} {H' : List HA} (h : L C ops l E I' H' D Q) (hi : ∀ w, St C.w0 I H w → St C.w0 I' H' w) : L C ops l E I H D Q := fun a w s hd hw => h a w s hd (hi w hw)
theorem vec_one {v : Value} {T : TypeId} {sz n : Nat} {xs : List Value} {w0 w : World} (hw : St w0 I H w) [hm : InVec v T sz n xs H] : One v := by
 obtain ⟨_, hh⟩ := hw.sat _ hm.mem
 rcases hh with ⟨rfl, _⟩ | ⟨g, cap, cur, rfl, _⟩ <;> exact ⟨rfl, rfl⟩
/-- an owned slice is one cell -/
theorem l_one {ops : Array Oper} {l : List Oper} {T : TypeId} {sz n : Nat} {xs : List Value} (v : Value) [hm : InVec v T sz n xs H] (k : One v → L C ops l E I H D Q) : L C ops l E I H D Q := fun a w hs hd hw => k (vec_one hw) a w hs hd hw
theorem r_one {ops : Array Oper} {X Z : List Nat} {I0 : Look} {R0 : List HA} {fuel : Nat} {listed : Array Bool} {T : TypeId} {sz n : Nat} {xs : List Value} (v : Value) [hm : InVec v T sz n xs H] (k : One v → R C ops X Z I0 R0 fuel listed E I H D Q) : R C ops X Z I0 R0 fuel listed E I H D Q :=
 fun hpl hQ a w hs hd hw => k (vec_one hw) hpl hQ a w hs hd hw
theorem r_heap {ops : Array Oper} {X Z : List Nat} {I0 : Look} {R0 : List HA} {fuel : Nat} {listed : Array Bool} {I' : Look} {H' : List HA} (k : R C ops X Z I0 R0 fuel listed E I' H' D Q) (hi : ∀ w, St C.w0 I H w → St C.w0 I' H' w) : R C ops X Z I0 R0 fuel listed E I H D Q :=
 fun hpl hQ a w hs hd hw => k hpl hQ a w hs hd (hi w hw)
theorem Sl.lenOf {sz n : Nat} {v : Value} {xss : List (List Value)} (h : Sl I sz v xss) (hn : xss.length = n) : ∃ A c, v = .slice A n c := by
 obtain ⟨⟨A, c, rfl, _⟩, _⟩ := h
 exact ⟨A, c, by rw [hn]⟩
theorem Sl.rd {w0 : World} {sz : Nat} {v u : Value} {xss : List (List Value)} (h : Sl I sz v xss) {i j : Nat} {cs : List Value} (hi : xss[i]? = some cs) (hj : cs[j]? = some u) : Rd w0 I H (adr v).block ((adr v).off + i * sz + j) u := rd_imm (h.2 i j cs u hi hj)
theorem Sl.rds {w0 : World} {sz : Nat} {v : Value} {xss : List (List Value)} (h : Sl I sz v xss) {i : Nat} {cs : List Value} (hi : xss[i]? = some cs) : Rds w0 I H (adr v).block ((adr v).off + i * sz) cs := fun _ _ hj => h.rd hi hj
/-- several rows at once, and what is left -/
class Picks (Ms : List HA) (F : outParam (List HA)) (H : List HA) : Prop where
 perm : H.Perm (Ms ++ F)
instance picks_nil {H : List HA} : Picks [] H H := ⟨List.Perm.refl _⟩
instance picks_cons {x : HA} {Ms F F' H : List HA} [p : PickI x F' H] [h : Picks Ms F F'] : Picks (x :: Ms) F H := ⟨p.pick.trans (List.Perm.cons x h.perm)⟩
theorem picks_st1 {w0 w : World} {F : List HA} (a : HA) [h : Picks [a] F H] (hw : St w0 I H w) : St w0 I (a :: F) w := hw.perm h.perm
theorem picks_st2 {w0 w : World} {F : List HA} (a b : HA) [h : Picks [a, b] F H] (hw : St w0 I H w) : St w0 I (a :: b :: F) w := hw.perm h.perm
theorem picks_st3 {w0 w : World} {F : List HA} (a b c : HA) [h : Picks [a, b, c] F H] (hw : St w0 I H w) : St w0 I (a :: b :: c :: F) w := hw.perm h.perm
theorem picks_st4 {w0 w : World} {F : List HA} (a b c d : HA) [h : Picks [a, b, c, d] F H] (hw : St w0 I H w) : St w0 I (a :: b :: c :: d :: F) w := hw.perm h.perm

/-- an owned row that will not turn any more becomes data -/
theorem st_freezeRow {w0 w : World} {b : Nat} {T : TypeId} {cs : List Value} {F : List HA} (h : St w0 I (row b T cs :: F) w) :
  ∃ J, Le I J ∧ St w0 J F w ∧ ∀ k u, cs[k]? = some u → CellI J b k u := by
 have hb : w.heap[b]? = some (.cells cs.toArray T (0, 0)) := h.sat _ (List.mem_cons_self)
 have hIb : I b = none := h.dis _ (List.mem_cons_self) b rfl
 let J : Look := fun k => if k = b then some (.cells cs.toArray T (0, 0)) else I k
 refine ⟨J, fun k o hk => ?_, ?_, fun k u hu => ⟨cs.toArray, T, (0, 0), by show (if b = b then _ else _) = _; rw [if_pos rfl], by simpa using hu⟩⟩
 ·show (if k = b then _ else I k) = _
  split
  ·rename_i e; subst e; rw [hIb] at hk; cases hk
  ·exact hk
 ·refine { h.tail with imm := fun k o hk => ?_, dis := fun y hy k hk => ?_ }
  ·have hk' : (if k = b then some (Obj.cells cs.toArray T (0, 0)) else I k) = some o := hk
   by_cases e : k = b
   ·subst e
    rw [if_pos rfl] at hk'
    cases hk'
    exact hb
   ·rw [if_neg e] at hk'
    exact h.imm k o hk'
  ·show (if k = b then _ else I k) = none
   by_cases e : k = b
   ·subst e
    exfalso
    have hsep := h.sep
    unfold owns at hsep
    rw [List.filterMap_cons] at hsep
    exact (List.nodup_cons.1 hsep).1 (List.mem_filterMap.2 ⟨y, hy, hk⟩)
   ·rw [if_neg e]
    exact h.tail.dis y hy k hk
theorem t_freezeRow {c : Code} {T : TypeId} {cs : List Value} {F : List HA} (b : Nat) [hp : PickRow b T cs F H] (k : ∀ J, Le I J → (∀ k u, cs[k]? = some u → CellI J b k u) → Tri.T C c E J F D Q) : Tri.T C c E I H D Q := by
 intro a w hs hd hw
 obtain ⟨J, h1, h2, h3⟩ := st_freezeRow (hw.perm hp.pick)
 exact k J h1 h3 a w hs hd h2
/-- a nil slice is an owned row of nothing -/
theorem st_nilVec {w0 w : World} {F : List HA} (T : TypeId) (sz : Nat) (h : St w0 I F w) : St w0 I (vec (.slice none 0 0) T sz 0 [] :: F) w :=
 { h with
  sat := fun x hx => by
   rcases List.mem_cons.1 hx with rfl | hx
   ·exact ⟨by simp, .inl ⟨rfl, rfl⟩⟩
   ·exact h.sat x hx
  sep := h.sep
  dis := fun x hx b hb => by
   rcases List.mem_cons.1 hx with rfl | hx
   ·cases hb
   ·exact h.dis x hx b hb }
theorem st_nilT {α : Type} {w0 w : World} {F : List HA} (T : TypeId) (sz : Nat) (f : α → List Value) (h : St w0 I F w) : St w0 I (tvec T sz f (.slice none 0 0) [] :: F) w := st_nilVec T sz h
/-- a row that is just a slice's -/
theorem st_rowVec {w0 w : World} {F : List HA} {b : Nat} {T : TypeId} {sz n : Nat} {cs : List Value} (h : St w0 I (row b T cs :: F) w) (hl : cs.length = n * sz) (hn : n ≤ maxLen) : St w0 I (vec (.slice (some ⟨b, 0, none⟩) n n) T sz n cs :: F) w := by
 have hb : w.heap[b]? = some (.cells cs.toArray T (0, 0)) := h.sat _ (List.mem_cons_self)
 exact { h with
  sat := fun x hx => by
   rcases List.mem_cons.1 hx with rfl | hx
   ·exact ⟨hl, .inr ⟨b, n, cs.toArray, rfl, hb, Nat.le_refl _, hn, by simpa using hl, by simp [← hl]⟩⟩
   ·exact h.sat x (List.mem_cons_of_mem _ hx)
  sep := h.sep
  dis := fun x hx b' hb' => by
   rcases List.mem_cons.1 hx with rfl | hx
   ·cases hb'
    exact h.dis _ (List.mem_cons_self) b rfl
   ·exact h.dis x (List.mem_cons_of_mem _ hx) b' hb' }
end ops
end Go.Tri

/-
 Pointers compared; a text built byte by byte (strings.Builder), and its bytes told as a text.
-/
namespace Go.Tri
open Go.RowKit
section
variable {C : Cx} {E : Env} {I : Look} {H : List HA} {D : List Deferred} {Q : Exit → Act → World → Prop} {o : Oper}
variable {x y : Operand} {t t' : TypeId}
theorem q_eql_pnil {p : Option Addr} (ho : o.op = .binOp .eql t x y t') (ht : C.P.underlying t = some (.pointer (C.P.pointee t))) (hx : ev E x = some (.pointer p)) (hy : ev E y = some (.pointer none)) : Quiet C E I H o (.bool p.isNone) :=
 quiet_bin ho hx hy fun w => run_eql_pointer_nil w t p ht
theorem q_neq_psame {te : TypeId} {b : Addr} {n bytes : Nat} {z : Value} (ho : o.op = .binOp .neq t x y t') (ht : C.P.underlying t = some (.pointer te)) (hi : TI C.P te n bytes z) (hx : ev E x = some (.pointer (some b))) (hy : ev E y = some (.pointer (some b))) : Quiet C E I H o (.bool false) :=
 quiet_bin ho hx hy fun w => by
  obtain ⟨j, hj, _⟩ := hi
  exact Lib.run_neq_ptr_same w b ht hj
theorem shape_row {w : World} {b : Nat} {T : TypeId} {cs : List Value} {fr : Nat × Nat} (hb : w.heap[b]? = some (.cells cs.toArray T fr)) : w.shape? b = some (T, cs.length) := by
 unfold World.shape?
 rw [hb]
 simp
theorem q_toUnsafe {te T : TypeId} {b n bytes : Nat} {z : Value} {cs : List Value} (ho : o.op = .convert t t' x) (hs : C.P.underlying t = some (.pointer te)) (hd : C.P.underlying t' = some .unsafePointer) (hi : TI C.P te n bytes z) (hn : Nat.beq n 0 = false)
  (hx : ev E x = some (.pointer (some ⟨b, 0, none⟩))) [hm : InRow b T cs H] (hcs : Nat.blt 0 cs.length = true) : Quiet C E I H o (.pointer (some ⟨b, 0, none⟩)) :=
 quiet_run (by rw [ho]; rfl) fun a w hsat hw => by
  obtain ⟨j, hj, hj1, _⟩ := hi
  have hb : w.heap[b]? = some (.cells cs.toArray T (0, 0)) := hw.sat _ hm.mem
  simp only [execOp, ho, hsat.ev hx]
  rw [Sem.run_bind, Lib.run_to_unsafe (P := C.P) w ⟨b, 0, none⟩ hs hd hj (by rw [hj1]; intro h; subst h; simp at hn) (shape_row hb) (by simpa using hcs)]
  rfl
theorem q_fromUnsafe {te T : TypeId} {b n bytes : Nat} {z : Value} {cs : List Value} (ho : o.op = .convert t t' x) (hs : C.P.underlying t = some .unsafePointer) (hd : C.P.underlying t' = some (.pointer te)) (hi : TI C.P te n bytes z)
  (hx : ev E x = some (.pointer (some ⟨b, 0, none⟩))) [hm : InRow b T cs H] (hl : liesAt C.P C.P.depth T (cs.length / C.P.cellsOf T) 0 te 1 = true) : Quiet C E I H o (.pointer (some ⟨b, 0, none⟩)) :=
 quiet_run (by rw [ho]; rfl) fun a w hsat hw => by
  obtain ⟨j, hj, hj1, _⟩ := hi
  have hb : w.heap[b]? = some (.cells cs.toArray T (0, 0)) := hw.sat _ hm.mem
  simp only [execOp, ho, hsat.ev hx]
  rw [Sem.run_bind, Lib.run_from_unsafe (P := C.P) w ⟨b, 0, none⟩ hs hd hj (shape_row hb) hl]
  rfl

def sdp : Value → Option Addr
 | .slice A _ _ => A
 | _ => none
/-- a buffer: nil as long as nothing stands in it -/
def BufOk (v : Value) (l : List UInt8) : Prop := v = .slice none 0 0 ∨ l ≠ []
theorem q_sliceData {ty : TypeId} {T : TypeId} {v : Value} {l : List UInt8} (ho : o.op = .call { callee := .builtin .unsafeSliceData, args := #[x], argTypes := #[t] }) (hx : ev E x = some v) [hm : InVec v T 1 l.length (l.map byC).flatten H] (hok : BufOk v l) : Quiet C E I H o (.pointer (sdp v)) :=
 quiet_run (by rw [ho]; rfl) fun a w hsat hw => by
  obtain ⟨_, hh⟩ := hw.sat _ hm.mem
  simp only [execOp, ho, resolve]
  rcases hh with ⟨rfl, hz⟩ | ⟨g, cap, cur, rfl, hg, hn, hc, hsz, htk⟩
  ·simp [hsat.ev hx, invoke, builtin, Lib.run_unsafeSliceData_nil, sdp]
  ·have h0 : l ≠ [] := by rcases hok with h | h; cases h; exact h
   have hl : 0 < l.length := List.length_pos_iff.2 h0
   simp [hsat.ev hx, invoke, builtin, Lib.run_unsafeSliceData_row (P := C.P) w #[t] _ ⟨g, 0, none⟩ l.length cap (by omega), sdp]

theorem e_unsafeString {pt it e e' : TypeId} {v : Value} {l : List UInt8} {F : List HA} (ho : o.op = .call { callee := .builtin .unsafeString, args := #[x, y], argTypes := #[pt, it] }) (hp : C.P.underlying pt = some (.pointer e)) (hc : Nat.beq (C.P.cellsOf e) 1 = true)
  (hx : ev E x = some (.pointer (sdp v))) (hy : ev E y = some (.int .i64 (l.length : Int))) [hpk : PickVec v e' 1 l.length (l.map byC).flatten F H] (hee : e = e') (hok : BufOk v l) (h63 : l.length ≤ 9223372036854775807) :
  Eff C E I H o (fun u I' H' => u = str l ∧ I = I' ∧ H' = F) := by
 subst hee
 intro a w hs hw K Q hk
 have hw' := hw.perm hpk.pick
 obtain ⟨hl, hv⟩ : vecSat v e 1 l.length (l.map byC).flatten (look w) := hw'.sat _ (List.mem_cons_self)
 rcases hv with ⟨rfl, hz⟩ | ⟨g, cap, cur, rfl, hg, hn, hcap, hsz, htk⟩
 ·have hnil : l = [] := List.eq_nil_of_length_eq_zero hz
  subst hnil
  refine wpIn_of_run (v := .string .empty) (w' := w) (by rw [ho]; rfl) ?_ (hk _ I F w ⟨rfl, rfl, rfl⟩ hw'.tail)
  simp only [execOp, ho, resolve]
  simp [hs.ev hx, hs.ev hy, invoke, builtin, sdp, Lib.run_unsafeString_none]
 ·have h0 : l ≠ [] := by rcases hok with h | h; cases h; exact h
  have hg' : w.heap[g]? = some (.cells cur e (0, 0)) := hg
  rw [byC_flat] at htk
  have hsz' : cur.size = cap := by simpa using hsz
  have hrun := Lib.run_unsafeString_row (P := C.P) w pt it o.type e hp (by simpa using hc) g cap (by unfold World.shape?; rw [hg']; simp [hsz']) l h0 hn h63 (fun j c hj => by
   rw [Addr.add_lit]
   unfold World.cell?
   simp only [hg', Option.isSome_none, Bool.false_eq_true, if_false, Nat.zero_add]
   obtain ⟨hj1, hj2⟩ := List.getElem?_eq_some_iff.1 hj
   have h2 : (l.map u8)[j]? = some (u8 c) := by simp [hj]
   rw [← htk, List.getElem?_take] at h2
   split at h2
   ·simpa [u8] using h2
   ·cases h2)
  have hlt : g < w.heap.size := lt_of_some hg'
  have hlen : l.length ≠ 0 := by simpa using h0
  refine wpIn_of_run (v := str l) (w' := w.freeze ⟨g, 0, none⟩ l.length) (by rw [ho]; rfl) ?_ (hk _ I F _ ⟨rfl, rfl, rfl⟩ (St.tail (x := obj g (.cells cur e (0, l.length)))
   (hw'.turn (x := vec _ _ _ _ _) (y := obj g (.cells cur e (0, l.length))) ?_ ?_ ?_ ?_ ?_ ?_ (.inl rfl))))
  ·simp only [execOp, ho, resolve]
   simp [hs.ev hx, hs.ev hy, invoke, builtin, sdp, hrun, str]
  ·unfold World.freeze; rw [if_neg hlen]
  ·unfold World.freeze; rw [if_neg hlen]
  ·unfold World.freeze; rw [if_neg hlen]
  ·unfold World.freeze; rw [if_neg hlen]; simp
  ·intro k hk hne
   unfold World.freeze; rw [if_neg hlen]
   simp only [Array.getElem?_modify]
   rw [if_neg (fun h => hne (by subst h; rfl))]
  ·show (w.freeze ⟨g, 0, none⟩ l.length).heap[g]? = _
   unfold World.freeze; rw [if_neg hlen]
   simp only [Array.getElem?_modify, if_true, hg']
   simp
end
end Go.Tri

/-
 Slices of several elements written out; remainders; two rows made in either order.
-/
namespace Go.Tri
open Go.RowKit
theorem fold_set : ∀ (l : List Value) (k : Nat) (A : Array Value), k + l.length ≤ A.size → ((l.zipIdx k).foldl (fun cs (x : Value × Nat) => cs.setIfInBounds x.2 x.1) A) = (A.toList.take k ++ l ++ A.toList.drop (k + l.length)).toArray
 | [], k, A, hk => by simp
 | v :: l, k, A, hk => by
  simp only [List.length_cons] at hk
  rw [List.zipIdx_cons, List.foldl_cons, fold_set l (k + 1) _ (by simp; omega)]
  congr 1
  simp only [Array.toList_setIfInBounds, List.length_cons]
  rw [List.take_set, List.drop_set, if_pos (by omega), List.set_eq_take_append_cons_drop, if_pos (by simp; omega), List.take_take, Nat.min_eq_left (by omega), show k + 1 + l.length = k + (l.length + 1) by omega]
  simp
theorem foldA (c : Array Value) (off : Nat) (A : Array Value) (h : off + c.size ≤ A.size) : (c.zipIdx.foldl (fun cs (x : Value × Nat) => cs.setIfInBounds (off + x.2) x.1) A) = (A.toList.take off ++ c.toList ++ A.toList.drop (off + c.size)).toArray := by
 have h1 := fold_set c.toList off A (by simpa using h)
 rw [← Array.foldl_toList]
 have h2 : (c.toList.zipIdx off) = c.toList.zipIdx.map (fun x => (x.1, off + x.2)) := by
  rw [List.zipIdx_eq_map_add]
 rw [h2, List.foldl_map] at h1
 simpa using h1
def partsOf : Nat → List Value → List (Nat × Value)
 | _, [] => []
 | k, v :: vs => (k, v) :: partsOf (k + 1) vs
theorem fill_list (n : Nat) : ∀ (vs : List Value) (css : List (List Value)) (k : Nat) (A : Array Value), A.size = (k + vs.length) * n → vs.map (fun v => v.cells.toList) = css → (∀ cs ∈ css, cs.length = n) →
  Instr.fill (fun i => some (i * n, n)) A (partsOf k vs) = some (A.toList.take (k * n) ++ css.flatten).toArray
 | [], css, k, A, hA, hcs, _ => by
  simp only [List.map_nil] at hcs
  subst hcs
  have : A.toList.take (k * n) = A.toList := List.take_of_length_le (by simp [hA])
  simp [partsOf, Instr.fill, this]
 | v :: vs, css, k, A, hA, hcs, hn => by
  simp only [List.map_cons] at hcs
  subst hcs
  have hv : v.cells.size = n := by simpa using hn v.cells.toList (List.mem_cons_self)
  have e1 : (k + (vs.length + 1)) * n = k * n + n + vs.length * n := by rw [Nat.add_mul, Nat.add_mul]; omega
  simp only [List.length_cons] at hA
  rw [e1] at hA
  have hfit : k * n + v.cells.size ≤ A.size := by rw [hv, hA]; omega
  have e2 : (k + 1) * n = k * n + n := by rw [Nat.add_mul, Nat.one_mul]
  have hlen : (A.toList.take (k * n)).length = k * n := by
   rw [List.length_take]; simp; omega
  show (match (some (k * n, n) : Option (Nat × Nat)) with | none => none | some (off, size) => if v.cells.size ≠ size || off + v.cells.size > A.size then none else Instr.fill _ (v.cells.zipIdx.foldl (fun cs (c, j) => cs.setIfInBounds (off + j) c) A) (partsOf (k + 1) vs)) = _
  simp only [hv, ne_eq, not_true_eq_false, decide_false, Bool.false_or, gt_iff_lt]
  rw [if_neg (by rw [hv] at hfit; simpa using hfit)]
  have hfold := foldA v.cells (k * n) A hfit
  rw [hfold]
  have e3 : (k + 1 + vs.length) * n = k * n + n + vs.length * n := by rw [Nat.add_mul, e2]
  rw [fill_list n vs _ (k + 1) _ (by simp; rw [e3]; omega) rfl (fun cs h => hn cs (List.mem_cons_of_mem _ h))]
  congr 2
  simp only [List.flatten_cons]
  rw [← List.append_assoc]
  congr 1
  rw [e2, show k * n + n = (A.toList.take (k * n) ++ v.cells.toList).length by rw [List.length_append, hlen]; simp [hv]]
  rw [List.take_left]
section
variable {C : Cx} {E : Env} {I : Look} {H : List HA} {D : List Deferred} {Q : Exit → Act → World → Prop} {o : Oper}
theorem e_buildSliceN {t e : TypeId} {m n bytes : Nat} {parts : Array (Nat × Operand)} {vs : List Value} {css : List (List Value)} {z : Value} (ho : o.op = .buildSlice t m parts) (ht : C.P.underlying t = some (.slice e)) (hi : TI C.P e n bytes z) (hn : (Nat.ble 1 n && Nat.ble (m * n) 1000 && Nat.ble 1 m) = true) (hz : z.cells.size = n)
  (hx : evP E parts.toList = some (partsOf 0 vs)) (hm : vs.length = m) (hc : vs.map (fun v => v.cells.toList) = css) (hl : ∀ cs ∈ css, cs.length = n) :
  Eff C E I H o (fun v I' H' => ∃ b, v = .slice (some ⟨b, 0, none⟩) m m ∧ I = I' ∧ H' = row b e css.flatten :: H) := by
 refine eff_new (x := fun p => match p with | .pointer a => .slice a m m | _ => p) (by rw [ho]; rfl) fun a w hs _ => ?_
 have hn : (1 ≤ n ∧ m * n ≤ 1000) ∧ 1 ≤ m := by simpa using hn
 have hp : (parts.map fun (p : Nat × Operand) => (p.1, a.eval p.2)).toList = partsOf 0 vs := by
  rw [Array.toList_map]
  exact hs.evP hx
 have hf : Instr.fill (fun i => some (i * n, n)) ((Array.range (m * n)).map (z.cells[· % z.cells.size]!)) (partsOf 0 vs) = some css.flatten.toArray := by
  rw [fill_list n vs css 0 _ (by simp [hm]) hc hl]
  simp
 have hmn : ¬ (m * n = 0) := by
  have := Nat.mul_pos (show 0 < m by omega) (show 0 < n by omega)
  omega
 simp only [execOp, ho, Instr.buildSlice]
 simp only [hp]
 simp [run_underlying ht, hi.sizeOf, hi.zero, show ¬ (16777216 < m * n) from by omega, show ¬ m = 0 from by omega, show ¬ n = 0 from by omega, hf, run_newRow]
 intro h
 exact absurd h hmn
theorem q_rem {x y : Operand} {t t' : TypeId} {k : IntKind} {m n : Int} (ho : o.op = .binOp .rem t x y t') (hx : ev E x = some (.int k m)) (hy : ev E y = some (.int k n)) (h : n ≠ 0) : Quiet C E I H o (.int k (m.tmod n)) :=
 quiet_bin ho hx hy fun w => by simp [eqGuard_rem, binOp_rem, Op.intDiv, h]
end
end Go.Tri

/-
 Pieces of slices that do not turn any more.
-/
namespace Go.Tri
open Go.RowKit
/-- elements l to h of a slice -/
def cutV (sz l h : Nat) : Value → Value
 | .slice a _ c => .slice (if c = l then a else a.map (·.add (l * sz))) (h - l) (c - l)
 | v => v
theorem Sl.cut {I : Look} {sz l h : Nat} {v : Value} {xss : List (List Value)} (hs : Sl I sz v xss) (h1 : l ≤ h) (h2 : h ≤ xss.length) : Sl I sz (cutV sz l h v) ((xss.drop l).take (h - l)) := by
 obtain ⟨⟨A, c, rfl, hc, hA, hne⟩, hcell⟩ := hs
 have hlen : ((xss.drop l).take (h - l)).length = h - l := by simp; omega
 have hpos : (xss.drop l).take (h - l) ≠ [] → l < h := fun hn => by
  have := List.length_pos_iff.2 hn
  omega
 have hx : (xss.drop l).take (h - l) ≠ [] → xss ≠ [] := fun hn he => by subst he; simp at hn
 refine ⟨⟨_, _, by rw [hlen]; rfl, by omega, fun hn a ha => ?_, fun hn => ?_⟩, fun i j cs u hi hj => ?_⟩
 ·have := hpos hn
  rw [if_neg (by omega)] at ha
  cases A with
  | none => cases ha
  | some a0 =>
   have h0 := hA (hx hn) a0 rfl
   obtain ⟨b, o, sp⟩ := a0
   cases h0
   simp only [Option.map_some, Option.some.injEq] at ha
   rw [Addr.add_lit] at ha
   subst ha; rfl
 ·have := hpos hn
  rw [if_neg (by omega)]
  cases A with
  | none => exact absurd rfl (hne (hx hn))
  | some a0 => simp
 ·have hi' : i < h - l := by
   have := (List.getElem?_eq_some_iff.1 hi).1
   rw [hlen] at this; exact this
  rw [List.getElem?_take, if_pos hi', List.getElem?_drop] at hi
  have hn : xss ≠ [] := by rintro rfl; simp at hi
  have hk := hcell (l + i) j cs u hi hj
  cases A with
  | none => exact absurd rfl (hne hn)
  | some a0 =>
   have h0 := hA hn a0 rfl
   obtain ⟨b, o, sp⟩ := a0
   cases h0
   simp only [cutV, adr]
   rw [if_neg (by omega)]
   simp only [Option.map_some, Addr.add_lit]
   have e : o + l * sz + i * sz + j = o + (l + i) * sz + j := by rw [Nat.add_mul]; omega
   rw [e]
   exact hk
theorem Sl.drop {I : Look} {sz l n : Nat} {v : Value} {xss : List (List Value)} (hs : Sl I sz v xss) (hn : xss.length = n) (h1 : l ≤ n) : Sl I sz (cutV sz l n v) (xss.drop l) := by
 have := hs.cut (l := l) (h := n) h1 (by omega)
 rwa [List.take_of_length_le (by simp; omega)] at this
theorem Sl.dropM {α : Type} {I : Look} {sz l n : Nat} {v : Value} {f : α → List Value} {xs : List α} (hs : Sl I sz v (xs.map f)) (hn : xs.length = n) (h1 : l ≤ n) : Sl I sz (cutV sz l n v) ((xs.drop l).map f) := by
 have := hs.drop (l := l) (n := n) (by rw [List.length_map]; exact hn) h1
 rwa [← List.map_drop] at this
theorem Sl.cutM {α : Type} {I : Look} {sz l h : Nat} {v : Value} {f : α → List Value} {xs : List α} (hs : Sl I sz v (xs.map f)) (h1 : l ≤ h) (h2 : h ≤ xs.length) : Sl I sz (cutV sz l h v) (((xs.drop l).take (h - l)).map f) := by
 have := hs.cut (l := l) (h := h) h1 (by rw [List.length_map]; exact h2)
 rwa [← List.map_drop, ← List.map_take] at this

section
variable {C : Cx} {E : Env} {I : Look} {H : List HA} {D : List Deferred} {Q : Exit → Act → World → Prop} {o : Oper}
variable {x i j : Operand} {t e : TypeId} {v z : Value} {kl kh : IntKind} {m k : Int} {n sz bytes : Nat}
theorem elem_of {P : Program} {t e : TypeId} (ht : P.underlying t = some (.slice e)) : P.underlying t = some (.slice (P.elem t)) ∧ P.elem t = e := by
 have : P.elem t = e := by unfold Program.elem; rw [ht]
 exact ⟨by rw [this]; exact ht, this⟩
theorem q_slice_from (ho : o.op = .slice t x (some i) none none) (ht : C.P.underlying t = some (.slice e)) (hi : TI C.P e sz bytes z) (hx : ev E x = some v) (hj : ev E i = some (.int kl m)) (hv : ∃ A c, v = .slice A n c) (h : 0 ≤ m ∧ m ≤ n) :
  Quiet C E I H o (cutV sz m.toNat n v) :=
 quiet_run (by rw [ho]; rfl) fun a w hs _ => by
  obtain ⟨A, c, rfl⟩ := hv
  obtain ⟨ht', he⟩ := elem_of ht
  simp only [execOp, ho, hs.ev hx, Option.map_some, Option.map_none, hs.ev hj]
  rw [Sem.run_bind, run_sliceAt_slice w t _ _ _ _ ht', run_slice_l w t A n c ht' kl m h.1 h.2, he]
  simp [hi.sizeOf, sliced, cutV]
theorem q_slice_to (ho : o.op = .slice t x none (some j) none) (ht : C.P.underlying t = some (.slice e)) (hi : TI C.P e sz bytes z) (hx : ev E x = some v) (hj : ev E j = some (.int kh k)) (hv : ∃ A c, v = .slice A n c ∧ n ≤ c) (h : 0 ≤ k ∧ k ≤ n) :
  Quiet C E I H o (cutV sz 0 k.toNat v) :=
 quiet_run (by rw [ho]; rfl) fun a w hs _ => by
  obtain ⟨A, c, rfl, hc⟩ := hv
  obtain ⟨ht', he⟩ := elem_of ht
  simp only [execOp, ho, hs.ev hx, Option.map_some, Option.map_none, hs.ev hj]
  rw [Sem.run_bind, run_sliceAt_slice w t _ _ _ _ ht', run_slice_h w t A n c ht' kh k h.1 (by omega), he]
  simp [hi.sizeOf, sliced, cutV]
theorem Sl.capOf {xss : List (List Value)} (h : Sl I sz v xss) (hn : xss.length = n) : ∃ A c, v = .slice A n c ∧ n ≤ c := by
 obtain ⟨⟨A, c, rfl, hc, _⟩, _⟩ := h
 exact ⟨A, c, by rw [hn], by omega⟩
end
end Go.Tri
namespace Go.Tri
open Go.RowKit
/-! short circuits within one another -/
/-- none of G is wanted: guarded by operation j the other way, or by one of G itself -/
def skipOk (ops : Array Oper) (j : Nat) (want : Bool) : List Oper → List Nat → Bool
 | [], _ => true
 | o :: G, dead => (match o.guard with
   | none => false
   | some (j', b') => (Nat.beq j' j && b' == want) || (match ops[j']? with
    | some oj => match oj.dst with | some d => dead.contains d | none => false
    | none => false)) && skipOk ops j want G (match o.dst with | some d => d :: dead | none => dead)
section
variable {C : Cx} {ops : Array Oper} {I : Look} {H : List HA} {E : Env} {D : List Deferred} {Q : Exit → Act → World → Prop} {K K' : Act → Prop}
def Dead (a : Act) (d : Nat) : Prop := a.tmps[d]? = some undef ∨ a.tmps[d]? = none
theorem dead_put {a : Act} {d : Nat} {dst : Option Nat} (h : Dead a d) : Dead (a.put dst undef) d := by
 cases dst with
 | none => exact h
 | some e =>
  unfold Dead at *
  by_cases he : e = d
  ·subst he
   rcases Nat.lt_or_ge e a.tmps.size with hlt | hge
   ·left; simp [Act.put, hlt]
   ·right; simp [Act.put, hge]
  ·simpa [Act.put, Array.getElem?_setIfInBounds_ne he] using h
theorem dead_put_self (a : Act) (d : Nat) : Dead (a.put (some d) undef) d := by
 unfold Dead
 rcases Nat.lt_or_ge d a.tmps.size with hlt | hge
 ·left; simp [Act.put, hlt]
 ·right; simp [Act.put, hge]
theorem qs_skips2 {j : Nat} {b b' : Bool} (hbb : b ≠ b') : ∀ (G : List Oper) (dead : List Nat) (a : Act), skipOk ops j b G dead = true → (∀ d ∈ dead, Dead a d) → yielded ops a.tmps j = some b' → (∀ oj dj, ops[j]? = some oj → oj.dst = some dj → dj ∉ dsts G) →
  (∀ a', a'.defers = a.defers → a'.tmps.size = a.tmps.size → (∀ t, t ∉ dsts G → a'.tmps[t]? = a.tmps[t]?) → K a') → qs C ops I H K G a
 | [], _, _, _, _, _, _, h => h _ rfl rfl fun _ _ => rfl
 | o :: G, dead, a, hG, hd0, hy, hn, h => by
  unfold skipOk at hG
  rw [Bool.and_eq_true] at hG
  refine .inr ⟨?_, qs_skips2 hbb G (match o.dst with | some d => d :: dead | none => dead) _ hG.2 ?_ ?_ (fun oj dj h1 h2 hm => hn oj dj h1 h2 ?_) (fun a' h1 h2 h3 => h a' (h1.trans (put_defers _ _ _)) (h2.trans (put_size _ _ _)) fun t ht => ?_)⟩
  ·cases hg : o.guard with
   | none => simp [hg] at hG
   | some p =>
    obtain ⟨j', b1⟩ := p
    have h1 := hG.1
    simp only [hg, Bool.or_eq_true, Bool.and_eq_true] at h1
    rcases h1 with ⟨h1, h2⟩ | h1
    ·have e1 := Nat.eq_of_beq_eq_true h1
     subst e1
     have e2 : b1 = b := by simpa using h2
     subst e2
     simp [Region.wanted, hg, hy, hbb.symm]
    ·cases hj : ops[j']? with
     | none => simp [hj] at h1
     | some oj =>
      simp only [hj] at h1
      cases hdj : oj.dst with
      | none => simp [hdj] at h1
      | some dj =>
       simp only [hdj] at h1
       have := hd0 dj (by simpa using h1)
       have hyn : yielded ops a.tmps j' = none := by
        unfold yielded
        simp only [hj, hdj, Option.bind_some]
        rcases this with e | e <;> simp [e, undef]
       simp [Region.wanted, hg, hyn]
  ·intro d hd
   cases ho : o.dst with
   | none => rw [ho] at hd; exact hd0 d hd
   | some e =>
    rw [ho] at hd
    rcases List.mem_cons.1 hd with rfl | hd
    ·exact dead_put_self a _
    ·exact dead_put (hd0 d hd)
  ·cases hd : o.dst with
   | none => exact hy
   | some d =>
    unfold yielded at hy ⊢
    cases hj : ops[j]? with
    | none => simp [hj] at hy
    | some oj =>
     cases hdj : oj.dst with
     | none => simp [hj, hdj] at hy
     | some dj =>
      have hne : d ≠ dj := fun e => hn oj dj hj hdj (by subst e; unfold dsts; rw [List.filterMap_cons, hd]; exact List.mem_cons_self)
      simp only [hj, hdj, Option.bind_some] at hy ⊢
      simpa [Act.put, Array.getElem?_setIfInBounds_ne hne] using hy
  ·unfold dsts at hm ⊢
   rw [List.filterMap_cons]
   split
   ·exact hm
   ·exact List.mem_cons_of_mem _ hm
  ·unfold dsts at ht
   rw [List.filterMap_cons] at ht
   cases hd : o.dst with
   | none =>
    rw [hd] at ht
    have := h3 t ht
    rw [hd] at this
    exact this
   | some d =>
    rw [hd] at ht
    have := h3 t (fun hm => ht (List.mem_cons_of_mem _ hm))
    rw [hd] at this
    rw [this]
    have hne : d ≠ t := fun e => ht (by subst e; exact List.mem_cons_self)
    simp [Act.put, Array.getElem?_setIfInBounds_ne hne]
theorem s_short2 {l rest : List Oper} {p oj : Oper} (k j dj d y : Nat) (want b c : Bool) (hsplit : l.drop k = p :: rest) (hga : skipOk ops j want (l.take k) [] = true) (hj : ops[j]? = some oj) (hdj : oj.dst = some dj)
  (hb : get E dj = some (.bool b)) (hoff : (keysOff (dsts (l.take k)) E && !(dsts (l.take k)).contains dj) = true)
  (hy : b = want → QS C ops (l.take k) ((dj, .bool want) :: E) I H (fun a' => a'.tmps[y]? = some (.bool c)))
  (hpw : ∀ a : Act, Sat E C.n a.tmps → Region.wanted p (yielded ops a.tmps) = true) (hpd : p.dst = some d) (hn : Nat.blt d C.n = true) (hpp : (want = true ∧ p.op = .pick (.tmp dj) (.tmp y) (.const (.bool false))) ∨ (want = false ∧ p.op = .pick (.tmp dj) (.const (.bool true)) (.tmp y)))
  (kk : QS C ops rest ((d, .bool (if want then b && c else b || c)) :: E) I H K) : QS C ops l E I H K := by
 intro a hs
 rw [Bool.and_eq_true] at hoff
 rw [← List.take_append_drop k l, hsplit]
 refine qs_append _ _ _ ?_
 have hyl := yielded_of (C := C) hs hj hdj hb
 have after : ∀ a' : Act, a'.defers = a.defers → a'.tmps.size = a.tmps.size → (∀ t, t ∉ dsts (l.take k) → a'.tmps[t]? = a.tmps[t]?) → (b = want → a'.tmps[y]? = some (.bool c)) → qs C ops I H K (p :: rest) a' := by
  intro a' _ h2 h3 h4
  have hsE : Sat E C.n a'.tmps := ⟨by rw [h2]; exact hs.1, fun t v ht => by rw [h3 t (get_keysOff hoff.1 ht)]; exact hs.2 t v ht⟩
  have hc : a'.eval (.tmp dj) = .bool b := hsE.ev (x := .tmp dj) hb
  refine .inl ⟨hpw a' hsE, .bool (if want then b && c else b || c), fun w _ => ?_, by rw [hpd]; exact kk _ (hsE.put (by simpa using hn) _)⟩
  have e1 : ∀ u, a'.eval (.const u) = u := fun _ => rfl
  rcases hpp with ⟨rfl, hp⟩ | ⟨rfl, hp⟩
  ·refine ⟨by rw [hp]; rfl, ?_⟩
   cases b with
   | false => simp [execOp, hp, hc, asBool, e1]
   | true =>
    have hy' : a'.eval (.tmp y) = .bool c := by simp [Act.eval, h4 rfl]
    simp [execOp, hp, hc, hy', asBool, e1]
  ·refine ⟨by rw [hp]; rfl, ?_⟩
   cases b with
   | true => simp [execOp, hp, hc, asBool, e1]
   | false =>
    have hy' : a'.eval (.tmp y) = .bool c := by simp [Act.eval, h4 rfl]
    simp [execOp, hp, hc, hy', asBool, e1]
 by_cases e : b = want
 ·subst e
  have h1 := hy rfl a (hs.sub (sub_cons hb (Sub.refl E)))
  exact qs_mono (fun a' h => after a' h.2.1 h.2.2.1 h.2.2.2 fun _ => h.1) _ _ (qs_keeps _ _ h1)
 ·refine qs_skips2 (b := want) (b' := b) (Ne.symm e) _ [] a hga (fun d hd => by cases hd) hyl (fun oj' dj' h1 h2 => ?_) fun a' h1 h2 h3 => after a' h1 h2 h3 fun e' => absurd e' e
  have : oj' = oj := Option.some.inj (h1.symm.trans hj)
  subst this
  rw [hdj] at h2
  cases h2
  simpa using hoff.2
end
end Go.Tri

/-
 New rows out of texts and out of nothing; an owned row grown by what does not turn.
-/
namespace Go.Tri
open Go.RowKit
theorem St.newW {w0 w w' : World} {I : Look} {H : List HA} (h : St w0 I H w) (o : Obj) (os : w'.os = w.os) (tape : w'.tape = w.tape) (output : w'.output = w.output) (size : w.heap.size ≤ w'.heap.size)
  (old : ∀ k, k < w.heap.size → w'.heap[k]? = w.heap[k]?) (new : w'.heap[w.heap.size]? = some o) : St w0 I (obj w.heap.size o :: H) w' := by
 have h' := h.garb (w' := w') ⟨os, tape, output, size, old⟩
 have h0 := h.new o
 exact { h' with
  sat := fun x hx => by
   rcases List.mem_cons.1 hx with rfl | hx
   ·exact new
   ·exact h'.sat x hx
  sep := h0.sep
  dis := h0.dis }
theorem st_freezeObj {w0 w : World} {I : Look} {b : Nat} {o : Obj} {F : List HA} (h : St w0 I (obj b o :: F) w) : ∃ J, Le I J ∧ J b = some o ∧ St w0 J F w := by
 have hb : w.heap[b]? = some o := h.sat _ (List.mem_cons_self)
 have hIb : I b = none := h.dis _ (List.mem_cons_self) b rfl
 let J : Look := fun k => if k = b then some o else I k
 refine ⟨J, fun k o' hk => ?_, by show (if b = b then _ else _) = _; rw [if_pos rfl], ?_⟩
 ·show (if k = b then _ else I k) = _
  split
  ·rename_i e; subst e; rw [hIb] at hk; cases hk
  ·exact hk
 ·refine { h.tail with imm := fun k o' hk => ?_, dis := fun y hy k hk => ?_ }
  ·have hk' : (if k = b then some o else I k) = some o' := hk
   by_cases e : k = b
   ·subst e
    rw [if_pos rfl] at hk'
    cases hk'
    exact hb
   ·rw [if_neg e] at hk'
    exact h.imm k o' hk'
  ·show (if k = b then _ else I k) = none
   by_cases e : k = b
   ·subst e
    exfalso
    have hsep := h.sep
    unfold owns at hsep
    rw [List.filterMap_cons] at hsep
    exact (List.nodup_cons.1 hsep).1 (List.mem_filterMap.2 ⟨y, hy, hk⟩)
   ·rw [if_neg e]
    exact h.tail.dis y hy k hk
theorem flat_at {α : Type} {f : α → List Value} {sz : Nat} (hu : ∀ c, (f c).length = sz) : ∀ {l : List α} {i j : Nat} {cs : List Value} {u : Value}, (l.map f)[i]? = some cs → cs[j]? = some u → (l.map f).flatten[i * sz + j]? = some u
 | [], _, _, _, _, hi, _ => by cases hi
 | c :: l, 0, j, cs, u, hi, hj => by
  simp only [List.map_cons, List.getElem?_cons_zero, Option.some.injEq] at hi
  subst hi
  have hlt := (List.getElem?_eq_some_iff.1 hj).1
  simp only [List.map_cons, List.flatten_cons, Nat.zero_mul, Nat.zero_add]
  rw [List.getElem?_append_left hlt]
  exact hj
 | c :: l, i + 1, j, cs, u, hi, hj => by
  simp only [List.map_cons, List.getElem?_cons_succ] at hi
  simp only [List.map_cons, List.flatten_cons]
  rw [Nat.add_mul, Nat.one_mul, List.getElem?_append_right (by rw [hu]; omega), hu, show i * sz + sz + j - sz = i * sz + j by omega]
  exact flat_at hu hi hj
section
variable {C : Cx} {E : Env} {I : Look} {H : List HA} {D : List Deferred} {Q : Exit → Act → World → Prop} {o : Oper}
theorem e_strBytes {t t' e : TypeId} {x : Operand} {s : List UInt8} (ho : o.op = .convert t t' x) (hs : C.P.underlying t = some .string) (hd : C.P.underlying t' = some (.slice e)) (he : C.P.underlying e = some (.int .u8)) (hx : ev E x = some (str s)) :
  Eff C E I H o (fun v I' H' => Le I I' ∧ Sl I' 1 v (s.map byC) ∧ H = H') := by
 intro a w hsat hw K Q hk
 have hw1 := hw.newW (w' := Lib.bytesWorld w e ⟨s.toArray⟩) _ (by simp [Lib.bytesWorld, World.freeze]; rfl) (by simp [Lib.bytesWorld, World.freeze]) (by simp [Lib.bytesWorld, World.freeze]; rfl) (by rw [Lib.bytesWorld_size]; omega) (fun k hk => Lib.bytesWorld_at_old w e _ k hk) (Lib.bytesWorld_at_new w e ⟨s.toArray⟩)
 obtain ⟨J, h1, h2, h3⟩ := st_freezeObj hw1
 refine wpIn_of_run (w' := Lib.bytesWorld w e ⟨s.toArray⟩) (v := .slice (some ⟨w.heap.size, 0, none⟩) s.length (grownCap w s.length 0 e)) (by rw [ho]; rfl) ?_ (hk _ J H _ ⟨h1, ?_, rfl⟩ h3)
 ·simp only [execOp, ho, hsat.ev hx]
  rw [Sem.run_bind]
  unfold str
  rw [Lib.run_convert_string_bytes w t t' e ⟨s.toArray⟩ hs hd he]
  simp [size_str]
 ·refine ⟨⟨some ⟨w.heap.size, 0, none⟩, _, by rw [List.length_map], ?_, fun _ a ha => (by cases ha; rfl), fun _ h => (by cases h)⟩, fun i j cs u hi hj => ⟨_, _, _, h2, ?_⟩⟩
  ·rw [List.length_map]; exact grownCap_ge w s.length 0 e
  ·have := flat_at (sz := 1) (fun _ => rfl) hi hj
   rw [byC_flat] at this
   show (Lib.bytesCells w e ⟨s.toArray⟩)[0 + i * 1 + j]? = some u
   rw [Nat.zero_add]
   unfold Lib.bytesCells
   have hlt := (List.getElem?_eq_some_iff.1 this).1
   rw [List.length_map] at hlt
   rw [Array.getElem?_append_left (by simpa using hlt)]
   simpa [u8] using this
theorem e_buildSlice0 {t e : TypeId} {n bytes : Nat} {z : Value} (ho : o.op = .buildSlice t 0 #[]) (ht : C.P.underlying t = some (.slice e)) (hi : TI C.P e n bytes z) :
  Eff C E I H o (fun v I' H' => (∃ b, v = .slice (some ⟨b, 0, none⟩) 0 0) ∧ I = I' ∧ H' = vec v e n 0 [] :: H) := by
 intro a w hs hw K Q hk
 have hw1 := hw.new (.cells #[] e (0, 0))
 refine wpIn_of_run (w' := w.alloc (.cells #[] e)) (v := .slice (some ⟨w.heap.size, 0, none⟩) 0 0) (by rw [ho]; rfl) ?_ (hk _ I _ _ ⟨⟨_, rfl⟩, rfl, rfl⟩ ?_)
 ·simp only [execOp, ho, Instr.buildSlice]
  simp [run_underlying ht, hi.sizeOf, Instr.fill, run_newRow]
  congr 2
  exact Array.eq_empty_of_size_eq_zero (by simp)
 ·exact { hw1 with
   sat := fun x hx => by
    rcases List.mem_cons.1 hx with rfl | hx
    ·exact ⟨by simp, .inr ⟨w.heap.size, 0, #[], rfl, heap_alloc_new w _, Nat.le_refl _, by simp [maxLen], by simp, by simp⟩⟩
    ·exact hw1.sat x (List.mem_cons_of_mem _ hx)
   sep := hw1.sep
   dis := fun x hx b' hb' => by
    rcases List.mem_cons.1 hx with rfl | hx
    ·cases hb'
     exact hw1.dis _ (List.mem_cons_self) _ rfl
    ·exact hw1.dis x (List.mem_cons_of_mem _ hx) b' hb' }
/-- elements that do not turn, behind an owned slice -/
theorem e_appendSl {α : Type} {f : α → List Value} {l ls : List α} {x y : Operand} {t e e' : TypeId} {sz bytes : Nat} {v vy z : Value} {F : List HA} (ho : o.op = .call { callee := .builtin .append, args := #[x, y], argTypes := #[t, t] })
  (ht : C.P.underlying t = some (.slice e)) (hi : TI C.P e sz bytes z) (hz : z.cells.size = sz) (hsz : Nat.blt 0 sz = true)
  (hx : ev E x = some v) (hy : ev E y = some vy) (hsl : Sl I sz vy (ls.map f)) [hpk : PickVec v e' sz l.length (l.map f).flatten F H] (hee : e = e')
  (hu : ∀ c, (f c).length = sz) (h1 : ∀ c, ∀ u ∈ f c, u.oneCell' = true) (h63 : l.length + ls.length ≤ maxLen) (hby : (l.length + ls.length) * bytes ≤ 140737488355328) :
  Eff C E I H o (fun v' I' H' => I = I' ∧ H' = tvec e' sz f v' (l ++ ls) :: F) := by
 by_cases hn : ls = []
 ·subst hn
  subst hee
  intro a w hs hw K Q hk
  have hw' := hw.perm hpk.pick
  obtain ⟨⟨A, c, rfl, hc, _⟩, _⟩ := hsl
  obtain ⟨i, hii, hi1, hi2, hi3⟩ := hi
  obtain ⟨hl, hv⟩ : vecSat v e sz l.length (l.map f).flatten (look w) := hw'.sat _ (List.mem_cons_self)
  have hle : ∃ base cap, v = .slice base l.length cap ∧ l.length ≤ cap := by
   rcases hv with ⟨rfl, h0⟩ | ⟨g, cap, cur, rfl, _, hle, _⟩
   ·exact ⟨none, 0, by rw [h0], by omega⟩
   ·exact ⟨_, _, rfl, hle⟩
  obtain ⟨base, cap, rfl, hle⟩ := hle
  have hsrc : ∀ w, Lib.bytesWorld w e ⟨#[]⟩ = Lib.bytesWorld w e ⟨#[]⟩ := fun _ => rfl
  have hrun : (Builtin.append_ #[t, t] o.type #[.slice base l.length cap, .slice A 0 c]).run C.P w = .ok (.slice base l.length cap) w := by
   refine run_append_nothing (P := C.P) w t t o.type e i ht hii base l.length cap hle (.slice A 0 c) ⟨.inl ⟨e, ht⟩, fun w' => rfl, ?_, ?_, by simp, fun _ h => by cases h⟩ <;> cases A <;> simp [Builtin.firstCells, loadCells, loadCellsFrom]
  refine wpIn_of_run (v := .slice base l.length cap) (w' := w) (by rw [ho]; rfl) ?_ (hk _ I _ w ⟨rfl, by rw [tvec, List.append_nil]⟩ hw')
  simp only [execOp, ho, resolve]
  simp only [List.map_nil, List.length_nil] at hy
  simp [hs.ev hx, hs.ev hy, invoke, builtin, hrun]
 ·have hmn : ls.map f ≠ [] := by simpa using hn
  obtain ⟨⟨A, c, rfl, hc, hsp, hne⟩, hcell⟩ := id hsl
  cases A with
  | none => exact absurd rfl (hne hmn)
  | some ad =>
   have hspot := hsp hmn ad rfl
   obtain ⟨b, off, sp⟩ := ad
   cases hspot
   have hlen : ∀ m : List α, (m.map f).flatten.length = m.length * sz := fun m => by
    induction m with
    | nil => simp
    | cons d m ih => simp only [List.map_cons, List.flatten_cons, List.length_append, ih, hu, List.length_cons, Nat.add_mul, Nat.one_mul]; omega
   have key : ∀ (m : List α) (j : Nat) (u : Value), (m.map f).flatten[j]? = some u → ∃ i k cs, (m.map f)[i]? = some cs ∧ cs[k]? = some u ∧ j = i * sz + k := by
    intro m
    induction m with
    | nil => intro j u h; cases h
    | cons d m ih =>
     intro j u h
     simp only [List.map_cons, List.flatten_cons] at h
     rcases Nat.lt_or_ge j (f d).length with hlt | hge
     ·rw [List.getElem?_append_left hlt] at h
      exact ⟨0, j, f d, rfl, h, by omega⟩
     ·rw [List.getElem?_append_right hge] at h
      obtain ⟨i, k, cs, h1, h2, h3⟩ := ih _ _ h
      refine ⟨i + 1, k, cs, by simpa using h1, h2, ?_⟩
      rw [hu] at h3 hge
      rw [Nat.add_mul, Nat.one_mul]
      omega
   have hy' : ev E y = some (.slice (some ⟨b, off, none⟩) ls.length c) := by rw [hy, List.length_map]
   have := e_append (C := C) (E := E) (I := I) (H := H) (news := (ls.map f).flatten) ho ht hi hz hsz hx hy' hee (rds_imm fun j u hj => by
    obtain ⟨i, k, cs, h1, h2, rfl⟩ := key ls j u hj
    have := hcell i k cs u h1 h2
    rw [← Nat.add_assoc]
    exact this) (hlen ls) (fun u hu' => by
     obtain ⟨cs, h2, h3⟩ := List.mem_flatten.1 hu'
     obtain ⟨c', _, rfl⟩ := List.mem_map.1 h2
     exact h1 c' u h3) h63 hby
   simpa [tvec] using this
end
end Go.Tri

/-
 A function's results, in slots and in cells; a function value called; a range over a function that is left.
-/
namespace Go.Tri
open Go.RowKit
/-- what the result variables hold -/
def ResOf (C : Cx) (E : Env) (I : Look) (F : List HA) : List ResultVar → List Value → Prop
 | [], [] => True
 | .tmp t :: rs, v :: vs => get E t = some v ∧ ResOf C E I F rs vs
 | .cell a t :: rs, v :: vs => (∃ b off d, get E a = some (.pointer (some ⟨b, off, none⟩)) ∧ C.P.underlying t = some d ∧ notAgg d = true ∧ Rd C.w0 I F b off v) ∧ ResOf C E I F rs vs
 | _, _ => False
def retV : List Value → Value
 | [v] => v
 | vs => .tuple vs.toArray
section
variable {C : Cx} {E : Env} {I : Look} {H F : List HA} {R : Ending → World → Prop} {fn : Func}
theorem res_nil : ResOf C E I F [] [] := trivial
theorem res_tmp {t : Nat} {v : Value} {rs : List ResultVar} {vs : List Value} (h : get E t = some v) (k : ResOf C E I F rs vs) : ResOf C E I F (.tmp t :: rs) (v :: vs) := ⟨h, k⟩
theorem res_cell {a b off : Nat} {t : TypeId} {d : TypeDesc} {v : Value} {rs : List ResultVar} {vs : List Value} (h : get E a = some (.pointer (some ⟨b, off, none⟩))) (ht : C.P.underlying t = some d) (hd : notAgg d = true) (hr : Rd C.w0 I F b off v) (k : ResOf C E I F rs vs) :
  ResOf C E I F (.cell a t :: rs) (v :: vs) := ⟨⟨b, off, d, h, ht, hd, hr⟩, k⟩
def resF (τ : Array Value) : ResultVar → Sem Value
 | .tmp t => pure (τ.getD t undef)
 | .cell a t => do loadVar t (← asAddr (τ.getD a undef))
theorem results_eq (fn : Func) (τ : Array Value) : results fn τ = (do let vs ← fn.results.mapM (resF τ); pure (if h : vs.size = 1 then vs[0] else .tuple vs)) := by
 unfold results
 congr 2
theorem run_res {τ : Array Value} {w : World} (hs : Sat E C.n τ) (hw : St C.w0 I F w) : ∀ {rs : List ResultVar} {vs : List Value}, ResOf C E I F rs vs → (rs.mapM (resF τ)).run C.P w = .ok vs w
 | [], [], _ => by simp
 | .tmp t :: rs, v :: vs, h => by
  have ih := run_res hs hw h.2
  have h1 := hs.2 t v h.1
  simp only [List.mapM_cons, Sem.run_bind, ih]
  simp [h1, resF, ih]
 | .cell a t :: rs, v :: vs, h => by
  obtain ⟨⟨b, off, d, h1, h2, h3, h4⟩, h5⟩ := h
  have ih := run_res hs hw h5
  have h6 := hs.2 a _ h1
  have h7 := h4 w hw
  simp only [List.mapM_cons, Sem.run_bind, ih]
  simp [resF, h6, asAddr, loadVar, run_isAgg_false h2 h3, h7, ih]
 | [], _ :: _, h => h.elim
 | .tmp _ :: _, [], h => h.elim
 | .cell _ _ :: _, [], h => h.elim
theorem run_results {τ : Array Value} {w : World} {rs : List ResultVar} {vs : List Value} (hr : fn.results = rs.toArray) (hs : Sat E C.n τ) (hw : St C.w0 I F w) (h : ResOf C E I F rs vs) : (results fn τ).run C.P w = .ok (retV vs) w := by
 rw [results_eq, hr, List.mapM_toArray, Sem.run_bind, Sem.run_map]
 rw [run_res hs hw h]
 simp only [Result.andThen_ok]
 match vs with
 | [] => simp [retV]
 | [v] => simp [retV]
 | _ :: _ :: _ => simp [retV]
theorem leaves_marksG {P : Program} {tmps : Array Value} {w0 : World} {v : Value} (hr : ∀ w, St w0 I F w → (results fn tmps).run P w = .ok v w) : ∀ (bs : List Nat) (w : World), St w0 I (bs.map (fun b => obj b (.deferred (some []))) ++ F) w →
  (∀ w, St w0 I F w → R (.returned v) w) → LeavesInM (WF none) 0 P fn tmps R (marks bs) .returning w
 | [], w, hw, k => ⟨v, hr w hw, k w hw⟩
 | b :: bs, w, hw, k => by
  refine ⟨(by intro h; cases h), .inl ⟨b, w.putObj b (.deferred none), rfl, ?_, ?_⟩⟩
  ·exact run_takeDeferred (hw.sat (obj b (.deferred (some []))) (List.mem_cons_self))
  ·exact leaves_marksG hr bs _ (st_put (y := .deferred none) hw).tail k
theorem n_retGM {bs : List Nat} {rs : List ResultVar} {vs : List Value} {e : Exit} (he : e = .ret ∨ e = .normal) (hr : fn.results = rs.toArray) [hp : PickDs bs F H] (h : ResOf C E I F rs vs) (k : ∀ w, St C.w0 I F w → R (.returned (retV vs)) w) :
  N C e E I H (marks bs) (bodyPostM (WF none) 0 C.P fn R) := by
 intro a w hs hd hw
 have := leaves_marksG (P := C.P) (tmps := a.tmps) (fn := fn) (R := R) (fun w hw => run_results hr hs hw h) bs w (hw.sub hp.sub) k
 rcases he with rfl | rfl
 ·show LeavesInM _ _ _ _ _ _ a.defers .returning w
  rw [hd]; exact this
 ·show LeavesInM _ _ _ _ _ _ a.defers .returning w
  rw [hd]; exact this
end
end Go.Tri
namespace Go.Tri
open Go.RowKit
theorem rd_rowI {w0 : World} {I : Look} {H : List HA} {b o : Nat} {T : TypeId} {cs : List Value} {u : Value} [hm : InRow b T cs H] (hu : cs[o]? = some u) : Rd w0 I H b o u := rd_row hm.mem hu
end Go.Tri
namespace Go.Tri
open Go.RowKit
/-- a contract of a function that leaves old memory alone and hands back something of which R is said -/
def PureX (P : Program) (f : FuncId) (args : List Value) (w : World) (R : Value → Prop) : Prop :=
 Calls P f args.toArray w fun e w' => ∃ v, e = .returned v ∧ R v ∧ Below w.heap.size w w'
theorem eff_callX {C : Cx} {E : Env} {I : Look} {H : List HA} {o : Oper} {g : Operand} {f : FuncId} {args : Array Operand} {ts : Array TypeId} {vs : List Value} {fn : Func} {R : Value → Prop}
  (ho : o.op = .call { callee := .value g, args := args, argTypes := ts }) (hg : ev E g = some (.func (.func f) #[] #[])) (he : evs E args.toList = some vs)
  (hfn : C.P.funcs[f]? = some fn) (hnm : (fn.name == "runtime.NumGoroutine") = false) (hbd : fn.body.isNone = false)
  (hc : ∀ w, St C.w0 I H w → PureX C.P f vs w R) : Eff C E I H o (fun v I' H' => R v ∧ I = I' ∧ H = H') := by
 intro a w hs hw K Q hk
 have h1 : args.map a.eval = vs.toArray := by
  rw [← hs.evs he]; cases args; simp
 have hrun : (execOp a.eval o).run C.P w = .ok (.enter f vs.toArray) w := by
  simp only [execOp, ho, resolve, h1, hs.ev hg]
  simp [Deferred.ofValue, invoke, call_of hfn hnm hbd]
 refine wpIn_of_call (R := fun v w'' => R v ∧ Below w.heap.size w w'') (by rw [ho]; rfl) hrun ((hc w hw).mono fun e w' ⟨v, h1, h2, h3⟩ => ⟨v, h1, h2, h3⟩) fun v w'' ⟨hp, hb⟩ => hk v I H w'' ⟨hp, rfl, rfl⟩ (hw.garb hb)
theorem Le.of_st {w0 w : World} {I : Look} {H : List HA} (h : St w0 I H w) : Le I (look w) := h.imm
end Go.Tri
namespace Go.Tri
open Go.RowKit
theorem e_storeS {C : Cx} {E : Env} {I : Look} {H : List HA} {o : Oper} {p x : Operand} {t T : TypeId} {b off bytes : Nat} {v z : Value} {cs cs' : List Value} {F : List HA} (ho : o.op = .store t p x) (hi : TI C.P t 1 bytes z)
  (hp : ev E p = some (.pointer (some ⟨b, off, none⟩))) (hx : ev E x = some v) (h1 : One v) [hpk : PickRow b T cs F H] (hlt : Nat.blt off cs.length = true) (hcs : cs.set off v = cs') :
  Eff C E I H o (fun _ I' H' => I = I' ∧ H' = row b T cs' :: F) := by
 subst hcs
 exact e_store ho hi hp hx h1 hlt
end Go.Tri
namespace Go.Tri
open Go.RowKit
/-- nothing panics -/
def noPanic (Q : Exit → Act → World → Prop) : Exit → Act → World → Prop
 | .panic _, _, _ => False
 | e, a, w => Q e a w
theorem enterMN {P : Program} {f : FuncId} {fn : Func} {c : Code} {args : List Value} {R : Ending → World → Prop} {n : Nat} {w : World} {I : Look} {H : List HA}
  (hf : P.funcs[f]? = some fn) (hb : fn.body = some c) (hn : fn.ntmps = n) (ha : Nat.ble args.length n = true) (hst : St w I H w)
  (h : T ⟨P, none, n, w⟩ c (zipE 0 args) I H [] (noPanic (bodyPostM (WF none) 0 P fn R))) : Calls P f args.toArray w R :=
 enterM hf hb hn ha hst (t_mono h fun e a w hq => by
  cases e <;> first | exact hq | exact hq.elim)
section
variable {C : Cx} {E : Env} {I : Look} {H : List HA} {D : List Deferred} {Q : Exit → Act → World → Prop}
theorem n_np_ret (h : N C .ret E I H D Q) : N C .ret E I H D (noPanic Q) := h
variable {ops : Array Oper} {K : Act → Prop}
theorem s_and2 {l rest : List Oper} {p oj : Oper} (k j dj d y : Nat) (b c : Bool) (hsplit : l.drop k = p :: rest) (hga : skipOk ops j true (l.take k) [] = true) (hj : ops[j]? = some oj) (hdj : oj.dst = some dj)
  (hb : get E dj = some (.bool b)) (hoff : (keysOff (dsts (l.take k)) E && !(dsts (l.take k)).contains dj) = true)
  (hy : b = true → QS C ops (l.take k) ((dj, .bool true) :: E) I H (fun a' => a'.tmps[y]? = some (.bool c)))
  (hpw : ∀ a : Act, Sat E C.n a.tmps → Region.wanted p (yielded ops a.tmps) = true) (hpd : p.dst = some d) (hn : Nat.blt d C.n = true) (hpp : p.op = .pick (.tmp dj) (.tmp y) (.const (.bool false)))
  (kk : QS C ops rest ((d, .bool (b && c)) :: E) I H K) : QS C ops l E I H K := s_short2 k j dj d y true b c hsplit hga hj hdj hb hoff hy hpw hpd hn (.inl ⟨rfl, hpp⟩) kk
theorem s_or2 {l rest : List Oper} {p oj : Oper} (k j dj d y : Nat) (b c : Bool) (hsplit : l.drop k = p :: rest) (hga : skipOk ops j false (l.take k) [] = true) (hj : ops[j]? = some oj) (hdj : oj.dst = some dj)
  (hb : get E dj = some (.bool b)) (hoff : (keysOff (dsts (l.take k)) E && !(dsts (l.take k)).contains dj) = true)
  (hy : b = false → QS C ops (l.take k) ((dj, .bool false) :: E) I H (fun a' => a'.tmps[y]? = some (.bool c)))
  (hpw : ∀ a : Act, Sat E C.n a.tmps → Region.wanted p (yielded ops a.tmps) = true) (hpd : p.dst = some d) (hn : Nat.blt d C.n = true) (hpp : p.op = .pick (.tmp dj) (.const (.bool true)) (.tmp y))
  (kk : QS C ops rest ((d, .bool (b || c)) :: E) I H K) : QS C ops l E I H K := s_short2 k j dj d y false b c hsplit hga hj hdj hb hoff hy hpw hpd hn (.inr ⟨rfl, hpp⟩) kk
end
end Go.Tri
namespace Go.Tri
open Go.RowKit
end Go.Tri
