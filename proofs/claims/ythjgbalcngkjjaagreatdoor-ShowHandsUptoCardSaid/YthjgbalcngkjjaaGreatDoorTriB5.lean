/-
 A range over a function: the iterator's word, the caller's rule; a function that holds such a loop.
-/
import Derived.Test.YthjgbalcngkjjaaGreatDoorTriQs
import Derived.RangeFuncLeaves
import Derived.RangeFuncRecord
import Derived.Laws.StructEq
import Derived.Laws.IdiomStrings
import Derived.Lib.Bytealg
import Derived.Lib.UnsafeStr
import Derived.Lib.Builder
import Derived.Laws.Pointers
import Derived.LaidEqlPtr
import Derived.Laws.Slices
import Derived.Deep.Upon
import Derived.Lib.ConvBytes
import Derived.Lib.AppendStr
namespace Go.Tri
open Go.RowKit

theorem St.self {w0 w : World} {I : AU} {H : List HA} (h : St w0 I H w) : St w I H w := { h with os := rfl, tape := rfl, output := rfl, size := Nat.le_refl _ }
class IE (b : Nat) (x : outParam Obj) (F : outParam (List HA)) (H : List HA) : Prop where
 pick : TE H (Fq b x) F
instance ABu {b : Nat} {x : Obj} {F : List HA} : IE b x F (Fq b x :: F) := ⟨H6⟩
instance (priority := low) pickObj_tail {b : Nat} {x : Obj} {y : HA} {F H : List HA} [h : IE b x F H] : IE b x (y :: F) (y :: H) := ⟨Hz h.pick⟩

theorem OC {w0 w : World} {I : AU} {F : List HA} {b : Nat} {x y : Obj} (h : St w0 I (Fq b x :: F) w) : St w0 I (Fq b y :: F) (w.putObj b y) := by
 have hb : w.heap[b]? = some x := h.sat _ (List.mem_cons_self)
 refine h.turn rfl rfl rfl (by simp) (fun k _ hk => World.putObj_heap_other (fun e => hk (by rw [e]; rfl))) ?_ (.inl rfl)
 exact World.putObj_heap_same (EQ hb)

def UB (P : Program) (l : Nat) {γ : Type} (Cd Cx : Nat → γ → Prop) (G : γ → List HA) (II : γ → AU) (xs : List (List Value)) : Prop :=
 ∀ (i : Nat) (vs : List Value) (g : γ), xs[i]? = some vs → Cd i g → ∀ (w0 : World) (F : List HA) (w : World), St w0 (II g) (F ++ G g) w →
  ∃ fn tmps assign body, (Instr.yield l vs.toArray).run P w = .ok (.round l fn tmps assign body) w ∧
   RoundIn (WF none) 0 P l fn tmps assign body w (fun e w' =>
    (e = .returned (.bool true) ∧ ∃ g', Cd (i + 1) g' ∧ Le (II g) (II g') ∧ St w0 (II g') (F ++ G g') w') ∨
    (e = .returned (.bool false) ∧ ∃ g', Cx (i + 1) g' ∧ Le (II g) (II g') ∧ St w0 (II g') (F ++ G g') w'))

def Sa (P : Program) (gf : FuncId) (lb : List Value) (xs : List (List Value)) (Pre : AU → Prop) : Prop :=
 ∀ (γ : Type) (Cd Cx : Nat → γ → Prop) (G : γ → List HA) (II : γ → AU) (l : Nat), UB P l Cd Cx G II xs → ∀ (w0 : World) (g : γ) (F : List HA) (w : World), Cd 0 g → Pre (II g) → St w0 (II g) (F ++ G g) w →
  Calls P gf (.func (.yield l) #[] #[] :: lb).toArray w (fun e w' => ∃ v, e = .returned v ∧ ∃ g', (Cd xs.length g' ∨ ∃ i, i ≤ xs.length ∧ Cx i g') ∧ Le (II g) (II g') ∧ St w0 (II g') (F ++ G g') w')

class Tl (T : List HA) (F : outParam (List HA)) (M : outParam (List HA → List HA)) (H : List HA) : Prop where
 eq : H = F ++ T
 app : ∀ T', F ++ T' = M T'
instance ALi {T : List HA} : Tl T [] (fun T' => T') T := ⟨rfl, fun _ => rfl⟩
instance ANz {T F : List HA} : Tl T F (fun T' => F ++ T') (F ++ T) := ⟨rfl, fun _ => rfl⟩
instance (priority := low) tl_cons {T F H : List HA} {M : List HA → List HA} {x : HA} [h : Tl T F M H] : Tl T (x :: F) (fun T' => x :: M T') (x :: H) := ⟨by rw [h.eq]; rfl, fun T' => by rw [List.cons_append, h.app]⟩

section iter
variable {C : Cx} {E : DJ} {I : AU} {H : List HA} {D : List Deferred} {Q : Exit → Act → World → Prop} {o : Oper}

theorem AAc {ops : Array Oper} {rest : List Oper} {d l i : Nat} {γ : Type} {Cd Cx : Nat → γ → Prop} {G : γ → List HA} {II : γ → AU} {xs : List (List Value)} {vs : List Value} {y : Operand} {args : Array Operand} {ts : Array TypeId} {F : List HA} {M : List HA → List HA} (g : γ)
  (VP : ∀ a : Act, G2 E C.n a.tmps → Region.wanted o (yielded ops a.tmps) = true) (hd : o.dst = some d) (hn : Nat.blt d C.n = true)
  (ho : o.op = .call { callee := .value y, args := args, argTypes := ts }) (hy : ev E y = some (.func (.yield l) #[] #[])) (he : evs E args.toList = some vs)
  (hY : UB C.P l Cd Cx G II xs) (hi : xs[i]? = some vs) (hc : Cd i g) (hI : I = II g) [ht : Tl (G g) F M H]
  (kt : ∀ g', Cd (i + 1) g' → Le I (II g') → L C ops rest ((d, .bool true) :: E) (II g') (M (G g')) D Q)
  (kf : ∀ g', Cx (i + 1) g' → Le I (II g') → L C ops rest ((d, .bool false) :: E) (II g') (M (G g')) D Q) : L C ops (o :: rest) E I H D Q := by
 intro a w hs IY hw
 subst hI
 rw [ht.eq] at hw
 obtain ⟨fn, tmps, assign, body, DV, UE⟩ := hY i vs g hi hc C.w0 F w hw
 refine wpListIn_step fun K hK => ?_
 rw [if_pos (VP a hs)]
 have h1 : args.map a.eval = vs.toArray := by
  rw [← hs.evs he]; cases args; simp
 refine ⟨fun _ _ => trivial, ?_⟩
 rw [Oper.semAt_eq _ _ _ (fun c hc => by rw [ho] at hc; cases hc)]
 have hx : (execOp a.eval o).run C.P w = .ok (.round l fn tmps assign body) w := by
  simp only [execOp, ho, resolve, h1, hs.ev hy]
  simp [Deferred.ofValue, invoke, DV]
 rw [hx]
 refine ⟨fun h => by simp at h, ?_⟩
 have hr : RoundIn (WF C.r) 0 C.P l fn tmps assign body w _ := UE
 refine hr.mono fun e w' he => ?_
 rcases he with ⟨rfl, g', h1, h2, h3⟩ | ⟨rfl, g', h1, h2, h3⟩
 ·refine hK _ _ ?_
  rw [hd]
  exact kt g' h1 h2 _ _ (hs.put (by simpa using hn) _) (by simpa [Act.put] using IY) (ht.app (G g') ▸ h3)
 ·refine hK _ _ ?_
  rw [hd]
  exact kf g' h1 h2 _ _ (hs.put (by simpa using hn) _) (by simpa [Act.put] using IY) (ht.app (G g') ▸ h3)

def NW : List Nat → List Value → DJ → DJ
 | p :: ps, v :: vs, E => NW ps vs ((p, v) :: E)
 | _, _, E => E

theorem Q5 {n : Nat} : ∀ (ps : List Nat) (vs : List Value) (E : DJ) (τ : Array Value), G2 E n τ → ps.all (Nat.blt · n) = true → G2 (NW ps vs E) n ((ps.zip vs).foldl (fun t (x : Nat × Value) => t.setIfInBounds x.1 x.2) τ)
 | [], _, _, _, h, _ => by simpa [NW] using h
 | _ :: _, [], _, _, h, _ => by simpa [NW] using h
 | p :: ps, v :: vs, E, τ, h, hp => by
  simp only [List.all_cons, Bool.and_eq_true] at hp
  simp only [List.zip_cons_cons, List.foldl_cons, NW]
  have := h.put (a := ⟨τ, []⟩) (by simpa using hp.1) v
  exact Q5 ps vs _ _ this hp.2

def ACs (C : Cx) (l : Nat) (body : Code) (Rd : Exit → Act → World → Prop) (a₁ : Act) (w₁ : World) : Prop :=
 ∃ w₂, (Instr.beginRound l).run C.P w₁ = .ok () w₂ ∧ body.wpIn (WF (some l)) 0 C.P Rd a₁ w₂

theorem ACK {l : Nat} {body : Code} {Rd Q' : Exit → Act → World → Prop} {rec : Loop} {F : List HA} (hr : C.r = some l) [hp : IE l (.loop rec) F H] (hs : rec.state = .ready)
  (h : T C body E I (Fq l (.loop { rec with state := .busy }) :: F) D Rd) : N C .normal E I H D (Exit.then (ACs C l body Rd) Q') := by
 intro a w Gf hd hw
 have hw' := hw.perm hp.pick
 have hb : w.heap[l]? = some (.loop rec) := hw'.sat _ (List.mem_cons_self)
 have := h a _ Gf hd (OC (y := .loop { rec with state := .busy }) hw')
 rw [hr] at this
 exact ⟨_, run_beginRound hb hs, this⟩

theorem ABj {l : Nat} {R : Ending → World → Prop} {rec : Loop} {F : List HA} [hp : IE l (.loop rec) F H]
  (h : ∀ w, St C.w0 I (Fq l (.loop { rec with state := .ready, pending := none }) :: F) w → R (.returned (.bool true)) w) : N C .normal E I H D (roundPost C.P l R) := by
 intro a w _ _ hw
 have hw' := hw.perm hp.pick
 have hb : w.heap[l]? = some (.loop rec) := hw'.sat _ (List.mem_cons_self)
 exact ⟨_, _, run_endRound none hb, h _ (OC hw')⟩
def Q1 (fn : FuncId) (tmps : Array Value) (ps : Array Tmp) (assign body : Code) (bd : Nat) (s : LoopState) (p : Option Code) : Loop := { state := s, pending := p, fn, tmps, params := ps, assign, body, defers := bd }

theorem ABK {γ : Type} {g : Operand} {ps : List Nat} {assign body : Code} {gf : FuncId} {fng : Func} {lb : List Value} {xs : List (List Value)} {Pre : AU → Prop} (hit : Sa C.P gf lb xs Pre) (hr : C.r = none)
  (hg : ev E g = some (.func (.func gf) #[] lb.toArray)) (Oi : C.P.funcs[gf]? = some fng) (M5 : (fng.name == "runtime.NumGoroutine") = false) (Nt : fng.body.isNone = false)
  (Inv : Nat → γ → Prop) (Ex : Code → γ → Prop) (F0 : List HA) (Hc : γ → List HA → List HA) (hHc : ∀ gg T, Hc gg T = Hc gg [] ++ T) (IIc : γ → AU) (E0 : DJ) (hE0 : Kd E E0) (g0 : γ) (h0 : Inv 0 g0) (AKg : Pre (IIc g0)) (hI0 : Le I (IIc g0))
  (hh : ∀ w, St C.w0 I H w → St C.w0 (IIc g0) (Hc g0 F0) w) (hps : ps.all (Nat.blt · C.n) = true) (hvs : ∀ vs ∈ xs, vs.length = ps.length)
  (round : ∀ (bl : Nat) (ready busy done : Loop) (dfr : HA) (i : Nat) (vs : List Value) (gg : γ) (w0' : World) (F : List HA), xs[i]? = some vs → Inv i gg → ready.state = .ready → busy = { ready with state := .busy } →
   T ⟨C.P, some bl, C.n, w0'⟩ assign (NW ps vs E0) (IIc gg) (Hc gg (Fq bl (.loop ready) :: dfr :: F)) []
    (Exit.then (ACs ⟨C.P, some bl, C.n, w0'⟩ bl body (roundPost C.P bl fun e w' =>
     (e = .returned (.bool true) ∧ ∃ g', Inv (i + 1) g' ∧ Le (IIc gg) (IIc g') ∧ St w0' (IIc g') (Hc g' (Fq bl (.loop { ready with state := .ready, pending := none }) :: dfr :: F)) w') ∨
     (e = .returned (.bool false) ∧ ∃ c g', Ex c g' ∧ Le (IIc gg) (IIc g') ∧ St w0' (IIc g') (Hc g' (Fq bl (.loop { ready with state := .done, pending := some c }) :: dfr :: F)) w'))) (fun _ _ _ => False)))
  (kdone : ∀ bd gg, Inv xs.length gg → Le I (IIc gg) → N C .normal E (IIc gg) (Hc gg (Fq bd (.deferred (some [])) :: F0)) ({ target := .collected bd, args := #[] } :: D) Q)
  (kstop : ∀ bd c gg, Ex c gg → Le I (IIc gg) → T C c E (IIc gg) (Hc gg (Fq bd (.deferred (some [])) :: F0)) ({ target := .collected bd, args := #[] } :: D) Q) :
  T C (.rangeFunc g ps.toArray assign body) E I H D Q := by
 intro a w hs hd hw
 refine wpIn_rangeFunc ?_
 intro fn ARL
 rw [Ya, hr]
 obtain ⟨W1, hW1⟩ : ∃ W1, (w.alloc (.deferred (some []))).alloc (.loop (Q1 fn a.tmps ps.toArray assign body w.heap.size .ready none)) = W1 := ⟨_, rfl⟩
 have hw1 : St C.w0 (IIc g0) (Hc g0 [] ++ (Fq (w.heap.size + 1) (.loop (Q1 fn a.tmps ps.toArray assign body w.heap.size .ready none)) :: Fq w.heap.size (.deferred (some [])) :: F0)) W1 := by
  have h1 := ((hh w hw).new (.deferred (some []))).new (.loop (Q1 fn a.tmps ps.toArray assign body w.heap.size .ready none))
  rw [World.size_alloc, hW1, hHc g0 F0] at h1
  refine h1.perm ?_
  refine (List.perm_append_comm (l₁ := [Fq (w.heap.size + 1) (.loop (Q1 fn a.tmps ps.toArray assign body w.heap.size .ready none)), Fq w.heap.size (.deferred (some []))]) (l₂ := Hc g0 [] ++ F0)).trans ?_
  rw [List.append_assoc]
  exact List.Perm.append_left _ List.perm_append_comm
 refine ⟨w.heap.size + 1, [{ target := .collected w.heap.size, args := #[] }], W1, { target := .fn (.func gf) lb.toArray, args := #[.func (.yield (w.heap.size + 1)) #[] #[]] }, W1, gf,
  (.func (.yield (w.heap.size + 1)) #[] #[] :: lb).toArray, W1, ?_, ?_, fun _ _ => trivial, ?_, fun h => by simp at h, ?_⟩
 ·rw [← hW1]; exact run_enterLoop_outer _ _ _ _ _
 ·simp only [resolve, hs.ev hg]
  simp [Deferred.ofValue, Act.eval]
 ·simp [invoke, Gg Oi M5 Nt]
 ·
  let recS : LoopState → Option Code → Loop := Q1 fn a.tmps ps.toArray assign body w.heap.size
  let Cd : Nat → γ × Loop → Prop := fun i p => Inv i p.1 ∧ p.2 = recS .ready none
  let Cx : Nat → γ × Loop → Prop := fun _ p => ∃ c, Ex c p.1 ∧ p.2 = recS .done (some c)
  let G : γ × Loop → List HA := fun p => Hc p.1 [] ++ (Fq (w.heap.size + 1) (.loop p.2) :: Fq w.heap.size (.deferred (some [])) :: F0)
  let II : γ × Loop → AU := fun p => IIc p.1
  have AAI : ∀ (F : List HA) (p : γ × Loop), (F ++ G p).Perm (Hc p.1 (Fq (w.heap.size + 1) (.loop p.2) :: Fq w.heap.size (.deferred (some [])) :: (F0 ++ F))) := fun F p => by
   rw [hHc p.1 (_ :: _)]
   refine (List.perm_append_comm (l₁ := F)).trans ?_
   show ((Hc p.1 [] ++ (Fq (w.heap.size + 1) (.loop p.2) :: Fq w.heap.size (.deferred (some [])) :: F0)) ++ F).Perm _
   rw [List.append_assoc]
   exact List.Perm.refl _
  have hY : UB C.P (w.heap.size + 1) Cd Cx G II xs := by
   intro i vs p hi hc w0' F w2 hw2
   obtain ⟨gg, rec⟩ := p
   obtain ⟨P9, Oc⟩ := hc
   simp only at P9 Oc
   subst Oc
   have hw3 := hw2.perm (AAI F (gg, recS .ready none))
   have hl : w2.heap[w.heap.size + 1]? = some (.loop (recS .ready none)) := hw3.sat (Fq (w.heap.size + 1) (.loop (recS .ready none))) (by rw [hHc]; exact List.mem_append_right _ (List.mem_cons_self))
   have BH : vs.toArray.size = (recS .ready none).params.size := by
    show vs.toArray.size = ps.toArray.size
    simpa using hvs vs (List.mem_of_getElem? hi)
   refine ⟨_, _, _, _, run_yield hl BH, ?_⟩
   refine roundIn_of_wpIn (F := WF none) trivial ?_
   have Gf : G2 (NW ps vs E0) C.n (((recS .ready none).params.zip vs.toArray).foldl (fun t (x : Nat × Value) => t.setIfInBounds x.1 x.2) (recS .ready none).tmps) := by
    have := Q5 ps vs E0 a.tmps (hs.sub hE0) hps
    show G2 _ _ ((ps.toArray.zip vs.toArray).foldl _ a.tmps)
    rw [← Array.foldl_toList]
    simpa using this
   have UE := round (w.heap.size + 1) (recS .ready none) (recS .busy none) (recS .done none) (Fq w.heap.size (.deferred (some []))) i vs gg w0' (F0 ++ F) hi P9 rfl rfl
    ⟨_, []⟩ w2 Gf rfl hw3
   refine wpIn_mono UE ?_
   rintro e a3 w3 hq
   cases e with
   | normal =>
    obtain ⟨w4, hb1, Ei⟩ := hq
    refine ⟨w4, hb1, wpIn_mono Ei ?_⟩
    have conv : ∀ e w', ((e = Ending.returned (.bool true) ∧ ∃ g', Inv (i + 1) g' ∧ Le (IIc gg) (IIc g') ∧ St w0' (IIc g') (Hc g' (Fq (w.heap.size + 1) (.loop { recS .ready none with state := .ready, pending := none }) :: Fq w.heap.size (.deferred (some [])) :: (F0 ++ F))) w') ∨
     (e = .returned (.bool false) ∧ ∃ c g', Ex c g' ∧ Le (IIc gg) (IIc g') ∧ St w0' (IIc g') (Hc g' (Fq (w.heap.size + 1) (.loop { recS .ready none with state := .done, pending := some c }) :: Fq w.heap.size (.deferred (some [])) :: (F0 ++ F))) w')) →
     ((e = .returned (.bool true) ∧ ∃ g', Cd (i + 1) g' ∧ Le (II (gg, recS .ready none)) (II g') ∧ St w0' (II g') (F ++ G g') w') ∨
     (e = .returned (.bool false) ∧ ∃ g', Cx (i + 1) g' ∧ Le (II (gg, recS .ready none)) (II g') ∧ St w0' (II g') (F ++ G g') w')) := by
     intro e w' h
     rcases h with ⟨rfl, g', h1, h2, h3⟩ | ⟨rfl, c, g', h1, h2, h3⟩
     ·exact .inl ⟨rfl, (g', recS .ready none), ⟨h1, rfl⟩, h2, h3.perm (AAI F (g', recS .ready none)).symm⟩
     ·exact .inr ⟨rfl, (g', recS .done (some c)), ⟨c, h1, rfl⟩, h2, h3.perm (AAI F (g', recS .done (some c))).symm⟩
    rintro e a5 w5 hp
    cases e <;> simp only [roundPost] at hp ⊢ <;> first | (obtain ⟨v, w6, h1, h2⟩ := hp; exact ⟨v, w6, h1, conv _ _ h2⟩) | exact hp
   | exit id => exact hq
   | goto t => exact hq
   | ret => exact hq
   | panic c => exact hq
   | outgrown => exact hq
  have AHd := hit (γ × Loop) Cd Cx G II (w.heap.size + 1) hY C.w0 (g0, recS .ready none) [] W1 ⟨h0, rfl⟩ AKg hw1
  have ADm : CallsIn (WF none) 0 C.P gf (.func (.yield (w.heap.size + 1)) #[] #[] :: lb).toArray W1 _ := callsIn_wide.2 AHd
  have AFh : CallsIn (WF C.r) 0 C.P gf (.func (.yield (w.heap.size + 1)) #[] #[] :: lb).toArray W1 _ := ADm
  refine AFh.mono ?_
  rintro e w' ⟨v, rfl, ⟨gg, rec⟩, hor, Ec, hw'⟩
  have hw'' : St C.w0 (IIc gg) (Fq (w.heap.size + 1) (.loop rec) :: Fq w.heap.size (.deferred (some [])) :: (F0 ++ Hc gg [])) w' := by
   refine hw'.perm ?_
   exact List.perm_append_comm (l₁ := Hc gg [])
  have hl : w'.heap[w.heap.size + 1]? = some (.loop rec) := hw''.sat _ (List.mem_cons_self)
  have ACv : ∀ y, St C.w0 (IIc gg) (Hc gg (Fq w.heap.size (.deferred (some [])) :: F0)) (w'.putObj (w.heap.size + 1) y) := fun y => by
   have := (OC (y := y) hw'').tail
   refine this.perm ?_
   rw [hHc gg (_ :: _)]
   exact List.perm_append_comm (l₁ := Fq w.heap.size (.deferred (some [])) :: F0)
  rcases hor with ⟨P9, Oc⟩ | ⟨i, _, c, hex, Oc⟩
  ·simp only at P9 Oc
   subst Oc
   refine ⟨none, _, run_endLoop hl (show LoopState.ready ≠ LoopState.busy by decide), ?_⟩
   exact kdone w.heap.size gg P9 (hI0.trans Ec) { a with defers := [{ target := .collected w.heap.size, args := #[] }] ++ a.defers } _ hs (by rw [← hd]; rfl) (ACv _)
  ·simp only at hex Oc
   subst Oc
   refine ⟨some c, _, run_endLoop hl (show LoopState.done ≠ LoopState.busy by decide), ?_⟩
   have hk := kstop w.heap.size c gg hex (hI0.trans Ec) { a with defers := [{ target := .collected w.heap.size, args := #[] }] ++ a.defers }
   simp only [hr] at hk
   exact hk _ hs (by rw [← hd]; rfl) (ACv _)
end iter

theorem ZR {P : Program} {f : FuncId} {fn : Func} {c : Code} {args : List Value} {R : Ending → World → Prop} {n : Nat} {w : World} {I : AU} {H : List HA}
  (hf : P.funcs[f]? = some fn) (hb : fn.body = some c) (hn : fn.ntmps = n) (ha : Nat.ble args.length n = true) (Dh : St w I H w)
  (h : T ⟨P, none, n, w⟩ c (Rb 0 args) I H [] (bodyPostM (WF none) 0 P fn R)) : Calls P f args.toArray w R := by
 have hal : args.length ≤ n := by simpa using ha
 refine callsIn_wide (n := 0).1 (callsIn_of_wp_marks hf hb trivial ?_)
 refine h _ w ⟨by simp [hn, hal], fun k v hk => ?_⟩ rfl Dh
 obtain ⟨_, h2⟩ := Kq args 0 k v hk
 have FA : k < args.length := by
  have := (List.getElem?_eq_some_iff.1 h2).1
  omega
 show (args.toArray ++ Array.replicate (fn.ntmps - args.toArray.size) undef)[k]? = some v
 rw [Array.getElem?_append_left (by simpa using FA)]
 simpa using h2

section ret
variable {C : Cx} {E : DJ} {I : AU} {H : List HA} {R : Ending → World → Prop} {fn : Func}
def Su (bs : List Nat) : List Deferred := bs.map fun b => { target := .collected b, args := #[] }

theorem Ky {P : Program} {tmps : Array Value} {w0 : World} {v : Value} (hr : ∀ w, (results fn tmps).run P w = .ok v w) : ∀ (bs : List Nat) (F : List HA) (w : World), St w0 I (bs.map (fun b => Fq b (.deferred (some []))) ++ F) w →
  (∀ w, St w0 I F w → R (.returned v) w) → LeavesInM (WF none) 0 P fn tmps R (Su bs) .returning w
 | [], _, w, hw, k => ⟨v, hr w, k w hw⟩
 | b :: bs, F, w, hw, k => by
  refine ⟨(by intro h; cases h), .inl ⟨b, w.putObj b (.deferred none), rfl, ?_, ?_⟩⟩
  ·exact run_takeDeferred (hw.sat (Fq b (.deferred (some []))) (List.mem_cons_self))
  ·exact Ky hr bs F _ (OC (y := .deferred none) hw).tail k

class MB (bs : List Nat) (F : outParam (List HA)) (H : List HA) : Prop where
 sub : Mj H (bs.map (fun b => Fq b (.deferred (some []))) ++ F)
instance AFb {H : List HA} : MB [] H H := ⟨PG H⟩
instance ADS {b : Nat} {bs : List Nat} {F F' H : List HA} [p : O3 (Fq b (.deferred (some []))) F' H] [h : MB bs F F'] : MB (b :: bs) F H := ⟨PY p.pick h.sub⟩

theorem AFW {bs : List Nat} {F : List HA} {v : Value} {e : Exit} (he : e = .ret ∨ e = .normal) [hp : MB bs F H] (hr : ∀ τ w, G2 E C.n τ → (results fn τ).run C.P w = .ok v w) (k : ∀ w, St C.w0 I F w → R (.returned v) w) : N C e E I H (Su bs) (bodyPostM (WF none) 0 C.P fn R) := by
 intro a w hs hd hw
 have := Ky (P := C.P) (tmps := a.tmps) (fn := fn) (R := R) (fun w => hr a.tmps w hs) bs F w (hw.sub hp.sub) k
 rcases he with rfl | rfl
 ·show LeavesInM _ _ _ _ _ _ a.defers .returning w
  rw [hd]; exact this
 ·show LeavesInM _ _ _ _ _ _ a.defers .returning w
  rw [hd]; exact this
theorem ABQ {bs : List Nat} {F : List HA} {t : Nat} {v : Value} (hr : fn.results = #[.tmp t]) (hv : Hg E t = some v) [hp : MB bs F H] (k : ∀ w, St C.w0 I F w → R (.returned v) w) : N C .ret E I H (Su bs) (bodyPostM (WF none) 0 C.P fn R) :=
 AFW (.inl rfl) (fun τ w hs => by rw [results_tmp hr]; simp [hs.2 t v hv]) k
end ret
end Go.Tri

namespace Go.Tri
open Go.RowKit

section ops
variable {C : Cx} {E : DJ} {I : AU} {H : List HA} {D : List Deferred} {Q : Exit → Act → World → Prop} {o : Oper}

section strings
variable {x y i j : Operand} {t t' : TypeId} {s s' : List UInt8} {k kl kh : IntKind} {m n : Int}
theorem JG (s : List UInt8) (l h : Nat) : (⟨s.toArray⟩ : ByteArray).extract l h = ⟨((s.drop l).take (h - l)).toArray⟩ := by
 apply ByteArray.ext
 simp [ByteArray.data_extract]
theorem BP {j : Nat} (ho : o.op = .index t x i) (ht : C.P.underlying t = some .string) (hx : ev E x = some (Bj s)) (hi : ev E i = some (.int k (j : Int))) (h : j < s.length) :
  BS C E I H o (u8 (nth s j 0)) := DL ho ht hx hi ⟨by omega, by omega⟩
theorem A5 {e : TypeId} {v z : Value} {j n sz bytes : Nat} (ho : o.op = .indexAddr t x i) (ht : C.P.underlying t = some (.slice e)) (hi : TI C.P e sz bytes z)
  (hx : ev E x = some v) (ZT : ev E i = some (.int k (j : Int))) (hv : ∃ A c, v = .slice A n c ∧ (0 < n → ∀ a, A = some a → a.spot = none) ∧ (0 < n → A ≠ none)) (h0 : j < n) :
  BS C E I H o (.pointer (some ⟨(GN v).block, (GN v).off + j * sz, none⟩)) := DZ ho ht hi hx ZT hv ⟨by omega, by omega⟩
theorem CL {e te : TypeId} {v z : Value} {j n sz sz' bytes : Nat} {xs : List Value} (ho : o.op = .indexAddr t x i) (ht : C.P.underlying t = some (.slice e)) (hi : TI C.P e sz bytes z)
  (hx : ev E x = some v) (ZT : ev E i = some (.int k (j : Int))) [hm : GK v te sz' n xs H] (h0 : j < n) :
  BS C E I H o (.pointer (some ⟨(GN v).block, (GN v).off + j * sz, none⟩)) := LX ho ht hi hx ZT ⟨by omega, by omega⟩
theorem GL (ho : o.op = .slice t x (some i) (some j) none) (ht : C.P.underlying t = some .string) (hx : ev E x = some (Bj s)) (hi : ev E i = some (.int kl m)) (hj : ev E j = some (.int kh n)) (h : 0 ≤ m ∧ m ≤ n ∧ n ≤ s.length) :
  BS C E I H o (Bj ((s.drop m.toNat).take (n.toNat - m.toNat))) :=
 Bk (by rw [ho]; rfl) fun a w hs _ => by
  simp only [execOp, ho, hs.ev hx, Option.map_some, Option.map_none, hs.ev hi, hs.ev hj]
  rw [Sem.run_bind, run_sliceAt_string w t _ _ _ _ ht]
  unfold Bj
  rw [run_slice_string w t _ kl kh m n ht h.1 h.2.1 (by rw [DC]; exact h.2.2), JG]
  rfl
theorem Cp (ho : o.op = .slice t x (some i) none none) (ht : C.P.underlying t = some .string) (hx : ev E x = some (Bj s)) (hi : ev E i = some (.int kl m)) (h : 0 ≤ m ∧ m ≤ s.length) :
  BS C E I H o (Bj (s.drop m.toNat)) :=
 Bk (by rw [ho]; rfl) fun a w hs _ => by
  simp only [execOp, ho, hs.ev hx, Option.map_some, Option.map_none, hs.ev hi]
  rw [Sem.run_bind, run_sliceAt_string w t _ _ _ _ ht]
  unfold Bj
  have h1 := run_slice_string_l (P := C.P) (w := w) (t := t) ht (s := ⟨s.toArray⟩) kl m h.1 (by rw [DC]; exact h.2)
  rw [h1, JG, DC, List.take_of_length_le (by simp)]
  rfl
theorem G3 (ho : o.op = .slice t x none (some j) none) (ht : C.P.underlying t = some .string) (hx : ev E x = some (Bj s)) (hj : ev E j = some (.int kh n)) (h : 0 ≤ n ∧ n ≤ s.length) :
  BS C E I H o (Bj (s.take n.toNat)) :=
 Bk (by rw [ho]; rfl) fun a w hs _ => by
  simp only [execOp, ho, hs.ev hx, Option.map_some, Option.map_none, hs.ev hj]
  rw [Sem.run_bind, run_sliceAt_string w t _ _ _ _ ht]
  unfold Bj
  have h1 := run_slice_string_h (P := C.P) (w := w) (t := t) ht (s := ⟨s.toArray⟩) kh n h.1 (by rw [DC]; exact h.2)
  rw [h1, JG]
  simp
theorem Dk (ho : o.op = .binOp .add t x y t') (hx : ev E x = some (Bj s)) (hy : ev E y = some (Bj s')) (h : s.length + s'.length ≤ 9223372036854775807) : BS C E I H o (Bj (s ++ s')) :=
 Cl ho hx hy fun w => by
  have e : (⟨s.toArray⟩ : ByteArray) ++ ⟨s'.toArray⟩ = ⟨(s ++ s').toArray⟩ := by apply ByteArray.ext; simp
  simp only [eqGuard, Bj, binOp]
  rw [Sem.run_bind]
  simp [run_string_add_sum (P := C.P) (w := w) ⟨s.toArray⟩ ⟨s'.toArray⟩ (by simpa [DC] using h), e]
theorem C7 (ho : o.op = .binOp .neq t x y t') (hx : ev E x = some (Bj s)) (hy : ev E y = some (Bj s')) : BS C E I H o (.bool (decide (s ≠ s'))) :=
 Cl ho hx hy fun w => by
  simp [eqGuard, Bj, binOp, Op.stringOp, ByteArray.toList_eq]; rw [Bool.eq_iff_iff]; simp
theorem Nr {a b : Bool} (ho : o.op = .binOp .neq t x y t') (ht : C.P.underlying t = some .bool) (hx : ev E x = some (.bool a)) (hy : ev E y = some (.bool b)) : BS C E I H o (.bool (a != b)) :=
 Cl ho hx hy fun w => by
  simp [eqGuard, binOp, Op.equal, Op.maxDepth, run_equalIn_bool' (P := C.P) w 9999 t a b ht]
  cases a <;> cases b <;> rfl
theorem N2 {d : TypeDesc} {k' : IntKind} {r : Int} (ho : o.op = .convert t t' x) (hs : C.P.underlying t = some d) (hd : C.P.underlying t' = some (.int k')) (hx : ev E x = some (.int k n)) (hr : k'.wrap n = r) : BS C E I H o (.int k' r) :=
 Bk (by rw [ho]; rfl) fun a w Gf _ => by
  subst hr
  simp [execOp, ho, Gf.ev hx, convert, run_underlying hs, run_underlying hd, Conv.intToInt]
def Fo (c : UInt8) : List Value := [u8 c]
theorem JD (c : UInt8) : ∀ u ∈ Fo c, u.oneCell' = true := fun u hu => by
 rw [Fo, List.mem_singleton] at hu
 subst hu
 rfl
theorem Lb (l : List UInt8) : (l.map Fo).flatten = l.map u8 := by
 induction l with
 | nil => rfl
 | cons c l ih => simp [Fo, ih]
theorem HU {e : TypeId} {v : Value} {T : TypeId} {l : List UInt8} (ho : o.op = .convert t t' x) (hs : C.P.underlying t = some (.slice e)) (hd : C.P.underlying t' = some .string) (he : C.P.underlying e = some (.int .u8)) (hx : ev E x = some v) [hm : GK v T 1 l.length (l.map Fo).flatten H] : BS C E I H o (Bj l) :=
 Bk (by rw [ho]; rfl) fun a w Gf hw => by
  obtain ⟨hl, hh⟩ := hw.sat _ hm.mem
  simp only [execOp, ho, Gf.ev hx]
  rw [Lb] at hh
  rcases hh with ⟨rfl, hz⟩ | ⟨g, cap, cur, rfl, hg, hn, hc, Lj, Js⟩
  ·have : l = [] := List.eq_nil_of_length_eq_zero hz
   subst this
   simp [convert, run_underlying hs, run_underlying hd, run_underlying he, Conv.bytesToString, Bj]
   rfl
  ·rw [Sem.run_bind, run_convert_bytes_back (P := C.P) w t t' e ⟨g, 0, none⟩ cap l hs he hd (fun j hj => by
    rw [Addr.add_lit]
    have hg' : w.heap[g]? = some (.cells cur T (0, 0)) := hg
    unfold World.cell?
    simp only [hg', Option.isSome_none, Bool.false_eq_true, if_false, Nat.zero_add]
    have h2 : (l.map u8)[j]? = some (u8 l[j]) := by simp [hj]
    rw [← Js, List.getElem?_take] at h2
    split at h2
    ·simpa [u8] using h2
    ·cases h2)]
   rfl
end strings

section bytes
variable {x y : Operand} {t t' : TypeId} {c d : UInt8} {n : Int}
theorem ADY (c d : UInt8) : ((c.toNat : Int) = (d.toNat : Int)) ↔ c = d := by
 constructor
 ·intro h; exact UInt8.toNat_inj.1 (by omega)
 ·intro h; rw [h]
theorem X9 {n : Int} (c : UInt8) (h : (decide (0 ≤ n) && decide (n < 256)) = true) : ((c.toNat : Int) = n) ↔ c = UInt8.ofNat n.toNat := by
 simp only [Bool.and_eq_true, decide_eq_true_eq] at h
 rw [← ADY]
 have : (UInt8.ofNat n.toNat).toNat = n.toNat := by rw [UInt8.toNat_ofNat']; omega
 rw [this]
 omega
theorem Aw (ho : o.op = .binOp .eql t x y t') (hx : ev E x = some (u8 c)) (hy : ev E y = some (.int .u8 n)) (h : (decide (0 ≤ n) && decide (n < 256)) = true) : BS C E I H o (.bool (decide (c = UInt8.ofNat n.toNat))) := by
 have := Vo (C := C) (I := I) (H := H) ho hx hy
 simpa only [X9 c h] using this
theorem ZC (ho : o.op = .binOp .neq t x y t') (hx : ev E x = some (u8 c)) (hy : ev E y = some (u8 d)) : BS C E I H o (.bool (decide (c ≠ d))) := by
 have := X8 (C := C) (I := I) (H := H) ho hx hy
 simpa only [ne_eq, ADY] using this
theorem PA (ho : o.op = .binOp .neq t x y t') (hx : ev E x = some (u8 c)) (hy : ev E y = some (.int .u8 n)) (h : (decide (0 ≤ n) && decide (n < 256)) = true) : BS C E I H o (.bool (decide (c ≠ UInt8.ofNat n.toNat))) := by
 have := X8 (C := C) (I := I) (H := H) ho hx hy
 simpa only [ne_eq, X9 c h] using this
end bytes

def evP (E : DJ) : List (Nat × Operand) → Option (List (Nat × Value))
 | [] => some []
 | (i, x) :: r => match ev E x, evP E r with
  | some v, some vs => some ((i, v) :: vs)
  | _, _ => none
theorem G2.evP {n : Nat} {a : Act} (h : G2 E n a.tmps) : ∀ {xs : List (Nat × Operand)} {vs : List (Nat × Value)}, evP E xs = some vs → xs.map (fun p => (p.1, a.eval p.2)) = vs
 | [], _, hx => by cases hx; rfl
 | (i, x) :: r, vs, hx => by
  unfold Tri.evP at hx
  split at hx
  ·rename_i v vs' h1 h2
   cases hx
   rw [List.map_cons, h.ev h1, h.evP h2]
  ·cases hx
def Us (P : Program) : List Field → List (Nat × Nat) → Prop
 | [], [] => True
 | f :: fs, (o, s) :: pl => f.offset = o ∧ (∃ b z, TI P f.type s b z) ∧ Us P fs pl
 | _, _ => False
theorem NR {P : Program} {w : World} : ∀ {fs : List Field} {pl : List (Nat × Nat)}, Us P fs pl → (fs.mapM (fun f => do pure (f.offset, ← sizeOf f.type) : Field → Sem (Nat × Nat))).run P w = .ok pl w
 | [], [], _ => by simp
 | f :: fs, (o, s) :: pl, h => by
  obtain ⟨h1, ⟨b, z, h2⟩, h3⟩ := h
  have ih := NR (w := w) h3
  subst h1
  simp only [List.mapM_cons, Sem.run_bind, h2.sizeOf, Sem.run_pure, Result.andThen_ok, ih]
 | [], _ :: _, h => h.elim
 | _ :: _, [], h => h.elim
theorem A6 {t : TypeId} {parts : Array (Nat × Operand)} {fs : Array Field} {n bytes : Nat} {z : Value} {vs : List (Nat × Value)} {pl : List (Nat × Nat)} {cs : Array Value} (ho : o.op = .build t parts) (ht : C.P.underlying t = some (.struct fs)) (hi : TI C.P t n bytes z)
  (Gw : Us C.P fs.toList pl) (hv : evP E parts.toList = some vs) (hf : Instr.fill (fun i => pl[i]?) z.cells vs = some cs) : BS C E I H o (.agg cs) :=
 Bk (by rw [ho]; rfl) fun a w hs _ => by
  have h1 : (parts.map fun p => (p.1, a.eval p.2)).toList = vs := by rw [← hs.evP hv]; simp
  simp only [execOp, ho, Instr.build]
  have h2 := NR (w := w) Gw
  have h3 : (fs.mapM (fun f => do pure (f.offset, ← sizeOf f.type) : Field → Sem (Nat × Nat))).run C.P w = .ok pl.toArray w := by
   obtain ⟨fl⟩ := fs
   simp only [List.mapM_toArray]
   rw [Sem.run_map]
   simp only at h2
   rw [h2]
   rfl
  simp only [Sem.run_bind, hi.zero, run_underlying ht, Result.andThen_ok, h3]
  have h4 : (fun (i : Nat) => pl.toArray[i]?) = (fun (i : Nat) => pl[i]?) := by funext i; simp
  rw [h4]
  have h5 : (parts.map fun x => match x with | (i, x) => (i, a.eval x)).toList = vs := h1
  rw [h5, hf]
  rfl
theorem DT {x : Operand} {t : TypeId} {fs : Array Field} {k : Nat} {f : Field} {d : TypeDesc} {cs : Array Value} {v : Value} (ho : o.op = .field t x k) (ht : C.P.underlying t = some (.struct fs)) (hf : fs[k]? = some f) (htf : C.P.underlying f.type = some d) (hd : Ji d = true)
  (hx : ev E x = some (.agg cs)) (hv : cs[f.offset]? = some v) : BS C E I H o v :=
 Bk (by rw [ho]; rfl) fun a w hs _ => by
  simp [execOp, ho, hs.ev hx, Instr.field, run_underlying ht, hf, asAgg, part, Dz htf hd, hv]

theorem AAJ {x y : Operand} {t t' : TypeId} {xs ys : Array Value} {r : Bool} (ho : o.op = .binOp .neq t x y t') (hg : C.P.eqGuardType C.P.depth t = false) (hx : ev E x = some (.agg xs)) (hy : ev E y = some (.agg ys)) (hr : ∀ w, (Op.equalIn 10000 t (.agg xs) (.agg ys)).run C.P w = .ok r w) : BS C E I H o (.bool (!r)) :=
 Cl ho hx hy fun w => by
  rw [Sem.run_bind, run_eqGuard_agg w _ _ _ _ _ _ hg]
  simp only [Result.andThen_ok]
  rw [run_neq_struct, hr]
  rfl

theorem S4 {g : Operand} {f : FuncId} {args : Array Operand} {ts : Array TypeId} {vs : List Value} {fn : Func} {Post : Value → AU → List HA → Prop}
  (ho : o.op = .call { callee := .value g, args := args, argTypes := ts }) (hg : ev E g = some (.func (.func f) #[] #[])) (he : evs E args.toList = some vs)
  (Oi : C.P.funcs[f]? = some fn) (M5 : (fn.name == "runtime.NumGoroutine") = false) (Nt : fn.body.isNone = false)
  (hc : ∀ w, St C.w0 I H w → Calls C.P f vs.toArray w (fun e w' => ∃ v, e = .returned v ∧ ∃ I' H', Post v I' H' ∧ St w I' H' w')) : I9 C E I H o Post := by
 intro a w hs hw K Q hk
 have h1 : args.map a.eval = vs.toArray := by
  rw [← hs.evs he]; cases args; simp
 have DV : (execOp a.eval o).run C.P w = .ok (.enter f vs.toArray) w := by
  simp only [execOp, ho, resolve, h1, hs.ev hg]
  simp [Deferred.ofValue, invoke, Gg Oi M5 Nt]
 exact IV (by rw [ho]; rfl) DV (hc w hw) fun v w'' ⟨I', H', hp, hw'⟩ => hk v I' H' w'' hp (St.rebase hw hw')

theorem IJ {g : Operand} {f : FuncId} {args : Array Operand} {ts : Array TypeId} {vs : List Value} {fn : Func} {e : Array Value → Sem Value} {v : Value}
  (ho : o.op = .call { callee := .value g, args := args, argTypes := ts }) (hg : ev E g = some (.func (.func f) #[] #[])) (he : evs E args.toList = some vs)
  (Oi : C.P.funcs[f]? = some fn) (M5 : (fn.name == "runtime.NumGoroutine") = false) (Nt : fn.body = none) (h1 : Extern.findNext fn = none) (h2 : Extern.find fn = some e)
  (hr : ∀ w, (e vs.toArray).run C.P w = .ok v w) : BS C E I H o v :=
 Bk (by rw [ho]; rfl) fun a w hs _ => by
  have h3 : args.map a.eval = vs.toArray := by
   rw [← hs.evs he]; cases args; simp
  have hn' : ¬ fn.name = "runtime.NumGoroutine" := by simpa using M5
  simp only [execOp, ho, resolve, h3, hs.ev hg]
  simp [Deferred.ofValue, invoke, callFunc, Oi, hn', Nt, h1, h2, hr]

theorem Dl {ops : Array Oper} {l : List Oper} (k : Nat) (hs : QS C ops (l.take k) E I H (fun a' => a'.defers = D → ∀ w', St C.w0 I H w' → wpListIn (WF C.r) 0 C.P ops Q (l.drop k) a' w')) : L C ops l E I H D Q := by
 intro a w Gf hd hw
 have h1 := LZ _ a (hs a Gf)
 have := M3 (Q := Q) (l.take k) (l.drop k) a w (Gi (fun a' h' w' hb => h'.1 (h'.2.1.trans hd) w' (hw.garb hb)) _ a h1) hw
 rwa [List.take_append_drop] at this
theorem Hb {ops : Array Oper} {l : List Oper} (h : L C ops l E I H D Q) : QS C ops [] E I H (fun a' => a'.defers = D → ∀ w', St C.w0 I H w' → wpListIn (WF C.r) 0 C.P ops Q l a' w') := fun a hs hd w' hw' => h a w' hs hd hw'
theorem Gp {ops : Array Oper} {l : List Oper} {t : Nat} {b : Bool} (hb : Hg E t = some (.bool b)) (ht : b = true → L C ops l ((t, .bool true) :: E) I H D Q) (hf : b = false → L C ops l ((t, .bool false) :: E) I H D Q) : L C ops l E I H D Q := by
 cases b
 ·exact ADH (FI hb (Kd.refl E)) (hf rfl)
 ·exact ADH (FI hb (Kd.refl E)) (ht rfl)
theorem GT {ops : Array Oper} {rest : List Oper} {oj : Oper} {d j dj : Nat} {b b' : Bool} (hg : o.guard = some (j, b)) (hj : ops[j]? = some oj) (MS : oj.dst = some dj) (hb : Hg E dj = some (.bool b')) (hbb : (b == b') = false) (hd : o.dst = some d) (hn : Nat.blt d C.n = true)
  (k : L C ops rest ((d, undef) :: E) I H D Q) : L C ops (o :: rest) E I H D Q := by
 intro a w hs IY hw
 have hy := IP (C := C) hs hj MS hb
 refine wpListIn_step fun K hK => ?_
 rw [if_neg (by
  have : ¬ b' = b := fun e => by subst e; simp at hbb
  simp [Region.wanted, hg, hy, this])]
 refine ⟨fun _ _ => trivial, hK _ _ ?_⟩
 rw [hd]
 exact k _ _ (hs.put (by simpa using hn) undef) (by simpa [Act.put] using IY) hw
theorem Be {ops : Array Oper} {oj : Oper} {j dj : Nat} {b : Bool} (hg : o.guard = some (j, b)) (hj : ops[j]? = some oj) (MS : oj.dst = some dj) (hb : Hg E dj = some (.bool b)) : ∀ a : Act, G2 E C.n a.tmps → Region.wanted o (yielded ops a.tmps) = true := fun a hs => by
 simp [Region.wanted, hg, IP (C := C) hs hj MS hb]
theorem AM {ops : Array Oper} (hg : o.guard = none) : ∀ a : Act, G2 E C.n a.tmps → Region.wanted o (yielded ops a.tmps) = true := fun a _ => by simp [Region.wanted, hg]
theorem H9 {ops : Array Oper} {rest : List Oper} {d : Nat} {v : Value} (hw : ∀ a : Act, G2 E C.n a.tmps → Region.wanted o (yielded ops a.tmps) = true) (hd : o.dst = some d) (hn : Nat.blt d C.n = true)
  (hq : BS C E I H o v) (k : L C ops rest ((d, v) :: E) I H D Q) : L C ops (o :: rest) E I H D Q := by
 intro a w hs IY Dh
 refine wpListIn_step fun K hK => ?_
 rw [if_pos (hw a hs)]
 refine (hq a w hs Dh).wpIn fun w' g => hK _ _ ?_
 rw [hd]
 exact k _ _ (hs.put (by simpa using hn) v) (by simpa [Act.put] using IY) (Dh.garb g)
theorem Zh {ops : Array Oper} {rest : List Oper} {d : Nat} {Post : Value → AU → List HA → Prop} (hw : ∀ a : Act, G2 E C.n a.tmps → Region.wanted o (yielded ops a.tmps) = true) (hd : o.dst = some d) (hn : Nat.blt d C.n = true)
  (he : I9 C E I H o Post) (k : ∀ v I' H', Post v I' H' → L C ops rest ((d, v) :: E) I' H' D Q) : L C ops (o :: rest) E I H D Q := by
 intro a w hs IY Dh
 refine wpListIn_step fun K hK => ?_
 rw [if_pos (hw a hs)]
 refine he a w hs Dh _ _ fun v I' H' w' hp hw' => hK _ _ ?_
 rw [hd]
 exact k v I' H' hp _ _ (hs.put (by simpa using hn) v) (by simpa [Act.put] using IY) hw'

theorem Lh.cells {v : Value} (h : Lh v) : v.cells = [v].toArray := h.1
@[reducible] def BO {α : Type} (T : TypeId) (sz : Nat) (f : α → List Value) (v : Value) (l : List α) : HA := PU v T sz l.length (l.map f).flatten
theorem AOk {v : Value} (h : Lh v) : ∀ u ∈ [v], u.oneCell' = true := fun u hu => by
 rw [List.mem_singleton] at hu
 subst hu
 exact h.2
theorem Sn {x y : Operand} {t e e' e2 : TypeId} {n m c sz bytes b : Nat} {v z : Value} {xs cs : List Value} {F : List HA} (ho : o.op = .call { callee := .builtin .append, args := #[x, y], argTypes := #[t, t] })
  (ht : C.P.underlying t = some (.slice e)) (hi : TI C.P e sz bytes z) (hz : z.cells.size = sz) (Lj : Nat.blt 0 sz = true)
  (hx : ev E x = some v) (hy : ev E y = some (.slice (some ⟨b, 0, none⟩) m c)) [hpk : D0 v e' sz n xs F H] (Vf : e = e') [hm : HH b e2 cs H]
  (hl : cs.length = m * sz) (h1 : ∀ u ∈ cs, u.oneCell' = true) (UL : n + m ≤ maxLen) (Tu : (n + m) * bytes ≤ 140737488355328) :
  I9 C E I H o (fun v' I' H' => I = I' ∧ H' = PU v' e' sz (n + m) (xs ++ cs) :: F) :=
 RX ho ht hi hz Lj hx hy Vf (QR (n := cs.length) hm.mem (by simp)) hl h1 UL Tu
theorem Ba {α : Type} {f : α → List Value} {l : List α} {x y : Operand} {t e e' e2 : TypeId} {k sz bytes b : Nat} {v z : Value} {cs : List Value} {F : List HA} (c : α) (ho : o.op = .call { callee := .builtin .append, args := #[x, y], argTypes := #[t, t] })
  (ht : C.P.underlying t = some (.slice e)) (hi : TI C.P e sz bytes z) (hz : z.cells.size = sz) (Lj : Nat.blt 0 sz = true)
  (hx : ev E x = some v) (hy : ev E y = some (.slice (some ⟨b, 0, none⟩) 1 k)) [hpk : D0 v e' sz l.length (l.map f).flatten F H] (Vf : e = e') [hm : HH b e2 cs H] (hc : cs = f c)
  (hl : (f c).length = sz) (h1 : ∀ u ∈ f c, u.oneCell' = true) (UL : l.length + 1 ≤ maxLen) (Tu : (l.length + 1) * bytes ≤ 140737488355328) :
  I9 C E I H o (fun v' I' H' => I = I' ∧ H' = BO e' sz f v' (l ++ [c]) :: F) := by
 subst hc
 have := Sn (C := C) (I := I) ho ht hi hz Lj hx hy Vf (hm := hm) (by rw [hl, Nat.one_mul]) h1 UL Tu
 simpa [BO] using this
theorem BG {α : Type} {f : α → List Value} {l : List α} {ops : Array Oper} {os : List Oper} {T : TypeId} {sz : Nat} {F : List HA} (v : Value) [hp : D0 v T sz l.length (l.map f).flatten F H] (hu : ∀ c, (f c).length = sz)
  (k : ∀ J, Le I J → Sl J sz v (l.map f) → L C ops os E J F D Q) : L C ops os E I H D Q := by
 intro a w hs hd hw
 obtain ⟨J, h1, h2, h3⟩ := L2 (hw.perm hp.pick) (by simp) (fun cs JU => by obtain ⟨c, _, rfl⟩ := List.mem_map.1 JU; exact hu c)
 exact k J h1 h3 a w hs hd h2
theorem CG {α : Type} {f : α → List Value} {l : List α} {c : Code} {T : TypeId} {sz : Nat} {F : List HA} (v : Value) [hp : D0 v T sz l.length (l.map f).flatten F H] (hu : ∀ c, (f c).length = sz)
  (k : ∀ J, Le I J → Sl J sz v (l.map f) → Tri.T C c E J F D Q) : Tri.T C c E I H D Q := by
 intro a w hs hd hw
 obtain ⟨J, h1, h2, h3⟩ := L2 (hw.perm hp.pick) (by simp) (fun cs JU => by obtain ⟨c, _, rfl⟩ := List.mem_map.1 JU; exact hu c)
 exact k J h1 h3 a w hs hd h2

theorem AI {ops : Array Oper} {l : List Oper} {I' : AU} {H' : List HA} (h : L C ops l E I' H' D Q) (hi : ∀ w, St C.w0 I H w → St C.w0 I' H' w) : L C ops l E I H D Q := fun a w s hd hw => h a w s hd (hi w hw)
theorem Qh {v : Value} {T : TypeId} {sz n : Nat} {xs : List Value} {w0 w : World} (hw : St w0 I H w) [hm : GK v T sz n xs H] : Lh v := by
 obtain ⟨_, hh⟩ := hw.sat _ hm.mem
 rcases hh with ⟨rfl, _⟩ | ⟨g, cap, cur, rfl, _⟩ <;> exact ⟨rfl, rfl⟩
theorem FV {ops : Array Oper} {l : List Oper} {T : TypeId} {sz n : Nat} {xs : List Value} (v : Value) [hm : GK v T sz n xs H] (k : Lh v → L C ops l E I H D Q) : L C ops l E I H D Q := fun a w hs hd hw => k (Qh hw) a w hs hd hw
theorem Iz {ops : Array Oper} {X Z : List Nat} {I0 : AU} {R0 : List HA} {fuel : Nat} {listed : Array Bool} {T : TypeId} {sz n : Nat} {xs : List Value} (v : Value) [hm : GK v T sz n xs H] (k : Lh v → R C ops X Z I0 R0 fuel listed E I H D Q) : R C ops X Z I0 R0 fuel listed E I H D Q :=
 fun Gw hQ a w hs hd hw => k (Qh hw) Gw hQ a w hs hd hw
theorem ES {ops : Array Oper} {X Z : List Nat} {I0 : AU} {R0 : List HA} {fuel : Nat} {listed : Array Bool} {I' : AU} {H' : List HA} (k : R C ops X Z I0 R0 fuel listed E I' H' D Q) (hi : ∀ w, St C.w0 I H w → St C.w0 I' H' w) : R C ops X Z I0 R0 fuel listed E I H D Q :=
 fun Gw hQ a w hs hd hw => k Gw hQ a w hs hd (hi w hw)
theorem Sl.lenOf {sz n : Nat} {v : Value} {xss : List (List Value)} (h : Sl I sz v xss) (hn : xss.length = n) : ∃ A c, v = .slice A n c := by
 obtain ⟨⟨A, c, rfl, _⟩, _⟩ := h
 exact ⟨A, c, by rw [hn]⟩
theorem Sl.rd {w0 : World} {sz : Nat} {v u : Value} {xss : List (List Value)} (h : Sl I sz v xss) {i j : Nat} {cs : List Value} (hi : xss[i]? = some cs) (hj : cs[j]? = some u) : Rd w0 I H (GN v).block ((GN v).off + i * sz + j) u := B2 (h.2 i j cs u hi hj)
theorem Sl.rds {w0 : World} {sz : Nat} {v : Value} {xss : List (List Value)} (h : Sl I sz v xss) {i : Nat} {cs : List Value} (hi : xss[i]? = some cs) : XH w0 I H (GN v).block ((GN v).off + i * sz) cs := fun _ _ hj => h.rd hi hj
theorem XH.rd0 {w0 : World} {b k : Nat} {u : Value} {us : List Value} (h : XH w0 I H b k (u :: us)) : Rd w0 I H b k u := h 0 u rfl

class Ov (Ms : List HA) (F : outParam (List HA)) (H : List HA) : Prop where
 perm : H.Perm (Ms ++ F)
instance AFs {H : List HA} : Ov [] H H := ⟨List.Perm.refl _⟩
instance AET {x : HA} {Ms F F' H : List HA} [p : O3 x F' H] [h : Ov Ms F F'] : Ov (x :: Ms) F H := ⟨p.pick.trans (List.Perm.cons x h.perm)⟩
theorem AD {w0 w : World} {F : List HA} (a : HA) [h : Ov [a] F H] (hw : St w0 I H w) : St w0 I (a :: F) w := hw.perm h.perm
theorem Jy {w0 w : World} {F : List HA} (a b : HA) [h : Ov [a, b] F H] (hw : St w0 I H w) : St w0 I (a :: b :: F) w := hw.perm h.perm
theorem QO {w0 w : World} {b : Nat} {T : TypeId} {cs : List Value} {F : List HA} (h : St w0 I (row b T cs :: F) w) :
  ∃ J, Le I J ∧ St w0 J F w ∧ ∀ k u, cs[k]? = some u → GF J b k u := by
 have hb : w.heap[b]? = some (.cells cs.toArray T (0, 0)) := h.sat _ (List.mem_cons_self)
 have hIb : I b = none := h.dis _ (List.mem_cons_self) b rfl
 let J : AU := fun k => if k = b then some (.cells cs.toArray T (0, 0)) else I k
 refine ⟨J, fun k o hk => ?_, ?_, fun k u hu => ⟨cs.toArray, T, (0, 0), by show (if b = b then _ else _) = _; rw [if_pos rfl], by simpa using hu⟩⟩
 ·show (if k = b then _ else I k) = _
  split
  ·rename_i e; subst e; rw [hIb] at hk; cases hk
  ·exact hk
 ·refine { h.tail with imm := fun k o hk => ?_, dis := fun y hy k hk => ?_ }
  ·have hk' : (if k = b then some (Obj.cells cs.toArray T (0, 0)) else I k) = some o := hk
   by_cases e : k = b
   ·subst e
    rw [if_pos rfl] at hk'
    cases hk'
    exact hb
   ·rw [if_neg e] at hk'
    exact h.imm k o hk'
  ·show (if k = b then _ else I k) = none
   by_cases e : k = b
   ·subst e
    exfalso
    have Nk := h.sep
    unfold Mo at Nk
    rw [List.filterMap_cons] at Nk
    exact (List.nodup_cons.1 Nk).1 (List.mem_filterMap.2 ⟨y, hy, hk⟩)
   ·rw [if_neg e]
    exact h.tail.dis y hy k hk
theorem MK {c : Code} {T : TypeId} {cs : List Value} {F : List HA} (b : Nat) [hp : HS b T cs F H] (k : ∀ J, Le I J → (∀ k u, cs[k]? = some u → GF J b k u) → Tri.T C c E J F D Q) : Tri.T C c E I H D Q := by
 intro a w hs hd hw
 obtain ⟨J, h1, h2, h3⟩ := QO (hw.perm hp.pick)
 exact k J h1 h3 a w hs hd h2
theorem V1 {w0 w : World} {F : List HA} (T : TypeId) (sz : Nat) (h : St w0 I F w) : St w0 I (PU (.slice none 0 0) T sz 0 [] :: F) w :=
 { h with
  sat := fun x hx => by
   rcases List.mem_cons.1 hx with rfl | hx
   ·exact ⟨by simp, .inl ⟨rfl, rfl⟩⟩
   ·exact h.sat x hx
  sep := h.sep
  dis := fun x hx b hb => by
   rcases List.mem_cons.1 hx with rfl | hx
   ·cases hb
   ·exact h.dis x hx b hb }
theorem CS {α : Type} {w0 w : World} {F : List HA} (T : TypeId) (sz : Nat) (f : α → List Value) (h : St w0 I F w) : St w0 I (BO T sz f (.slice none 0 0) [] :: F) w := V1 T sz h
theorem A7 {w0 w : World} {F : List HA} {b : Nat} {T : TypeId} {sz n : Nat} {cs : List Value} (h : St w0 I (row b T cs :: F) w) (hl : cs.length = n * sz) (hn : n ≤ maxLen) : St w0 I (PU (.slice (some ⟨b, 0, none⟩) n n) T sz n cs :: F) w := by
 have hb : w.heap[b]? = some (.cells cs.toArray T (0, 0)) := h.sat _ (List.mem_cons_self)
 exact { h with
  sat := fun x hx => by
   rcases List.mem_cons.1 hx with rfl | hx
   ·exact ⟨hl, .inr ⟨b, n, cs.toArray, rfl, hb, Nat.le_refl _, hn, by simpa using hl, by simp [← hl]⟩⟩
   ·exact h.sat x (List.mem_cons_of_mem _ hx)
  sep := h.sep
  dis := fun x hx b' hb' => by
   rcases List.mem_cons.1 hx with rfl | hx
   ·cases hb'
    exact h.dis _ (List.mem_cons_self) b rfl
   ·exact h.dis x (List.mem_cons_of_mem _ hx) b' hb' }
end ops
end Go.Tri

namespace Go.Tri
open Go.RowKit
section
variable {C : Cx} {E : DJ} {I : AU} {H : List HA} {D : List Deferred} {Q : Exit → Act → World → Prop} {o : Oper}
variable {x y : Operand} {t t' : TypeId}
theorem N5 {p : Option Addr} (ho : o.op = .binOp .eql t x y t') (ht : C.P.underlying t = some (.pointer (C.P.pointee t))) (hx : ev E x = some (.pointer p)) (hy : ev E y = some (.pointer none)) : BS C E I H o (.bool p.isNone) :=
 Cl ho hx hy fun w => run_eql_pointer_nil w t p ht
theorem MT {te : TypeId} {b : Addr} {n bytes : Nat} {z : Value} (ho : o.op = .binOp .neq t x y t') (ht : C.P.underlying t = some (.pointer te)) (hi : TI C.P te n bytes z) (hx : ev E x = some (.pointer (some b))) (hy : ev E y = some (.pointer (some b))) : BS C E I H o (.bool false) :=
 Cl ho hx hy fun w => by
  obtain ⟨j, hj, _⟩ := hi
  exact Lib.run_neq_ptr_same w b ht hj
theorem PE {w : World} {b : Nat} {T : TypeId} {cs : List Value} {fr : Nat × Nat} (hb : w.heap[b]? = some (.cells cs.toArray T fr)) : w.shape? b = some (T, cs.length) := by
 unfold World.shape?
 rw [hb]
 simp
theorem NK {te T : TypeId} {b n bytes : Nat} {z : Value} {cs : List Value} (ho : o.op = .convert t t' x) (hs : C.P.underlying t = some (.pointer te)) (hd : C.P.underlying t' = some .unsafePointer) (hi : TI C.P te n bytes z) (hn : Nat.beq n 0 = false)
  (hx : ev E x = some (.pointer (some ⟨b, 0, none⟩))) [hm : HH b T cs H] (JU : Nat.blt 0 cs.length = true) : BS C E I H o (.pointer (some ⟨b, 0, none⟩)) :=
 Bk (by rw [ho]; rfl) fun a w Gf hw => by
  obtain ⟨j, hj, SI, _⟩ := hi
  have hb : w.heap[b]? = some (.cells cs.toArray T (0, 0)) := hw.sat _ hm.mem
  simp only [execOp, ho, Gf.ev hx]
  rw [Sem.run_bind, Lib.run_to_unsafe (P := C.P) w ⟨b, 0, none⟩ hs hd hj (by rw [SI]; intro h; subst h; simp at hn) (PE hb) (by simpa using JU)]
  rfl
theorem K1 {te T : TypeId} {b n bytes : Nat} {z : Value} {cs : List Value} (ho : o.op = .convert t t' x) (hs : C.P.underlying t = some .unsafePointer) (hd : C.P.underlying t' = some (.pointer te)) (hi : TI C.P te n bytes z)
  (hx : ev E x = some (.pointer (some ⟨b, 0, none⟩))) [hm : HH b T cs H] (hl : liesAt C.P C.P.depth T (cs.length / C.P.cellsOf T) 0 te 1 = true) : BS C E I H o (.pointer (some ⟨b, 0, none⟩)) :=
 Bk (by rw [ho]; rfl) fun a w Gf hw => by
  obtain ⟨j, hj, SI, _⟩ := hi
  have hb : w.heap[b]? = some (.cells cs.toArray T (0, 0)) := hw.sat _ hm.mem
  simp only [execOp, ho, Gf.ev hx]
  rw [Sem.run_bind, Lib.run_from_unsafe (P := C.P) w ⟨b, 0, none⟩ hs hd hj (PE hb) hl]
  rfl

def sdp : Value → Option Addr
 | .slice A _ _ => A
 | _ => none
def Hu (v : Value) (l : List UInt8) : Prop := v = .slice none 0 0 ∨ l ≠ []
theorem Mc {ty : TypeId} {T : TypeId} {v : Value} {l : List UInt8} (ho : o.op = .call { callee := .builtin .unsafeSliceData, args := #[x], argTypes := #[t] }) (hx : ev E x = some v) [hm : GK v T 1 l.length (l.map Fo).flatten H] (Bb : Hu v l) : BS C E I H o (.pointer (sdp v)) :=
 Bk (by rw [ho]; rfl) fun a w Gf hw => by
  obtain ⟨_, hh⟩ := hw.sat _ hm.mem
  simp only [execOp, ho, resolve]
  rcases hh with ⟨rfl, hz⟩ | ⟨g, cap, cur, rfl, hg, hn, hc, Lj, Js⟩
  ·simp [Gf.ev hx, invoke, builtin, Lib.run_unsafeSliceData_nil, sdp]
  ·have h0 : l ≠ [] := by rcases Bb with h | h; cases h; exact h
   have hl : 0 < l.length := List.length_pos_iff.2 h0
   simp [Gf.ev hx, invoke, builtin, Lib.run_unsafeSliceData_row (P := C.P) w #[t] _ ⟨g, 0, none⟩ l.length cap (by omega), sdp]

theorem Jc {pt it e e' : TypeId} {v : Value} {l : List UInt8} {F : List HA} (ho : o.op = .call { callee := .builtin .unsafeString, args := #[x, y], argTypes := #[pt, it] }) (hp : C.P.underlying pt = some (.pointer e)) (hc : Nat.beq (C.P.cellsOf e) 1 = true)
  (hx : ev E x = some (.pointer (sdp v))) (hy : ev E y = some (.int .i64 (l.length : Int))) [hpk : D0 v e' 1 l.length (l.map Fo).flatten F H] (Vf : e = e') (Bb : Hu v l) (UL : l.length ≤ 9223372036854775807) :
  I9 C E I H o (fun u I' H' => u = Bj l ∧ I = I' ∧ H' = F) := by
 subst Vf
 intro a w hs hw K Q hk
 have hw' := hw.perm hpk.pick
 obtain ⟨hl, hv⟩ : Fz v e 1 l.length (l.map Fo).flatten (BF w) := hw'.sat _ (List.mem_cons_self)
 rcases hv with ⟨rfl, hz⟩ | ⟨g, cap, cur, rfl, hg, hn, AGP, Lj, Js⟩
 ·have ZP : l = [] := List.eq_nil_of_length_eq_zero hz
  subst ZP
  refine C3 (v := .string .empty) (w' := w) (by rw [ho]; rfl) ?_ (hk _ I F w ⟨rfl, rfl, rfl⟩ hw'.tail)
  simp only [execOp, ho, resolve]
  simp [hs.ev hx, hs.ev hy, invoke, builtin, sdp, Lib.run_unsafeString_none]
 ·have h0 : l ≠ [] := by rcases Bb with h | h; cases h; exact h
  have hg' : w.heap[g]? = some (.cells cur e (0, 0)) := hg
  rw [Lb] at Js
  have AMT : cur.size = cap := by simpa using Lj
  have DV := Lib.run_unsafeString_row (P := C.P) w pt it o.type e hp (by simpa using hc) g cap (by unfold World.shape?; rw [hg']; simp [AMT]) l h0 hn UL (fun j c hj => by
   rw [Addr.add_lit]
   unfold World.cell?
   simp only [hg', Option.isSome_none, Bool.false_eq_true, if_false, Nat.zero_add]
   obtain ⟨SI, Qq⟩ := List.getElem?_eq_some_iff.1 hj
   have h2 : (l.map u8)[j]? = some (u8 c) := by simp [hj]
   rw [← Js, List.getElem?_take] at h2
   split at h2
   ·simpa [u8] using h2
   ·cases h2)
  have FA : g < w.heap.size := EQ hg'
  have BH : l.length ≠ 0 := by simpa using h0
  refine C3 (v := Bj l) (w' := w.freeze ⟨g, 0, none⟩ l.length) (by rw [ho]; rfl) ?_ (hk _ I F _ ⟨rfl, rfl, rfl⟩ (St.tail (x := Fq g (.cells cur e (0, l.length)))
   (hw'.turn (x := PU _ _ _ _ _) (y := Fq g (.cells cur e (0, l.length))) ?_ ?_ ?_ ?_ ?_ ?_ (.inl rfl))))
  ·simp only [execOp, ho, resolve]
   simp [hs.ev hx, hs.ev hy, invoke, builtin, sdp, DV, Bj]
  ·unfold World.freeze; rw [if_neg BH]
  ·unfold World.freeze; rw [if_neg BH]
  ·unfold World.freeze; rw [if_neg BH]
  ·unfold World.freeze; rw [if_neg BH]; simp
  ·intro k hk EZ
   unfold World.freeze; rw [if_neg BH]
   simp only [Array.getElem?_modify]
   rw [if_neg (fun h => EZ (by subst h; rfl))]
  ·show (w.freeze ⟨g, 0, none⟩ l.length).heap[g]? = _
   unfold World.freeze; rw [if_neg BH]
   simp only [Array.getElem?_modify, if_true, hg']
   simp
end
end Go.Tri

namespace Go.Tri
open Go.RowKit
theorem ST : ∀ (l : List Value) (k : Nat) (A : Array Value), k + l.length ≤ A.size → ((l.zipIdx k).foldl (fun cs (x : Value × Nat) => cs.setIfInBounds x.2 x.1) A) = (A.toList.take k ++ l ++ A.toList.drop (k + l.length)).toArray
 | [], k, A, hk => by simp
 | v :: l, k, A, hk => by
  simp only [List.length_cons] at hk
  rw [List.zipIdx_cons, List.foldl_cons, ST l (k + 1) _ (by simp; omega)]
  congr 1
  simp only [Array.toList_setIfInBounds, List.length_cons]
  rw [List.take_set, List.drop_set, if_pos (by omega), List.set_eq_take_append_cons_drop, if_pos (by simp; omega), List.take_take, Nat.min_eq_left (by omega), show k + 1 + l.length = k + (l.length + 1) by omega]
  simp
theorem AJV (c : Array Value) (off : Nat) (A : Array Value) (h : off + c.size ≤ A.size) : (c.zipIdx.foldl (fun cs (x : Value × Nat) => cs.setIfInBounds (off + x.2) x.1) A) = (A.toList.take off ++ c.toList ++ A.toList.drop (off + c.size)).toArray := by
 have h1 := ST c.toList off A (by simpa using h)
 rw [← Array.foldl_toList]
 have h2 : (c.toList.zipIdx off) = c.toList.zipIdx.map (fun x => (x.1, off + x.2)) := by
  rw [List.zipIdx_eq_map_add]
 rw [h2, List.foldl_map] at h1
 simpa using h1
def IM : Nat → List Value → List (Nat × Value)
 | _, [] => []
 | k, v :: vs => (k, v) :: IM (k + 1) vs
theorem O7 (n : Nat) : ∀ (vs : List Value) (css : List (List Value)) (k : Nat) (A : Array Value), A.size = (k + vs.length) * n → vs.map (fun v => v.cells.toList) = css → (∀ cs ∈ css, cs.length = n) →
  Instr.fill (fun i => some (i * n, n)) A (IM k vs) = some (A.toList.take (k * n) ++ css.flatten).toArray
 | [], css, k, A, hA, JU, _ => by
  simp only [List.map_nil] at JU
  subst JU
  have : A.toList.take (k * n) = A.toList := List.take_of_length_le (by simp [hA])
  simp [IM, Instr.fill, this]
 | v :: vs, css, k, A, hA, JU, hn => by
  simp only [List.map_cons] at JU
  subst JU
  have hv : v.cells.size = n := by simpa using hn v.cells.toList (List.mem_cons_self)
  have e1 : (k + (vs.length + 1)) * n = k * n + n + vs.length * n := by rw [Nat.add_mul, Nat.add_mul]; omega
  simp only [List.length_cons] at hA
  rw [e1] at hA
  have Dg : k * n + v.cells.size ≤ A.size := by rw [hv, hA]; omega
  have e2 : (k + 1) * n = k * n + n := by rw [Nat.add_mul, Nat.one_mul]
  have BH : (A.toList.take (k * n)).length = k * n := by
   rw [List.length_take]; simp; omega
  show (match (some (k * n, n) : Option (Nat × Nat)) with | none => none | some (off, size) => if v.cells.size ≠ size || off + v.cells.size > A.size then none else Instr.fill _ (v.cells.zipIdx.foldl (fun cs (c, j) => cs.setIfInBounds (off + j) c) A) (IM (k + 1) vs)) = _
  simp only [hv, ne_eq, not_true_eq_false, decide_false, Bool.false_or, gt_iff_lt]
  rw [if_neg (by rw [hv] at Dg; simpa using Dg)]
  have AHa := AJV v.cells (k * n) A Dg
  rw [AHa]
  have e3 : (k + 1 + vs.length) * n = k * n + n + vs.length * n := by rw [Nat.add_mul, e2]
  rw [O7 n vs _ (k + 1) _ (by simp; rw [e3]; omega) rfl (fun cs h => hn cs (List.mem_cons_of_mem _ h))]
  congr 2
  simp only [List.flatten_cons]
  rw [← List.append_assoc]
  congr 1
  rw [e2, show k * n + n = (A.toList.take (k * n) ++ v.cells.toList).length by rw [List.length_append, BH]; simp [hv]]
  rw [List.take_left]
section
variable {C : Cx} {E : DJ} {I : AU} {H : List HA} {D : List Deferred} {Q : Exit → Act → World → Prop} {o : Oper}
theorem Cb {t e : TypeId} {m n bytes : Nat} {parts : Array (Nat × Operand)} {vs : List Value} {css : List (List Value)} {z : Value} (ho : o.op = .buildSlice t m parts) (ht : C.P.underlying t = some (.slice e)) (hi : TI C.P e n bytes z) (hn : (Nat.ble 1 n && Nat.ble (m * n) 1000 && Nat.ble 1 m) = true) (hz : z.cells.size = n)
  (hx : evP E parts.toList = some (IM 0 vs)) (hm : vs.length = m) (hc : vs.map (fun v => v.cells.toList) = css) (hl : ∀ cs ∈ css, cs.length = n) :
  I9 C E I H o (fun v I' H' => ∃ b, v = .slice (some ⟨b, 0, none⟩) m m ∧ I = I' ∧ H' = row b e css.flatten :: H) := by
 refine Mv (x := fun p => match p with | .pointer a => .slice a m m | _ => p) (by rw [ho]; rfl) fun a w hs _ => ?_
 have hn : (1 ≤ n ∧ m * n ≤ 1000) ∧ 1 ≤ m := by simpa using hn
 have hp : (parts.map fun (p : Nat × Operand) => (p.1, a.eval p.2)).toList = IM 0 vs := by
  rw [Array.toList_map]
  exact hs.evP hx
 have hf : Instr.fill (fun i => some (i * n, n)) ((Array.range (m * n)).map (z.cells[· % z.cells.size]!)) (IM 0 vs) = some css.flatten.toArray := by
  rw [O7 n vs css 0 _ (by simp [hm]) hc hl]
  simp
 have hmn : ¬ (m * n = 0) := by
  have := Nat.mul_pos (show 0 < m by omega) (show 0 < n by omega)
  omega
 simp only [execOp, ho, Instr.buildSlice]
 simp only [hp]
 simp [run_underlying ht, hi.sizeOf, hi.zero, show ¬ (16777216 < m * n) from by omega, hf, IQ]
 intro h
 exact absurd h hmn
theorem AIE {x y : Operand} {t t' : TypeId} {k : IntKind} {m n : Int} (ho : o.op = .binOp .rem t x y t') (hx : ev E x = some (.int k m)) (hy : ev E y = some (.int k n)) (h : n ≠ 0) : BS C E I H o (.int k (m.tmod n)) :=
 Cl ho hx hy fun w => by simp [eqGuard_rem, binOp_rem, Op.intDiv, h]
end
end Go.Tri

namespace Go.Tri
open Go.RowKit
def OS (sz l h : Nat) : Value → Value
 | .slice a _ c => .slice (if c = l then a else a.map (·.add (l * sz))) (h - l) (c - l)
 | v => v
theorem Sl.cut {I : AU} {sz l h : Nat} {v : Value} {xss : List (List Value)} (hs : Sl I sz v xss) (h1 : l ≤ h) (h2 : h ≤ xss.length) : Sl I sz (OS sz l h v) ((xss.drop l).take (h - l)) := by
 obtain ⟨⟨A, c, rfl, hc, hA, EZ⟩, Iv⟩ := hs
 have BH : ((xss.drop l).take (h - l)).length = h - l := by simp; omega
 have Zb : (xss.drop l).take (h - l) ≠ [] → l < h := fun hn => by
  have := List.length_pos_iff.2 hn
  omega
 have hx : (xss.drop l).take (h - l) ≠ [] → xss ≠ [] := fun hn he => by subst he; simp at hn
 refine ⟨⟨_, _, by rw [BH]; rfl, by omega, fun hn a ha => ?_, fun hn => ?_⟩, fun i j cs u hi hj => ?_⟩
 ·have := Zb hn
  rw [if_neg (by omega)] at ha
  cases A with
  | none => cases ha
  | some a0 =>
   have h0 := hA (hx hn) a0 rfl
   obtain ⟨b, o, sp⟩ := a0
   cases h0
   simp only [Option.map_some, Option.some.injEq] at ha
   rw [Addr.add_lit] at ha
   subst ha; rfl
 ·have := Zb hn
  rw [if_neg (by omega)]
  cases A with
  | none => exact absurd rfl (EZ (hx hn))
  | some a0 => simp
 ·have hi' : i < h - l := by
   have := (List.getElem?_eq_some_iff.1 hi).1
   rw [BH] at this; exact this
  rw [List.getElem?_take, if_pos hi', List.getElem?_drop] at hi
  have hn : xss ≠ [] := by rintro rfl; simp at hi
  have hk := Iv (l + i) j cs u hi hj
  cases A with
  | none => exact absurd rfl (EZ hn)
  | some a0 =>
   have h0 := hA hn a0 rfl
   obtain ⟨b, o, sp⟩ := a0
   cases h0
   simp only [OS, GN]
   rw [if_neg (by omega)]
   simp only [Option.map_some, Addr.add_lit]
   have e : o + l * sz + i * sz + j = o + (l + i) * sz + j := by rw [Nat.add_mul]; omega
   rw [e]
   exact hk
theorem Sl.drop {I : AU} {sz l n : Nat} {v : Value} {xss : List (List Value)} (hs : Sl I sz v xss) (hn : xss.length = n) (h1 : l ≤ n) : Sl I sz (OS sz l n v) (xss.drop l) := by
 have := hs.cut (l := l) (h := n) h1 (by omega)
 rwa [List.take_of_length_le (by simp; omega)] at this
theorem Sl.dropM {α : Type} {I : AU} {sz l n : Nat} {v : Value} {f : α → List Value} {xs : List α} (hs : Sl I sz v (xs.map f)) (hn : xs.length = n) (h1 : l ≤ n) : Sl I sz (OS sz l n v) ((xs.drop l).map f) := by
 have := hs.drop (l := l) (n := n) (by rw [List.length_map]; exact hn) h1
 rwa [← List.map_drop] at this
section
variable {C : Cx} {E : DJ} {I : AU} {H : List HA} {D : List Deferred} {Q : Exit → Act → World → Prop} {o : Oper}
variable {x i j : Operand} {t e : TypeId} {v z : Value} {kl kh : IntKind} {m k : Int} {n sz bytes : Nat}
theorem ACF {P : Program} {t e : TypeId} (ht : P.underlying t = some (.slice e)) : P.underlying t = some (.slice (P.elem t)) ∧ P.elem t = e := by
 have : P.elem t = e := by unfold Program.elem; rw [ht]
 exact ⟨by rw [this]; exact ht, this⟩
theorem IR (ho : o.op = .slice t x (some i) none none) (ht : C.P.underlying t = some (.slice e)) (hi : TI C.P e sz bytes z) (hx : ev E x = some v) (hj : ev E i = some (.int kl m)) (hv : ∃ A c, v = .slice A n c) (h : 0 ≤ m ∧ m ≤ n) :
  BS C E I H o (OS sz m.toNat n v) :=
 Bk (by rw [ho]; rfl) fun a w hs _ => by
  obtain ⟨A, c, rfl⟩ := hv
  obtain ⟨ht', he⟩ := ACF ht
  simp only [execOp, ho, hs.ev hx, Option.map_some, Option.map_none, hs.ev hj]
  rw [Sem.run_bind, run_sliceAt_slice w t _ _ _ _ ht', run_slice_l w t A n c ht' kl m h.1 h.2, he]
  simp [hi.sizeOf, sliced, OS]
end
end Go.Tri
namespace Go.Tri
open Go.RowKit
def MD (ops : Array Oper) (j : Nat) (want : Bool) : List Oper → List Nat → Bool
 | [], _ => true
 | o :: G, dead => (match o.guard with
   | none => false
   | some (j', b') => (Nat.beq j' j && b' == want) || (match ops[j']? with
    | some oj => match oj.dst with | some d => dead.contains d | none => false
    | none => false)) && MD ops j want G (match o.dst with | some d => d :: dead | none => dead)
section
variable {C : Cx} {ops : Array Oper} {I : AU} {H : List HA} {E : DJ} {D : List Deferred} {Q : Exit → Act → World → Prop} {K K' : Act → Prop}
def WY (a : Act) (d : Nat) : Prop := a.tmps[d]? = some undef ∨ a.tmps[d]? = none
theorem Zw {a : Act} {d : Nat} {dst : Option Nat} (h : WY a d) : WY (a.put dst undef) d := by
 cases dst with
 | none => exact h
 | some e =>
  unfold WY at *
  by_cases he : e = d
  ·subst he
   rcases Nat.lt_or_ge e a.tmps.size with FA | NL
   ·left; simp [Act.put, FA]
   ·right; simp [Act.put, NL]
  ·simpa [Act.put, Array.getElem?_setIfInBounds_ne he] using h
theorem Od (a : Act) (d : Nat) : WY (a.put (some d) undef) d := by
 unfold WY
 rcases Nat.lt_or_ge d a.tmps.size with FA | NL
 ·left; simp [Act.put, FA]
 ·right; simp [Act.put, NL]
theorem Pc {j : Nat} {b b' : Bool} (hbb : b ≠ b') : ∀ (G : List Oper) (dead : List Nat) (a : Act), MD ops j b G dead = true → (∀ d ∈ dead, WY a d) → yielded ops a.tmps j = some b' → (∀ oj dj, ops[j]? = some oj → oj.dst = some dj → dj ∉ KO G) →
  (∀ a', a'.defers = a.defers → a'.tmps.size = a.tmps.size → (∀ t, t ∉ KO G → a'.tmps[t]? = a.tmps[t]?) → K a') → qs C ops I H K G a
 | [], _, _, _, _, _, _, h => h _ rfl rfl fun _ _ => rfl
 | o :: G, dead, a, hG, hd0, hy, hn, h => by
  unfold MD at hG
  rw [Bool.and_eq_true] at hG
  refine .inr ⟨?_, Pc hbb G (match o.dst with | some d => d :: dead | none => dead) _ hG.2 ?_ ?_ (fun oj dj h1 h2 hm => hn oj dj h1 h2 ?_) (fun a' h1 h2 h3 => h a' (h1.trans (put_defers _ _ _)) (h2.trans (RG _ _ _)) fun t ht => ?_)⟩
  ·cases hg : o.guard with
   | none => simp [hg] at hG
   | some p =>
    obtain ⟨j', b1⟩ := p
    have h1 := hG.1
    simp only [hg, Bool.or_eq_true, Bool.and_eq_true] at h1
    rcases h1 with ⟨h1, h2⟩ | h1
    ·have e1 := Nat.eq_of_beq_eq_true h1
     subst e1
     have e2 : b1 = b := by simpa using h2
     subst e2
     simp [Region.wanted, hg, hy, hbb.symm]
    ·cases hj : ops[j']? with
     | none => simp [hj] at h1
     | some oj =>
      simp only [hj] at h1
      cases MS : oj.dst with
      | none => simp [MS] at h1
      | some dj =>
       simp only [MS] at h1
       have := hd0 dj (by simpa using h1)
       have hyn : yielded ops a.tmps j' = none := by
        unfold yielded
        simp only [hj, MS, Option.bind_some]
        rcases this with e | e <;> simp [e, undef]
       simp [Region.wanted, hg, hyn]
  ·intro d hd
   cases ho : o.dst with
   | none => rw [ho] at hd; exact hd0 d hd
   | some e =>
    rw [ho] at hd
    rcases List.mem_cons.1 hd with rfl | hd
    ·exact Od a _
    ·exact Zw (hd0 d hd)
  ·cases hd : o.dst with
   | none => exact hy
   | some d =>
    unfold yielded at hy ⊢
    cases hj : ops[j]? with
    | none => simp [hj] at hy
    | some oj =>
     cases MS : oj.dst with
     | none => simp [hj, MS] at hy
     | some dj =>
      have EZ : d ≠ dj := fun e => hn oj dj hj MS (by subst e; unfold KO; rw [List.filterMap_cons, hd]; exact List.mem_cons_self)
      simp only [hj, MS, Option.bind_some] at hy ⊢
      simpa [Act.put, Array.getElem?_setIfInBounds_ne EZ] using hy
  ·unfold KO at hm ⊢
   rw [List.filterMap_cons]
   split
   ·exact hm
   ·exact List.mem_cons_of_mem _ hm
  ·unfold KO at ht
   rw [List.filterMap_cons] at ht
   cases hd : o.dst with
   | none =>
    rw [hd] at ht
    have := h3 t ht
    rw [hd] at this
    exact this
   | some d =>
    rw [hd] at ht
    have := h3 t (fun hm => ht (List.mem_cons_of_mem _ hm))
    rw [hd] at this
    rw [this]
    have EZ : d ≠ t := fun e => ht (by subst e; exact List.mem_cons_self)
    simp [Act.put, Array.getElem?_setIfInBounds_ne EZ]
theorem R4 {l rest : List Oper} {p oj : Oper} (k j dj d y : Nat) (want b c : Bool) (OA : l.drop k = p :: rest) (hga : MD ops j want (l.take k) [] = true) (hj : ops[j]? = some oj) (MS : oj.dst = some dj)
  (hb : Hg E dj = some (.bool b)) (Tj : (Jv (KO (l.take k)) E && !(KO (l.take k)).contains dj) = true)
  (hy : b = want → QS C ops (l.take k) ((dj, .bool want) :: E) I H (fun a' => a'.tmps[y]? = some (.bool c)))
  (hpw : ∀ a : Act, G2 E C.n a.tmps → Region.wanted p (yielded ops a.tmps) = true) (hpd : p.dst = some d) (hn : Nat.blt d C.n = true) (hpp : (want = true ∧ p.op = .pick (.tmp dj) (.tmp y) (.const (.bool false))) ∨ (want = false ∧ p.op = .pick (.tmp dj) (.const (.bool true)) (.tmp y)))
  (kk : QS C ops rest ((d, .bool (if want then b && c else b || c)) :: E) I H K) : QS C ops l E I H K := by
 intro a hs
 rw [Bool.and_eq_true] at Tj
 rw [← List.take_append_drop k l, OA]
 refine L6 _ _ _ ?_
 have hyl := IP (C := C) hs hj MS hb
 have after : ∀ a' : Act, a'.defers = a.defers → a'.tmps.size = a.tmps.size → (∀ t, t ∉ KO (l.take k) → a'.tmps[t]? = a.tmps[t]?) → (b = want → a'.tmps[y]? = some (.bool c)) → qs C ops I H K (p :: rest) a' := by
  intro a' _ h2 h3 h4
  have hsE : G2 E C.n a'.tmps := ⟨by rw [h2]; exact hs.1, fun t v ht => by rw [h3 t (MY Tj.1 ht)]; exact hs.2 t v ht⟩
  have hc : a'.eval (.tmp dj) = .bool b := hsE.ev (x := .tmp dj) hb
  refine .inl ⟨hpw a' hsE, .bool (if want then b && c else b || c), fun w _ => ?_, by rw [hpd]; exact kk _ (hsE.put (by simpa using hn) _)⟩
  have e1 : ∀ u, a'.eval (.const u) = u := fun _ => rfl
  rcases hpp with ⟨rfl, hp⟩ | ⟨rfl, hp⟩
  ·refine ⟨by rw [hp]; rfl, ?_⟩
   cases b with
   | false => simp [execOp, hp, hc, asBool, e1]
   | true =>
    have hy' : a'.eval (.tmp y) = .bool c := by simp [Act.eval, h4 rfl]
    simp [execOp, hp, hc, hy', asBool, e1]
  ·refine ⟨by rw [hp]; rfl, ?_⟩
   cases b with
   | true => simp [execOp, hp, hc, asBool, e1]
   | false =>
    have hy' : a'.eval (.tmp y) = .bool c := by simp [Act.eval, h4 rfl]
    simp [execOp, hp, hc, hy', asBool, e1]
 by_cases e : b = want
 ·subst e
  have h1 := hy rfl a (hs.sub (FI hb (Kd.refl E)))
  exact Gi (fun a' h => after a' h.2.1 h.2.2.1 h.2.2.2 fun _ => h.1) _ _ (LZ _ _ h1)
 ·refine Pc (b := want) (b' := b) (Ne.symm e) _ [] a hga (fun d hd => by cases hd) hyl (fun oj' dj' h1 h2 => ?_) fun a' h1 h2 h3 => after a' h1 h2 h3 fun e' => absurd e' e
  have : oj' = oj := Option.some.inj (h1.symm.trans hj)
  subst this
  rw [MS] at h2
  cases h2
  simpa using Tj.2
end
end Go.Tri

namespace Go.Tri
open Go.RowKit
theorem St.newW {w0 w w' : World} {I : AU} {H : List HA} (h : St w0 I H w) (o : Obj) (os : w'.os = w.os) (tape : w'.tape = w.tape) (output : w'.output = w.output) (size : w.heap.size ≤ w'.heap.size)
  (old : ∀ k, k < w.heap.size → w'.heap[k]? = w.heap[k]?) (new : w'.heap[w.heap.size]? = some o) : St w0 I (Fq w.heap.size o :: H) w' := by
 have h' := h.garb (w' := w') ⟨os, tape, output, size, old⟩
 have h0 := h.new o
 exact { h' with
  sat := fun x hx => by
   rcases List.mem_cons.1 hx with rfl | hx
   ·exact new
   ·exact h'.sat x hx
  sep := h0.sep
  dis := h0.dis }
theorem Pr {w0 w : World} {I : AU} {b : Nat} {o : Obj} {F : List HA} (h : St w0 I (Fq b o :: F) w) : ∃ J, Le I J ∧ J b = some o ∧ St w0 J F w := by
 have hb : w.heap[b]? = some o := h.sat _ (List.mem_cons_self)
 have hIb : I b = none := h.dis _ (List.mem_cons_self) b rfl
 let J : AU := fun k => if k = b then some o else I k
 refine ⟨J, fun k o' hk => ?_, by show (if b = b then _ else _) = _; rw [if_pos rfl], ?_⟩
 ·show (if k = b then _ else I k) = _
  split
  ·rename_i e; subst e; rw [hIb] at hk; cases hk
  ·exact hk
 ·refine { h.tail with imm := fun k o' hk => ?_, dis := fun y hy k hk => ?_ }
  ·have hk' : (if k = b then some o else I k) = some o' := hk
   by_cases e : k = b
   ·subst e
    rw [if_pos rfl] at hk'
    cases hk'
    exact hb
   ·rw [if_neg e] at hk'
    exact h.imm k o' hk'
  ·show (if k = b then _ else I k) = none
   by_cases e : k = b
   ·subst e
    exfalso
    have Nk := h.sep
    unfold Mo at Nk
    rw [List.filterMap_cons] at Nk
    exact (List.nodup_cons.1 Nk).1 (List.mem_filterMap.2 ⟨y, hy, hk⟩)
   ·rw [if_neg e]
    exact h.tail.dis y hy k hk
theorem P2 {α : Type} {f : α → List Value} {sz : Nat} (hu : ∀ c, (f c).length = sz) : ∀ {l : List α} {i j : Nat} {cs : List Value} {u : Value}, (l.map f)[i]? = some cs → cs[j]? = some u → (l.map f).flatten[i * sz + j]? = some u
 | [], _, _, _, _, hi, _ => by cases hi
 | c :: l, 0, j, cs, u, hi, hj => by
  simp only [List.map_cons, List.getElem?_cons_zero, Option.some.injEq] at hi
  subst hi
  have FA := (List.getElem?_eq_some_iff.1 hj).1
  simp only [List.map_cons, List.flatten_cons, Nat.zero_mul, Nat.zero_add]
  rw [List.getElem?_append_left FA]
  exact hj
 | c :: l, i + 1, j, cs, u, hi, hj => by
  simp only [List.map_cons, List.getElem?_cons_succ] at hi
  simp only [List.map_cons, List.flatten_cons]
  rw [Nat.add_mul, Nat.one_mul, List.getElem?_append_right (by rw [hu]; omega), hu, show i * sz + sz + j - sz = i * sz + j by omega]
  exact P2 hu hi hj
section
variable {C : Cx} {E : DJ} {I : AU} {H : List HA} {D : List Deferred} {Q : Exit → Act → World → Prop} {o : Oper}
theorem Uq {t t' e : TypeId} {x : Operand} {s : List UInt8} (ho : o.op = .convert t t' x) (hs : C.P.underlying t = some .string) (hd : C.P.underlying t' = some (.slice e)) (he : C.P.underlying e = some (.int .u8)) (hx : ev E x = some (Bj s)) :
  I9 C E I H o (fun v I' H' => Le I I' ∧ Sl I' 1 v (s.map Fo) ∧ H = H') := by
 intro a w Gf hw K Q hk
 have hw1 := hw.newW (w' := Lib.bytesWorld w e ⟨s.toArray⟩) _ (by simp [Lib.bytesWorld, World.freeze]; rfl) (by simp [Lib.bytesWorld, World.freeze]) (by simp [Lib.bytesWorld, World.freeze]; rfl) (by rw [Lib.bytesWorld_size]; omega) (fun k hk => Lib.bytesWorld_at_old w e _ k hk) (Lib.bytesWorld_at_new w e ⟨s.toArray⟩)
 obtain ⟨J, h1, h2, h3⟩ := Pr hw1
 refine C3 (w' := Lib.bytesWorld w e ⟨s.toArray⟩) (v := .slice (some ⟨w.heap.size, 0, none⟩) s.length (grownCap w s.length 0 e)) (by rw [ho]; rfl) ?_ (hk _ J H _ ⟨h1, ?_, rfl⟩ h3)
 ·simp only [execOp, ho, Gf.ev hx]
  rw [Sem.run_bind]
  unfold Bj
  rw [Lib.run_convert_string_bytes w t t' e ⟨s.toArray⟩ hs hd he]
  simp [DC]
 ·refine ⟨⟨some ⟨w.heap.size, 0, none⟩, _, by rw [List.length_map], ?_, fun _ a ha => (by cases ha; rfl), fun _ h => (by cases h)⟩, fun i j cs u hi hj => ⟨_, _, _, h2, ?_⟩⟩
  ·rw [List.length_map]; exact grownCap_ge w s.length 0 e
  ·have := P2 (sz := 1) (fun _ => rfl) hi hj
   rw [Lb] at this
   show (Lib.bytesCells w e ⟨s.toArray⟩)[0 + i * 1 + j]? = some u
   rw [Nat.zero_add]
   unfold Lib.bytesCells
   have FA := (List.getElem?_eq_some_iff.1 this).1
   rw [List.length_map] at FA
   rw [Array.getElem?_append_left (by simpa using FA)]
   simpa [u8] using this
theorem Ti {α : Type} {f : α → List Value} {l ls : List α} {x y : Operand} {t e e' : TypeId} {sz bytes : Nat} {v vy z : Value} {F : List HA} (ho : o.op = .call { callee := .builtin .append, args := #[x, y], argTypes := #[t, t] })
  (ht : C.P.underlying t = some (.slice e)) (hi : TI C.P e sz bytes z) (hz : z.cells.size = sz) (Lj : Nat.blt 0 sz = true)
  (hx : ev E x = some v) (hy : ev E y = some vy) (Kh : Sl I sz vy (ls.map f)) [hpk : D0 v e' sz l.length (l.map f).flatten F H] (Vf : e = e')
  (hu : ∀ c, (f c).length = sz) (h1 : ∀ c, ∀ u ∈ f c, u.oneCell' = true) (UL : l.length + ls.length ≤ maxLen) (Tu : (l.length + ls.length) * bytes ≤ 140737488355328) :
  I9 C E I H o (fun v' I' H' => I = I' ∧ H' = BO e' sz f v' (l ++ ls) :: F) := by
 by_cases hn : ls = []
 ·subst hn
  subst Vf
  intro a w hs hw K Q hk
  have hw' := hw.perm hpk.pick
  obtain ⟨⟨A, c, rfl, hc, _⟩, _⟩ := Kh
  obtain ⟨i, hii, hi1, Xk, hi3⟩ := hi
  obtain ⟨hl, hv⟩ : Fz v e sz l.length (l.map f).flatten (BF w) := hw'.sat _ (List.mem_cons_self)
  have Ec : ∃ base cap, v = .slice base l.length cap ∧ l.length ≤ cap := by
   rcases hv with ⟨rfl, h0⟩ | ⟨g, cap, cur, rfl, _, Ec, _⟩
   ·exact ⟨none, 0, by rw [h0], by omega⟩
   ·exact ⟨_, _, rfl, Ec⟩
  obtain ⟨base, cap, rfl, Ec⟩ := Ec
  have AQe : ∀ w, Lib.bytesWorld w e ⟨#[]⟩ = Lib.bytesWorld w e ⟨#[]⟩ := fun _ => rfl
  have DV : (Builtin.append_ #[t, t] o.type #[.slice base l.length cap, .slice A 0 c]).run C.P w = .ok (.slice base l.length cap) w := by
   refine run_append_nothing (P := C.P) w t t o.type e i ht hii base l.length cap Ec (.slice A 0 c) ⟨.inl ⟨e, ht⟩, fun w' => rfl, ?_, ?_, by simp, fun _ h => by cases h⟩ <;> cases A <;> simp [Builtin.firstCells, loadCells, loadCellsFrom]
  refine C3 (v := .slice base l.length cap) (w' := w) (by rw [ho]; rfl) ?_ (hk _ I _ w ⟨rfl, by rw [BO, List.append_nil]⟩ hw')
  simp only [execOp, ho, resolve]
  simp only [List.map_nil, List.length_nil] at hy
  simp [hs.ev hx, hs.ev hy, invoke, builtin, DV]
 ·have hmn : ls.map f ≠ [] := by simpa using hn
  obtain ⟨⟨A, c, rfl, hc, QU, EZ⟩, Iv⟩ := id Kh
  cases A with
  | none => exact absurd rfl (EZ hmn)
  | some ad =>
   have Xh := QU hmn ad rfl
   obtain ⟨b, off, sp⟩ := ad
   cases Xh
   have BH : ∀ m : List α, (m.map f).flatten.length = m.length * sz := fun m => by
    induction m with
    | nil => simp
    | cons d m ih => simp only [List.map_cons, List.flatten_cons, List.length_append, ih, hu, List.length_cons, Nat.add_mul, Nat.one_mul]; omega
   have key : ∀ (m : List α) (j : Nat) (u : Value), (m.map f).flatten[j]? = some u → ∃ i k cs, (m.map f)[i]? = some cs ∧ cs[k]? = some u ∧ j = i * sz + k := by
    intro m
    induction m with
    | nil => intro j u h; cases h
    | cons d m ih =>
     intro j u h
     simp only [List.map_cons, List.flatten_cons] at h
     rcases Nat.lt_or_ge j (f d).length with FA | NL
     ·rw [List.getElem?_append_left FA] at h
      exact ⟨0, j, f d, rfl, h, by omega⟩
     ·rw [List.getElem?_append_right NL] at h
      obtain ⟨i, k, cs, h1, h2, h3⟩ := ih _ _ h
      refine ⟨i + 1, k, cs, by simpa using h1, h2, ?_⟩
      rw [hu] at h3 NL
      rw [Nat.add_mul, Nat.one_mul]
      omega
   have hy' : ev E y = some (.slice (some ⟨b, off, none⟩) ls.length c) := by rw [hy, List.length_map]
   have := RX (C := C) (E := E) (I := I) (H := H) (news := (ls.map f).flatten) ho ht hi hz Lj hx hy' Vf (ABH fun j u hj => by
    obtain ⟨i, k, cs, h1, h2, rfl⟩ := key ls j u hj
    have := Iv i k cs u h1 h2
    rw [← Nat.add_assoc]
    exact this) (BH ls) (fun u hu' => by
     obtain ⟨cs, h2, h3⟩ := List.mem_flatten.1 hu'
     obtain ⟨c', _, rfl⟩ := List.mem_map.1 h2
     exact h1 c' u h3) UL Tu
   simpa [BO] using this
end
end Go.Tri

namespace Go.Tri
open Go.RowKit
def SM : List Value → Value
 | [v] => v
 | vs => .tuple vs.toArray
section
variable {C : Cx} {E : DJ} {I : AU} {H F : List HA} {R : Ending → World → Prop} {fn : Func}
def Vy (τ : Array Value) : ResultVar → Sem Value
 | .tmp t => pure (τ.getD t undef)
 | .cell a t => do loadVar t (← asAddr (τ.getD a undef))
theorem UV (fn : Func) (τ : Array Value) : results fn τ = (do let vs ← fn.results.mapM (Vy τ); pure (if h : vs.size = 1 then vs[0] else .tuple vs)) := by
 unfold results
 congr 2
theorem J8 {P : Program} {tmps : Array Value} {w0 : World} {v : Value} (hr : ∀ w, St w0 I F w → (results fn tmps).run P w = .ok v w) : ∀ (bs : List Nat) (w : World), St w0 I (bs.map (fun b => Fq b (.deferred (some []))) ++ F) w →
  (∀ w, St w0 I F w → R (.returned v) w) → LeavesInM (WF none) 0 P fn tmps R (Su bs) .returning w
 | [], w, hw, k => ⟨v, hr w hw, k w hw⟩
 | b :: bs, w, hw, k => by
  refine ⟨(by intro h; cases h), .inl ⟨b, w.putObj b (.deferred none), rfl, ?_, ?_⟩⟩
  ·exact run_takeDeferred (hw.sat (Fq b (.deferred (some []))) (List.mem_cons_self))
  ·exact J8 hr bs _ (OC (y := .deferred none) hw).tail k
end
end Go.Tri
namespace Go.Tri
open Go.RowKit
theorem EA {w0 : World} {I : AU} {H : List HA} {b o : Nat} {T : TypeId} {cs : List Value} {u : Value} [hm : HH b T cs H] (hu : cs[o]? = some u) : Rd w0 I H b o u := Tb hm.mem hu
end Go.Tri
namespace Go.Tri
open Go.RowKit
def U0 (P : Program) (f : FuncId) (args : List Value) (w : World) (R : Value → Prop) : Prop :=
 Calls P f args.toArray w fun e w' => ∃ v, e = .returned v ∧ R v ∧ Below w.heap.size w w'
theorem O5 {C : Cx} {E : DJ} {I : AU} {H : List HA} {o : Oper} {g : Operand} {f : FuncId} {args : Array Operand} {ts : Array TypeId} {vs : List Value} {fn : Func} {R : Value → Prop}
  (ho : o.op = .call { callee := .value g, args := args, argTypes := ts }) (hg : ev E g = some (.func (.func f) #[] #[])) (he : evs E args.toList = some vs)
  (Oi : C.P.funcs[f]? = some fn) (M5 : (fn.name == "runtime.NumGoroutine") = false) (Nt : fn.body.isNone = false)
  (hc : ∀ w, St C.w0 I H w → U0 C.P f vs w R) : I9 C E I H o (fun v I' H' => R v ∧ I = I' ∧ H = H') := by
 intro a w hs hw K Q hk
 have h1 : args.map a.eval = vs.toArray := by
  rw [← hs.evs he]; cases args; simp
 have DV : (execOp a.eval o).run C.P w = .ok (.enter f vs.toArray) w := by
  simp only [execOp, ho, resolve, h1, hs.ev hg]
  simp [Deferred.ofValue, invoke, Gg Oi M5 Nt]
 refine IV (R := fun v w'' => R v ∧ Below w.heap.size w w'') (by rw [ho]; rfl) DV ((hc w hw).mono fun e w' ⟨v, h1, h2, h3⟩ => ⟨v, h1, h2, h3⟩) fun v w'' ⟨hp, hb⟩ => hk v I H w'' ⟨hp, rfl, rfl⟩ (hw.garb hb)
end Go.Tri
namespace Go.Tri
open Go.RowKit
theorem Ac {C : Cx} {E : DJ} {I : AU} {H : List HA} {o : Oper} {p x : Operand} {t T : TypeId} {b off bytes : Nat} {v z : Value} {cs cs' : List Value} {F : List HA} (ho : o.op = .store t p x) (hi : TI C.P t 1 bytes z)
  (hp : ev E p = some (.pointer (some ⟨b, off, none⟩))) (hx : ev E x = some v) (h1 : Lh v) [hpk : HS b T cs F H] (FA : Nat.blt off cs.length = true) (JU : cs.set off v = cs') :
  I9 C E I H o (fun _ I' H' => I = I' ∧ H' = row b T cs' :: F) := by
 subst JU
 exact AAX ho hi hp hx h1 FA
end Go.Tri
namespace Go.Tri
open Go.RowKit
def QF (Q : Exit → Act → World → Prop) : Exit → Act → World → Prop
 | .panic _, _, _ => False
 | e, a, w => Q e a w
theorem AAs {P : Program} {f : FuncId} {fn : Func} {c : Code} {args : List Value} {R : Ending → World → Prop} {n : Nat} {w : World} {I : AU} {H : List HA}
  (hf : P.funcs[f]? = some fn) (hb : fn.body = some c) (hn : fn.ntmps = n) (ha : Nat.ble args.length n = true) (Dh : St w I H w)
  (h : T ⟨P, none, n, w⟩ c (Rb 0 args) I H [] (QF (bodyPostM (WF none) 0 P fn R))) : Calls P f args.toArray w R :=
 ZR hf hb hn ha Dh (Ym h fun e a w hq => by
  cases e <;> first | exact hq | exact hq.elim)
section
variable {C : Cx} {E : DJ} {I : AU} {H : List HA} {D : List Deferred} {Q : Exit → Act → World → Prop}
theorem Xr (h : N C .ret E I H D Q) : N C .ret E I H D (QF Q) := h
variable {ops : Array Oper} {K : Act → Prop}
theorem BA {l rest : List Oper} {p oj : Oper} (k j dj d y : Nat) (b c : Bool) (OA : l.drop k = p :: rest) (hga : MD ops j true (l.take k) [] = true) (hj : ops[j]? = some oj) (MS : oj.dst = some dj)
  (hb : Hg E dj = some (.bool b)) (Tj : (Jv (KO (l.take k)) E && !(KO (l.take k)).contains dj) = true)
  (hy : b = true → QS C ops (l.take k) ((dj, .bool true) :: E) I H (fun a' => a'.tmps[y]? = some (.bool c)))
  (hpw : ∀ a : Act, G2 E C.n a.tmps → Region.wanted p (yielded ops a.tmps) = true) (hpd : p.dst = some d) (hn : Nat.blt d C.n = true) (hpp : p.op = .pick (.tmp dj) (.tmp y) (.const (.bool false)))
  (kk : QS C ops rest ((d, .bool (b && c)) :: E) I H K) : QS C ops l E I H K := R4 k j dj d y true b c OA hga hj MS hb Tj hy hpw hpd hn (.inl ⟨rfl, hpp⟩) kk
theorem Bf {l rest : List Oper} {p oj : Oper} (k j dj d y : Nat) (b c : Bool) (OA : l.drop k = p :: rest) (hga : MD ops j false (l.take k) [] = true) (hj : ops[j]? = some oj) (MS : oj.dst = some dj)
  (hb : Hg E dj = some (.bool b)) (Tj : (Jv (KO (l.take k)) E && !(KO (l.take k)).contains dj) = true)
  (hy : b = false → QS C ops (l.take k) ((dj, .bool false) :: E) I H (fun a' => a'.tmps[y]? = some (.bool c)))
  (hpw : ∀ a : Act, G2 E C.n a.tmps → Region.wanted p (yielded ops a.tmps) = true) (hpd : p.dst = some d) (hn : Nat.blt d C.n = true) (hpp : p.op = .pick (.tmp dj) (.const (.bool true)) (.tmp y))
  (kk : QS C ops rest ((d, .bool (b || c)) :: E) I H K) : QS C ops l E I H K := R4 k j dj d y false b c OA hga hj MS hb Tj hy hpw hpd hn (.inr ⟨rfl, hpp⟩) kk
end
end Go.Tri
namespace Go.Tri
open Go.RowKit
end Go.Tri
