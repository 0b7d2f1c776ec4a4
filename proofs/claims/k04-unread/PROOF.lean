import PyProof.Rows.All
import Wide.All
import OpenK.AllK
import Wide.FinOn
import HandS.ForMost
import HandS.ForExc
import HandS.Deep
import KE.LtData
import KE.DataFind
import HandS.Nested
import HandS.Text
import HandS.Wide
import HandS.IsInst
import HandS.Iter
import HandS.Flt
import HandS.SetFor
import HandS.Conv
import HandS.Rev
import HandS.Dict
import HandS.ExcOwn
import HandS.ExcIs
import HandS.WordsExc
import HandS.More
import HandS.SortInts
import KE.KStateDown
import HandS.Ends
import HandS.Words
import HandS.Defaults
import HandS.Head0
import HandS.Head1
import HandS.Head2
import HandS.HeadEnd
import HandS.HeadHook1
import HandS.HeadHook2
import HandS.HeadHook4
import HandS.HeadWalk
import PySem.Challenge.RW_chairclans_k04_unread
set_option Elab.async false
set_option linter.all false
set_option maxRecDepth 100000
set_option maxHeartbeats 2000000
/-! L3.Data: trees of values, with the word who owns a list, and how they lie in the heap. -/
namespace L3
open PySem L2

/-- own: this tree alone holds the list; fz: it stands still for ever; pk: it is looked at now, held by another; lk: own, but locked by a loop -/
inductive Fl where
  | own | fz | pk | lk
  deriving DecidableEq
/-- a tree of values -/
inductive D where
  | non | bl (b : Bool) | int (i : Int) | str (x : Str)
  | tup (ds : List D)
  | lst (f : Fl) (ds : List D)
  /-- the script: a list that is read alone -/
  | scr (ns : List Int)
  /-- a caught error of the class n -/
  | exc (n : Str)
  /-- the function number n made here -/
  | clo (n : Nat)
instance : Inhabited D := ⟨.non⟩
/-! ### words on flags -/
@[simp] def Fl.peek : Fl → Fl | .own => .pk | .lk => .pk | f => f
mutual
@[simp] def nopk : D → Bool
  | .tup ds => nopks ds
  | .lst f ds => (f != .pk) && nopks ds
  | _ => true
@[simp] def nopks : List D → Bool
  | [] => true
  | d :: ds => nopk d && nopks ds
end
mutual
/-- no list within stands still or is the script -/
@[simp] def nofz : D → Bool
  | .tup ds => nofzs ds
  | .lst f ds => (f != .fz) && nofzs ds
  | .scr _ => false
  | .clo _ => false
  | _ => true
@[simp] def nofzs : List D → Bool
  | [] => true
  | d :: ds => nofz d && nofzs ds
end
mutual
/-- every list within stands still -/
@[simp] def allfz : D → Bool
  | .tup ds => allfzs ds
  | .lst f ds => (f == .fz) && allfzs ds
  | _ => true
@[simp] def allfzs : List D → Bool
  | [] => true
  | d :: ds => allfz d && allfzs ds
end
mutual
/-- no list within is owned -/
@[simp] def noown : D → Bool
  | .tup ds => noowns ds
  | .lst f ds => (f == .fz || f == .pk) && noowns ds
  | _ => true
@[simp] def noowns : List D → Bool
  | [] => true
  | d :: ds => noown d && noowns ds
end
mutual
@[simp] def frz : D → D
  | .tup ds => .tup (frzs ds)
  | .lst _ ds => .lst .fz (frzs ds)
  | d => d
@[simp] def frzs : List D → List D
  | [] => []
  | d :: ds => frz d :: frzs ds
end
mutual
@[simp] def peek : D → D
  | .tup ds => .tup (peeks ds)
  | .lst f ds => .lst f.peek (peeks ds)
  | d => d
@[simp] def peeks : List D → List D
  | [] => []
  | d :: ds => peek d :: peeks ds
end
theorem nopks_all : ∀ ds : List D, nopks ds = ds.all nopk
  | [] => rfl
  | d :: ds => by rw [nopks, nopks_all ds]; rfl
theorem nofzs_all : ∀ ds : List D, nofzs ds = ds.all nofz
  | [] => rfl
  | d :: ds => by rw [nofzs, nofzs_all ds]; rfl
theorem allfzs_all : ∀ ds : List D, allfzs ds = ds.all allfz
  | [] => rfl
  | d :: ds => by rw [allfzs, allfzs_all ds]; rfl
theorem noowns_all : ∀ ds : List D, noowns ds = ds.all noown
  | [] => rfl
  | d :: ds => by rw [noowns, noowns_all ds]; rfl
theorem frzs_map : ∀ ds : List D, frzs ds = ds.map frz
  | [] => rfl
  | d :: ds => by rw [frzs, frzs_map ds]; rfl
theorem peeks_map : ∀ ds : List D, peeks ds = ds.map peek
  | [] => rfl
  | d :: ds => by rw [peeks, peeks_map ds]; rfl

/-- the tables of code objects, and what each tells -/
class TbC where
  T : List NdefX.NTab
def isTb : HO → Bool
  | .tbl _ => true
  | _ => false
def isEx : HO → Bool
  | .ext _ => true
  | .dT _ => true
  | _ => false
variable [TbC]
/-- all that was tracked is so still; the tables may grow -/
structure Ex (H H' : Hp) : Prop where
  k : ∀ a o, isTb o = false → H a = some o → H' a = some o
  f : ∀ a, H' a = none → H a = none
  t : NdefX.TabsN TbC.T H → NdefX.TabsN TbC.T H'
theorem Ex.of {H H' : Hp} (s : Same H H') : Ex H H' := ⟨fun a o _ h => s a o h, fun a h => Same.free s h, fun h => h.ext s⟩
theorem Ex.refl (H : Hp) : Ex H H := .of (Same.refl H)
theorem Ex.trans {H H1 H2 : Hp} (a : Ex H H1) (b : Ex H1 H2) : Ex H H2 := ⟨fun c o n h => b.k c o n (a.k c o n h), fun c h => a.f c (b.f c h), fun h => b.t (a.t h)⟩
theorem Ex.free {H H' : Hp} (e : Ex H H') {a : Addr} (h : H' a = none) : H a = none := e.f a h
theorem Ex.lst {H H' : Hp} (e : Ex H H') {a : Addr} {xs : List V} (h : H a = some (.lst xs)) : H' a = some (.lst xs) := e.k _ _ rfl h
theorem Ex.new {H : Hp} {p : Addr} {o : HO} (h : H p = none) : Ex H (upd H p o) := .of fun a u e => by
  rw [upd_ne (ne_of_none e h)]
  exact e
theorem Ex.seq {K : PySem.W.Frag} {H H' : Hp} {a : Addr} {xs : List V} (e : Ex H H') (h : SqL K H a xs) : SqL K H' a xs := by
  rcases h with (h | ⟨o, h⟩) | h
  · exact .inl (.inl (e.k _ _ rfl h))
  · exact .inl (.inr ⟨o, e.k _ _ rfl h⟩)
  · exact .inr h
/-- the written part, and which error is caught where -/
structure Xi where
  /-- the error at a -/
  ex : Addr → Str → Prop
  /-- the function number n at a -/
  fo : Nat → Addr → Hp → Prop
  mono : ∀ {n : Nat} {a : Addr} {F F' : Hp}, Ex F F' → fo n a F → fo n a F'
  /-- what else is there -/
  obs : List (Addr × HO)
  obx : ∀ p ∈ obs, isEx p.2 = true
structure Kx where
  K : PySem.W.Frag
  xi : Xi
section
variable (K : Kx) (F H : Hp)
def LsAt : Fl → Addr → List V → List Addr → List Addr → Prop
  | .own, a, vs, g, fp => H a = some (.lst vs) ∧ fp = a :: g
  | .lk, a, vs, g, fp => H a = some (.lst vs) ∧ fp = a :: g
  | .fz, a, vs, g, fp => F a = some (.lst vs) ∧ g = [] ∧ fp = []
  | .pk, a, vs, g, fp => H a = some (.lst vs) ∧ g = [] ∧ fp = []
mutual
/-- the tree d is the value v; F: what stands still; H: all; fp: the lists that it owns -/
inductive R : D → V → List Addr → Prop
  | non : R .non .non []
  | bl (b : Bool) : R (.bl b) (.bl b) []
  | int (i : Int) : R (.int i) (.int i) []
  | str (x : Str) : R (.str x) (.str x) []
  | tup {ds : List D} {a : Addr} {vs : List V} {fp : List Addr} : SqT K.K H a vs → Rs ds vs fp → R (.tup ds) (.ref a) fp
  | lst {f : Fl} {ds : List D} {a : Addr} {vs : List V} {g fp : List Addr} : Rs ds vs g → LsAt F H f a vs g fp → R (.lst f ds) (.ref a) fp
  | scr {ns : List Int} {a : Addr} : SqL K.K F a (ns.map V.int) → R (.scr ns) (.ref a) []
  | exc {n : Str} {a : Addr} : K.xi.ex a n → R (.exc n) (.ref a) []
  | clo {n : Nat} {a : Addr} : K.xi.fo n a F → R (.clo n) (.ref a) []
inductive Rs : List D → List V → List Addr → Prop
  | nil : Rs [] [] []
  | cons {d : D} {v : V} {f1 : List Addr} {ds : List D} {vs : List V} {f2 : List Addr} : R d v f1 → Rs ds vs f2 → Rs (d :: ds) (v :: vs) (f1 ++ f2)
end
/-- the slots -/
inductive Es : List (Option D) → List (Option V) → List Addr → Prop
  | emp : Es [] [] []
  | no {e : List (Option D)} {s : List (Option V)} {fp : List Addr} (o : Option V) : Es e s fp → Es (none :: e) (o :: s) fp
  | ye {d : D} {v : V} {f1 : List Addr} {e : List (Option D)} {s : List (Option V)} {f2 : List Addr} : R K F H d v f1 → Es e s f2 → Es (some d :: e) (some v :: s) (f1 ++ f2)
end

theorem tabs_mut {H : Hp} {a : Addr} {xs ys : List V} {T : List NdefX.NTab} (h : H a = some (.lst xs)) (t : NdefX.TabsN T H) : NdefX.TabsN T (upd H a (.lst ys)) := fun p hp => by
  obtain ⟨ps, h1, h2, h3⟩ := t p hp
  refine ⟨ps, (upd_ne fun z => ?_).trans h1, h2, fun pos cv hc => ?_⟩
  · rw [z, h] at h1
    cases h1
  · obtain ⟨c, e1, e2⟩ := h3 pos cv hc
    refine ⟨c, e1, (upd_ne fun z => ?_).trans e2⟩
    rw [z, h] at e2
    unfold LamX.CodeO at e2
    cases e2
theorem none_mut {H : Hp} {a b : Addr} {ys : List V} (e : upd H a (.lst ys) b = none) : b ≠ a ∧ H b = none := by
  by_cases z : b = a
  · rw [z, upd_same] at e
    cases e
  · rw [upd_ne z] at e
    exact ⟨z, e⟩
/-- a list that does not stand still changes -/
theorem Ex.mut {F H : Hp} {a : Addr} {xs ys : List V} (s : Ex F H) (ha : H a = some (.lst xs)) (off : F a = none) : Ex F (upd H a (.lst ys)) :=
  ⟨fun b u n e => (upd_ne fun z => by rw [z, off] at e; cases e).trans (s.k b u n e), fun b e => s.f b (none_mut e).2, fun h => tabs_mut ha (s.t h)⟩
/-- tuples stand; nothing is gone; the tables are right -/
structure Tx (H H' : Hp) : Prop where
  k : ∀ a u, Rd H a (.tup u) → Rd H' a (.tup u)
  f : ∀ a, H' a = none → H a = none
  t : NdefX.TabsN TbC.T H → NdefX.TabsN TbC.T H'
theorem Ex.tx {H H' : Hp} (e : Ex H H') : Tx H H' := ⟨fun a u h => by
  rcases h with h | ⟨o, h⟩
  · exact .inl (e.k _ _ rfl h)
  · exact .inr ⟨o, e.k _ _ rfl h⟩, e.f, e.t⟩
theorem Tx.refl (H : Hp) : Tx H H := ⟨fun _ _ h => h, fun _ h => h, fun h => h⟩
theorem Tx.trans {H H1 H2 : Hp} (a : Tx H H1) (b : Tx H1 H2) : Tx H H2 := ⟨fun x u h => b.k x u (a.k x u h), fun x h => a.f x (b.f x h), fun h => b.t (a.t h)⟩
theorem Tx.mut {H : Hp} {a : Addr} {xs ys : List V} (h : H a = some (.lst xs)) : Tx H (upd H a (.lst ys)) := ⟨fun b u e => by
  have n : b ≠ a := fun z => by
    subst z
    rcases e with e | ⟨o, e⟩ <;> (rw [h] at e; cases e)
  rcases e with e | ⟨o, e⟩
  · exact .inl ((upd_ne n).trans e)
  · exact .inr ⟨o, (upd_ne n).trans e⟩, fun b e => (none_mut e).2, tabs_mut h⟩
section
variable {K : Kx} {F F' H H' : Hp}
theorem tx_t {K : PySem.W.Frag} {a : Addr} {xs : List V} (e : Tx H H') (h : SqT K H a xs) : SqT K H' a xs := by
  rcases h with h | h
  · exact .inl (e.k _ _ h)
  · exact .inr h
theorem LsAt.mono {f : Fl} {a : Addr} {vs : List V} {g fp : List Addr} (eF : Ex F F') (eH : Ex H H') (h : LsAt F H f a vs g fp) : LsAt F' H' f a vs g fp := by
  cases f with
  | own => exact ⟨eH.lst h.1, h.2⟩
  | lk => exact ⟨eH.lst h.1, h.2⟩
  | fz => exact ⟨eF.lst h.1, h.2⟩
  | pk => exact ⟨eH.lst h.1, h.2⟩
mutual
theorem R.mono (eF : Ex F F') (eH : Ex H H') : ∀ {d : D} {v : V} {fp : List Addr}, R K F H d v fp → R K F' H' d v fp
  | _, _, _, .non => .non
  | _, _, _, .bl b => .bl b
  | _, _, _, .int i => .int i
  | _, _, _, .str x => .str x
  | _, _, _, .tup h r => .tup (tx_t eH.tx h) (Rs.mono eF eH r)
  | _, _, _, .lst r h => .lst (Rs.mono eF eH r) (h.mono eF eH)
  | _, _, _, .scr h => .scr (Ex.seq eF h)
  | _, _, _, .exc h => .exc h
  | _, _, _, .clo h => .clo (K.xi.mono eF h)
theorem Rs.mono (eF : Ex F F') (eH : Ex H H') : ∀ {ds : List D} {vs : List V} {fp : List Addr}, Rs K F H ds vs fp → Rs K F' H' ds vs fp
  | _, _, _, .nil => .nil
  | _, _, _, .cons h r => .cons (R.mono eF eH h) (Rs.mono eF eH r)
end
theorem Es.mono (eF : Ex F F') (eH : Ex H H') : ∀ {e : List (Option D)} {s : List (Option V)} {fp : List Addr}, Es K F H e s fp → Es K F' H' e s fp
  | _, _, _, .emp => .emp
  | _, _, _, .no o r => .no o (Es.mono eF eH r)
  | _, _, _, .ye h r => .ye (h.mono eF eH) (Es.mono eF eH r)
mutual
/-- a tree that is not peeked at hangs on what it owns alone -/
theorem R.keep (eF : Ex F F') (eT : Tx H H') : ∀ {d : D} {v : V} {fp : List Addr}, R K F H d v fp → nopk d = true → (∀ a o, a ∈ fp → H a = some (.lst o) → H' a = some (.lst o)) → R K F' H' d v fp
  | _, _, _, .non, _, _ => .non
  | _, _, _, .bl b, _, _ => .bl b
  | _, _, _, .int i, _, _ => .int i
  | _, _, _, .str x, _, _ => .str x
  | _, _, _, .tup h r, n, k => .tup (tx_t eT h) (Rs.keep eF eT r n k)
  | _, _, _, .lst (f := f) r h, n, k => by
    rw [nopk, Bool.and_eq_true] at n
    obtain ⟨n1, n2⟩ := n
    cases f with
    | own =>
      obtain ⟨h1, rfl⟩ := h
      exact .lst (Rs.keep eF eT r n2 fun a o m e => k a o (List.mem_cons_of_mem _ m) e) ⟨k _ _ List.mem_cons_self h1, rfl⟩
    | lk =>
      obtain ⟨h1, rfl⟩ := h
      exact .lst (Rs.keep eF eT r n2 fun a o m e => k a o (List.mem_cons_of_mem _ m) e) ⟨k _ _ List.mem_cons_self h1, rfl⟩
    | fz =>
      obtain ⟨h1, rfl, rfl⟩ := h
      exact .lst (Rs.keep eF eT r n2 k) ⟨eF.lst h1, rfl, rfl⟩
    | pk => cases n1
  | _, _, _, .scr h, _, _ => .scr (Ex.seq eF h)
  | _, _, _, .exc h, _, _ => .exc h
  | _, _, _, .clo h, _, _ => .clo (K.xi.mono eF h)
theorem Rs.keep (eF : Ex F F') (eT : Tx H H') : ∀ {ds : List D} {vs : List V} {fp : List Addr}, Rs K F H ds vs fp → nopks ds = true → (∀ a o, a ∈ fp → H a = some (.lst o) → H' a = some (.lst o)) → Rs K F' H' ds vs fp
  | _, _, _, .nil, _, _ => .nil
  | _, _, _, .cons h r, n, k => by
    rw [nopks, Bool.and_eq_true] at n
    exact .cons (R.keep eF eT h n.1 fun a o m e => k a o (List.mem_append_left _ m) e) (Rs.keep eF eT r n.2 fun a o m e => k a o (List.mem_append_right _ m) e)
end
mutual
/-- what a tree owns is there -/
theorem R.has : ∀ {d : D} {v : V} {fp : List Addr}, R K F H d v fp → ∀ a, a ∈ fp → ∃ xs, H a = some (.lst xs)
  | _, _, _, .non, a, m => absurd m List.not_mem_nil
  | _, _, _, .bl b, a, m => absurd m List.not_mem_nil
  | _, _, _, .int i, a, m => absurd m List.not_mem_nil
  | _, _, _, .str x, a, m => absurd m List.not_mem_nil
  | _, _, _, .scr h, a, m => absurd m List.not_mem_nil
  | _, _, _, .exc h, a, m => absurd m List.not_mem_nil
  | _, _, _, .clo h, a, m => absurd m List.not_mem_nil
  | _, _, _, .tup h r, a, m => Rs.has r a m
  | _, _, _, .lst (f := f) r h, a, m => by
    cases f with
    | own =>
      obtain ⟨h1, rfl⟩ := h
      rcases List.mem_cons.mp m with e | m
      · subst e; exact ⟨_, h1⟩
      · exact Rs.has r a m
    | lk =>
      obtain ⟨h1, rfl⟩ := h
      rcases List.mem_cons.mp m with e | m
      · subst e; exact ⟨_, h1⟩
      · exact Rs.has r a m
    | fz => obtain ⟨h1, _, rfl⟩ := h; cases m
    | pk => obtain ⟨h1, _, rfl⟩ := h; cases m
theorem Rs.has : ∀ {ds : List D} {vs : List V} {fp : List Addr}, Rs K F H ds vs fp → ∀ a, a ∈ fp → ∃ xs, H a = some (.lst xs)
  | _, _, _, .nil, a, m => absurd m List.not_mem_nil
  | _, _, _, .cons h r, a, m => by
    rcases List.mem_append.mp m with m | m
    · exact R.has h a m
    · exact Rs.has r a m
end
theorem Es.has : ∀ {e : List (Option D)} {s : List (Option V)} {fp : List Addr}, Es K F H e s fp → ∀ a, a ∈ fp → ∃ xs, H a = some (.lst xs)
  | _, _, _, .emp, a, m => absurd m List.not_mem_nil
  | _, _, _, .no o r, a, m => Es.has r a m
  | _, _, _, .ye h r, a, m => by
    rcases List.mem_append.mp m with m | m
    · exact R.has h a m
    · exact Es.has r a m
mutual
theorem R.peek (s : Ex F H) : ∀ {d : D} {v : V} {fp : List Addr}, R K F H d v fp → R K F H (L3.peek d) v []
  | _, _, _, .non => .non
  | _, _, _, .bl b => .bl b
  | _, _, _, .int i => .int i
  | _, _, _, .str x => .str x
  | _, _, _, .tup h r => .tup h (Rs.peek s r)
  | _, _, _, .lst (f := f) r h => by
    cases f with
    | own => exact .lst (Rs.peek s r) ⟨h.1, rfl, rfl⟩
    | lk => exact .lst (Rs.peek s r) ⟨h.1, rfl, rfl⟩
    | fz => exact .lst (Rs.peek s r) ⟨h.1, rfl, rfl⟩
    | pk => exact .lst (Rs.peek s r) ⟨h.1, rfl, rfl⟩
  | _, _, _, .scr h => .scr h
  | _, _, _, .exc h => .exc h
  | _, _, _, .clo h => .clo h
theorem Rs.peek (s : Ex F H) : ∀ {ds : List D} {vs : List V} {fp : List Addr}, Rs K F H ds vs fp → Rs K F H (peeks ds) vs []
  | _, _, _, .nil => .nil
  | _, _, _, .cons h r => .cons (f1 := []) (f2 := []) (R.peek s h) (Rs.peek s r)
end
/-- what stands still, and these lists besides -/
def addF (F H : Hp) (fp : List Addr) : Hp := fun a => if a ∈ fp then H a else F a
theorem addF_ex {fp : List Addr} (off : ∀ a ∈ fp, F a = none) : Ex F (addF F H fp) := .of fun a o e => by
  unfold addF
  rw [if_neg (fun m => by rw [off a m] at e; cases e)]
  exact e
theorem addF_sub {fp : List Addr} (s : Ex F H) (hl : ∀ a ∈ fp, ∃ xs, H a = some (.lst xs)) : Ex (addF F H fp) H := by
  have at_ : ∀ a o, addF F H fp a = some o → (∀ xs, o ≠ .lst xs) → F a = some o := fun a o e n => by
    unfold addF at e
    by_cases m : a ∈ fp
    · rw [if_pos m] at e
      obtain ⟨xs, h⟩ := hl a m
      rw [h] at e
      cases e
      exact absurd rfl (n xs)
    · rw [if_neg m] at e
      exact e
  refine ⟨fun a o n e => ?_, fun a e => ?_, fun h => s.t fun p hp => ?_⟩
  · unfold addF at e
    by_cases m : a ∈ fp
    · rw [if_pos m] at e; exact e
    · rw [if_neg m] at e; exact s.k a o n e
  · unfold addF
    by_cases m : a ∈ fp
    · rw [if_pos m]; exact e
    · rw [if_neg m]; exact s.f a e
  · obtain ⟨ps, h1, h2, h3⟩ := h p hp
    refine ⟨ps, at_ _ _ h1 (fun xs z => by cases z), h2, fun pos cv hc => ?_⟩
    obtain ⟨c, e1, e2⟩ := h3 pos cv hc
    exact ⟨c, e1, at_ _ _ e2 (fun xs z => by unfold LamX.CodeO at z; cases z)⟩
theorem addF_in {fp : List Addr} {a : Addr} (m : a ∈ fp) : addF F H fp a = H a := by unfold addF; rw [if_pos m]
theorem addF_out {fp : List Addr} {a : Addr} (m : a ∉ fp) : addF F H fp a = F a := by unfold addF; rw [if_neg m]
mutual
/-- frozen: G knows what stood still and what the tree owns -/
theorem R.frz {G : Hp} (eG : Ex F G) : ∀ {d : D} {v : V} {fp : List Addr}, R K F H d v fp → nopk d = true → (∀ a ∈ fp, G a = H a) → R K G H (L3.frz d) v []
  | _, _, _, .non, _, _ => .non
  | _, _, _, .bl b, _, _ => .bl b
  | _, _, _, .int i, _, _ => .int i
  | _, _, _, .str x, _, _ => .str x
  | _, _, _, .tup h r, n, k => .tup h (Rs.frz eG r n k)
  | _, _, _, .lst (f := f) r h, n, k => by
    rw [nopk, Bool.and_eq_true] at n
    obtain ⟨n1, n2⟩ := n
    cases f with
    | own =>
      obtain ⟨h1, rfl⟩ := h
      exact .lst (Rs.frz eG r n2 fun a m => k a (List.mem_cons_of_mem _ m)) ⟨(k _ List.mem_cons_self).trans h1, rfl, rfl⟩
    | lk =>
      obtain ⟨h1, rfl⟩ := h
      exact .lst (Rs.frz eG r n2 fun a m => k a (List.mem_cons_of_mem _ m)) ⟨(k _ List.mem_cons_self).trans h1, rfl, rfl⟩
    | fz =>
      obtain ⟨h1, rfl, rfl⟩ := h
      exact .lst (Rs.frz eG r n2 k) ⟨eG.lst h1, rfl, rfl⟩
    | pk => cases n1
  | _, _, _, .scr h, _, _ => .scr (Ex.seq eG h)
  | _, _, _, .exc h, _, _ => .exc h
  | _, _, _, .clo h, _, _ => .clo (K.xi.mono eG h)
theorem Rs.frz {G : Hp} (eG : Ex F G) : ∀ {ds : List D} {vs : List V} {fp : List Addr}, Rs K F H ds vs fp → nopks ds = true → (∀ a ∈ fp, G a = H a) → Rs K G H (frzs ds) vs []
  | _, _, _, .nil, _, _ => .nil
  | _, _, _, .cons h r, n, k => by
    rw [nopks, Bool.and_eq_true] at n
    exact .cons (f1 := []) (f2 := []) (R.frz eG h n.1 fun a m => k a (List.mem_append_left _ m)) (Rs.frz eG r n.2 fun a m => k a (List.mem_append_right _ m))
end
mutual
/-- seen from a callee: all that is stands still -/
theorem R.all (s : Ex F H) : ∀ {d : D} {v : V} {fp : List Addr}, R K F H d v fp → R K H H (L3.frz d) v []
  | _, _, _, .non => .non
  | _, _, _, .bl b => .bl b
  | _, _, _, .int i => .int i
  | _, _, _, .str x => .str x
  | _, _, _, .tup h r => .tup h (Rs.all s r)
  | _, _, _, .lst (f := f) r h => by
    cases f with
    | own => exact .lst (Rs.all s r) ⟨h.1, rfl, rfl⟩
    | lk => exact .lst (Rs.all s r) ⟨h.1, rfl, rfl⟩
    | fz => exact .lst (Rs.all s r) ⟨s.lst h.1, rfl, rfl⟩
    | pk => exact .lst (Rs.all s r) ⟨h.1, rfl, rfl⟩
  | _, _, _, .scr h => .scr (Ex.seq s h)
  | _, _, _, .exc h => .exc h
  | _, _, _, .clo h => .clo (K.xi.mono s h)
theorem Rs.all (s : Ex F H) : ∀ {ds : List D} {vs : List V} {fp : List Addr}, Rs K F H ds vs fp → Rs K H H (frzs ds) vs []
  | _, _, _, .nil => .nil
  | _, _, _, .cons h r => .cons (f1 := []) (f2 := []) (R.all s h) (Rs.all s r)
end
mutual
/-- a tree without what stands still does not hang on it -/
theorem R.anyF {G : Hp} : ∀ {d : D} {v : V} {fp : List Addr}, R K F H d v fp → nofz d = true → R K G H d v fp
  | _, _, _, .non, _ => .non
  | _, _, _, .bl b, _ => .bl b
  | _, _, _, .int i, _ => .int i
  | _, _, _, .str x, _ => .str x
  | _, _, _, .tup h r, n => .tup h (Rs.anyF r n)
  | _, _, _, .lst (f := f) r h, n => by
    rw [nofz, Bool.and_eq_true] at n
    obtain ⟨n1, n2⟩ := n
    cases f with
    | own => exact .lst (Rs.anyF r n2) h
    | lk => exact .lst (Rs.anyF r n2) h
    | fz => cases n1
    | pk => exact .lst (Rs.anyF r n2) h
  | _, _, _, .scr h, n => absurd (show false = true from n) Bool.false_ne_true
  | _, _, _, .exc h, n => .exc h
  | _, _, _, .clo h, n => absurd (show false = true from n) Bool.false_ne_true
theorem Rs.anyF {G : Hp} : ∀ {ds : List D} {vs : List V} {fp : List Addr}, Rs K F H ds vs fp → nofzs ds = true → Rs K G H ds vs fp
  | _, _, _, .nil, _ => .nil
  | _, _, _, .cons h r, n => by
    rw [nofzs, Bool.and_eq_true] at n
    exact .cons (R.anyF h n.1) (Rs.anyF r n.2)
end
mutual
theorem R.noown : ∀ {d : D} {v : V} {fp : List Addr}, R K F H d v fp → noown d = true → fp = []
  | _, _, _, .non, _ => rfl
  | _, _, _, .bl b, _ => rfl
  | _, _, _, .int i, _ => rfl
  | _, _, _, .str x, _ => rfl
  | _, _, _, .tup h r, n => Rs.noown r n
  | _, _, _, .lst (f := f) r h, n => by
    rw [L3.noown, Bool.and_eq_true] at n
    cases f with
    | own => cases n.1
    | lk => cases n.1
    | fz => exact h.2.2
    | pk => exact h.2.2
  | _, _, _, .scr h, _ => rfl
  | _, _, _, .exc h, _ => rfl
  | _, _, _, .clo h, _ => rfl
theorem Rs.noown : ∀ {ds : List D} {vs : List V} {fp : List Addr}, Rs K F H ds vs fp → noowns ds = true → fp = []
  | _, _, _, .nil, _ => rfl
  | _, _, _, .cons h r, n => by
    rw [noowns, Bool.and_eq_true] at n
    rw [R.noown h n.1, Rs.noown r n.2]
    rfl
end
mutual
theorem allfz_frz : ∀ d : D, allfz d = true → frz d = d
  | .non, _ => rfl
  | .bl _, _ => rfl
  | .int _, _ => rfl
  | .str _, _ => rfl
  | .tup ds, n => by rw [frz, allfzs_frzs ds n]
  | .lst f ds, n => by
    rw [allfz, Bool.and_eq_true] at n
    have e : f = .fz := by simpa using n.1
    rw [frz, allfzs_frzs ds n.2, e]
  | .scr _, _ => rfl
  | .exc _, _ => rfl
  | .clo _, _ => rfl
theorem allfzs_frzs : ∀ ds : List D, allfzs ds = true → frzs ds = ds
  | [], _ => rfl
  | d :: ds, n => by
    rw [allfzs, Bool.and_eq_true] at n
    rw [frzs, allfz_frz d n.1, allfzs_frzs ds n.2]
end
theorem Rs.length : ∀ {ds : List D} {vs : List V} {fp : List Addr}, Rs K F H ds vs fp → ds.length = vs.length
  | _, _, _, .nil => rfl
  | _, _, _, .cons h r => by simp [Rs.length r]
theorem Es.length : ∀ {e : List (Option D)} {s : List (Option V)} {fp : List Addr}, Es K F H e s fp → e.length = s.length
  | _, _, _, .emp => rfl
  | _, _, _, .no o r => by simp [Es.length r]
  | _, _, _, .ye h r => by simp [Es.length r]
/-- a slot -/
theorem Es.get : ∀ {e : List (Option D)} {s : List (Option V)} {fp : List Addr} {i : Nat} {d : D}, Es K F H e s fp → e[i]? = some (some d) → ∃ v g, s[i]? = some (some v) ∧ R K F H d v g ∧ g.Sublist fp
  | _, _, _, 0, d, .no o r, h => by simp at h
  | _, _, _, 0, d, .ye r q, h => by
    simp at h
    subst h
    exact ⟨_, _, rfl, r, List.sublist_append_left _ _⟩
  | _, _, _, i + 1, d, .no o r, h => by
    obtain ⟨v, g, h1, h2, h3⟩ := Es.get (i := i) r (by simpa using h)
    exact ⟨v, g, by simpa using h1, h2, h3⟩
  | _, _, _, i + 1, d, .ye r q, h => by
    obtain ⟨v, g, h1, h2, h3⟩ := Es.get (i := i) q (by simpa using h)
    exact ⟨v, g, by simpa using h1, h2, h3.trans (List.sublist_append_right _ _)⟩
  | _, _, _, _, d, .emp, h => by simp at h
/-- forget a slot -/
theorem Es.drop : ∀ {e : List (Option D)} {s : List (Option V)} {fp : List Addr} (i : Nat) (o : Option V), Es K F H e s fp → ∃ g, Es K F H (e.set i none) (s.set i o) g ∧ g.Sublist fp
  | _, _, _, _, o, .emp => ⟨[], .emp, List.Sublist.refl _⟩
  | _, _, _, 0, o, .no o' r => ⟨_, .no o r, List.Sublist.refl _⟩
  | _, _, _, 0, o, .ye h r => ⟨_, .no o r, List.sublist_append_right _ _⟩
  | _, _, _, i + 1, o, .no o' r => by
    obtain ⟨g, h1, h2⟩ := Es.drop i o r
    exact ⟨g, .no o' h1, h2⟩
  | _, _, _, i + 1, o, .ye h r => by
    obtain ⟨g, h1, h2⟩ := Es.drop i o r
    exact ⟨_, .ye h h1, (List.Sublist.refl _).append h2⟩
end
/-- the tables are right, and what else is to be there is there -/
structure HI (K : Kx) (H : Hp) : Prop where
  t : NdefX.TabsN TbC.T H
  o : ∀ p ∈ K.xi.obs, H p.1 = some p.2
theorem HI.ex {K : Kx} {H H' : Hp} (h : HI K H) (e : Ex H H') : HI K H' := ⟨e.t h.t, fun p m => e.k _ _ (by
  have := K.xi.obx p m
  cases hz : p.2 <;> rw [hz] at this <;> first | rfl | cases this) (h.o p m)⟩
theorem HI.mut {K : Kx} {H : Hp} {a : Addr} {xs ys : List V} (h : H a = some (.lst xs)) (i : HI K H) : HI K (upd H a (.lst ys)) := ⟨tabs_mut h i.t, fun p m => by
  refine (upd_ne fun z => ?_).trans (i.o p m)
  have e := i.o p m
  have x := K.xi.obx p m
  rw [z, h] at e
  rw [← Option.some.inj e] at x
  cases x⟩
end L3

set_option maxRecDepth 100000
set_option maxHeartbeats 2000000
/-! L3.Lang: a small language over trees, what it computes. -/
namespace L3
open PySem L2

abbrev Env := List (Option D)
inductive Res (α : Type) where
  | ok (a : α) | ex (n : Str) | no
def Res.bind {α β : Type} : Res α → (α → Res β) → Res β
  | .ok a, f => f a
  | .ex n, _ => .ex n
  | .no, _ => .no
@[simp] theorem Res.bind_ok {α β : Type} (a : α) (f : α → Res β) : (Res.ok a).bind f = f a := Eq.trans rfl rfl
@[simp] theorem Res.bind_ex {α β : Type} (n : Str) (f : α → Res β) : (Res.ex n).bind f = .ex n := Eq.trans rfl rfl
@[simp] theorem Res.bind_no {α β : Type} (f : α → Res β) : (Res.no).bind f = .no := Eq.trans rfl rfl
/-- no error comes out of a comprehension -/
def quiet {α : Type} : Res α → Res α
  | .ok a => .ok a
  | _ => .no
@[simp] theorem quiet_ok {α : Type} (a : α) : quiet (.ok a) = .ok a := Eq.trans rfl rfl
/-- c or stuck -/
def chkR {α : Type} (c : Prop) [Decidable c] (r : Res α) : Res α := if c then r else .no
@[simp] theorem chkR_true {α : Type} (r : Res α) : chkR True r = r := if_pos trivial
theorem chkR_pos {α : Type} {c : Prop} [Decidable c] {r : Res α} (h : c) : chkR c r = r := if_pos h

/-- c or stuck -/
def chkO {α : Type} (c : Prop) [Decidable c] (r : Option α) : Option α := if c then r else none
@[simp] theorem chkO_true {α : Type} (r : Option α) : chkO True r = r := if_pos trivial
theorem chkO_pos {α : Type} {c : Prop} [Decidable c] {r : Option α} (h : c) : chkO c r = r := if_pos h
theorem chkO_some {α : Type} {c : Prop} [Decidable c] {r : Option α} {a : α} (h : chkO c r = some a) : c ∧ r = some a := by
  unfold chkO at h
  by_cases k : c
  · rw [if_pos k] at h; exact ⟨k, h⟩
  · rw [if_neg k] at h; cases h
theorem chkR_ok {α : Type} {c : Prop} [Decidable c] {r : Res α} {a : α} (h : chkR c r = .ok a) : c ∧ r = .ok a := by
  unfold chkR at h
  by_cases k : c
  · rw [if_pos k] at h; exact ⟨k, h⟩
  · rw [if_neg k] at h; cases h
inductive BOp where
  | add | sub | mul | fdiv | mod | pow | shr | band
  | eq | ne | lt | le | gt | ge | isin | notin | is | isnot
  | ix
  deriving DecidableEq
inductive UOp where
  | neg | not
  deriving DecidableEq
/-- built-in functions -/
inductive Fn where
  | len | sum | max1 | min1 | max2 | min2 | abs | int | list | sorted | str | all | max3
  deriving DecidableEq
/-- methods of built-in types, that change nothing -/
inductive Mth where
  | index | count | split | find
  deriving DecidableEq
/-- what a for walks -/
inductive ItK where
  | sql | sqt | sqs | rng1 | rng2 | rng3 | enm | zip
  deriving DecidableEq
inductive Tg where
  | one (i : Nat) | many (is : List Nat)
  deriving DecidableEq
mutual
inductive Exp where
  | var (i : Nat)
  | int (i : Int) | bl (b : Bool) | str (x : Str) | non
  /-- a constant of the module -/
  | glo (j : Nat)
  | un (o : UOp) (a : Exp)
  | bin (o : BOp) (a b : Exp)
  | chain (o p : BOp) (a b c : Exp)
  | and (a b : Exp) | or (a b : Exp)
  | ife (c a b : Exp)
  | slc (a lo hi : Exp)
  | hole
  | tup (es : Exps) | lst (es : Exps)
  /-- a def of the table -/
  | call (j : Nat) (es : Exps)
  | blt (f : Fn) (es : Exps)
  | mth (m : Mth) (a : Exp) (es : Exps)
  /-- isinstance(a, c), isinstance(a, (c, d, ..)): one: not in a tuple -/
  | isi (a : Exp) (one : Bool) (cs : List Str)
  /-- list(range(a)) -/
  | lrng (a : Exp)
  /-- list(reversed(a)) -/
  | lrev (a : Exp)
  /-- e, from here on standing still (no word of the text) -/
  | frz (a : Exp)
  /-- a function made here, or handed over, by its slot -/
  | callv (i : Nat) (es : Exps)
  /-- (a, b) in x, x a dict made in this def (ng: not in) -/
  | din (ng : Bool) (i : Nat) (es : Exps)
  /-- x[(a, b)] -/
  | dget (i : Nat) (es : Exps)
  /-- a def that is handed functions made here -/
  | callc (es : Exps)
  /-- [e for tg in it if c] -/
  | lc (k : ItK) (its : Exps) (tg : Tg) (c : Exp) (e : Exp)
inductive Exps where
  | nil
  | cons (e : Exp) (es : Exps)
end

/-! ### values as the library compares them -/
mutual
def py : D → PyData
  | .non => .none
  | .bl b => .bool b
  | .int i => .int i
  | .str x => .str x
  | .tup ds => .tuple (pys ds)
  | .lst _ ds => .list (pys ds)
  | .scr ns => .list (ns.map .int)
  | .exc _ => .none
  | .clo _ => .none
def pys : List D → List PyData
  | [] => []
  | d :: ds => py d :: pys ds
end
mutual
/-- comparable: no error within, texts as they should be, no deeper than n -/
@[simp] def cmpOk : Nat → D → Bool
  | n, .tup ds => match n with
    | 0 => false
    | n + 1 => cmpOks n ds
  | n, .lst _ ds => match n with
    | 0 => false
    | n + 1 => cmpOks n ds
  | _, .str x => PyData.strOk x
  | _, .exc _ => false
  | _, .clo _ => false
  | _, .scr _ => false
  | _, _ => true
@[simp] def cmpOks : Nat → List D → Bool
  | _, [] => true
  | n, d :: ds => cmpOk n d && cmpOks n ds
end
def MulOk (i j : Int) : Prop := i.natAbs.log2 + j.natAbs.log2 < 1000000
instance (i j : Int) : Decidable (MulOk i j) := by unfold MulOk; infer_instance
def DivOk (j : Int) : Prop := j ≠ 0 ∧ j.natAbs.log2 < 9000
instance (j : Int) : Decidable (DivOk j) := by unfold DivOk; infer_instance
def PowOk (i j : Int) : Prop := 0 ≤ j ∧ (i.natAbs.log2 + 1) * j.toNat ≤ 134217728
instance (i j : Int) : Decidable (PowOk i j) := by unfold PowOk; infer_instance
/-- all ints, bools as ints -/
def lexI : List D → Option (List Int)
  | [] => some []
  | .int i :: r => (lexI r).map (i :: ·)
  | _ => none
def someOk {α : Type} : Option α → Res α
  | some a => .ok a
  | none => .no
@[simp] theorem someOk_some {α : Type} (a : α) : someOk (some a) = .ok a := Eq.trans rfl rfl
def isNon : D → Bool
  | .non => true
  | _ => false
def eqD (a b : D) : Bool := PyData.eqv (py a) (py b)
/-- no list, no tuple: a thing that stands for itself -/
def flatD : D → Bool
  | .non => true
  | .bl _ => true
  | .int _ => true
  | .str _ => true
  | _ => false
def bopD : BOp → D → D → Option D
  | .add, .int i, .int j => some (.int (i + j))
  | .add, .str x, .str y => chkO (x.length + y.length ≤ 16000000) (some (.str (x ++ y)))
  | .add, .lst _ xs, .lst _ ys => chkO (xs.length + ys.length ≤ 16000000) (some (.lst .own (xs ++ ys)))
  | .sub, .int i, .int j => some (.int (i - j))
  | .mul, .int i, .int j => chkO (MulOk i j) (some (.int (i * j)))
  | .mul, .lst _ ds, .int j => chkO ((0 ≤ j ∧ j ≤ 1000) ∧ (ds.all flatD = true ∧ ds.length ≤ 1000)) (some (.lst .own (List.replicate j.toNat ds).flatten))
  | .fdiv, .int i, .int j => chkO (DivOk j) (some (.int (i.fdiv j)))
  | .mod, .int i, .int j => chkO (j ≠ 0) (some (.int (i.fmod j)))
  | .pow, .int i, .int j => chkO (PowOk i j) (some (.int (i ^ j.toNat)))
  | .shr, .int i, .int j => chkO (0 ≤ j) (some (.int (i / 2 ^ j.toNat)))
  | .band, .int i, .int j => some (.int (Builtin.bitAnd i j))
  | .eq, a, b => chkO (cmpOk 60 a = true ∧ cmpOk 60 b = true) (some (.bl (eqD a b)))
  | .ne, a, b => chkO (cmpOk 60 a = true ∧ cmpOk 60 b = true) (some (.bl (!eqD a b)))
  | .lt, .int i, .int j => some (.bl (decide (i < j)))
  | .lt, .tup xs, .tup ys => chkO ((cmpOks 59 xs = true ∧ cmpOks 59 ys = true) ∧ PySem.W.alikeAll (pys xs) (pys ys) = true) (some (.bl (PySem.W.dataLt (py (.tup xs)) (py (.tup ys)))))
  | .le, .int i, .int j => some (.bl (decide (i ≤ j)))
  | .gt, .int i, .int j => some (.bl (decide (j < i)))
  | .ge, .int i, .int j => some (.bl (decide (j ≤ i)))
  | .isin, a, .lst _ ds => chkO (cmpOk 60 a = true ∧ cmpOks 59 ds = true) (some (.bl (ds.any fun z => eqD z a)))
  | .isin, .str x, .str y => chkO (x.cps.size = 1) (some (.bl (decide (x.cps.getD 0 0 ∈ y.cps.toList))))
  | .notin, a, .lst _ ds => chkO (cmpOk 60 a = true ∧ cmpOks 59 ds = true) (some (.bl (!ds.any fun z => eqD z a)))
  | .notin, .str x, .str y => chkO (x.cps.size = 1) (some (.bl (!decide (x.cps.getD 0 0 ∈ y.cps.toList))))
  | .is, a, .non => some (.bl (isNon a))
  | .isnot, a, .non => some (.bl (!isNon a))
  | .ix, .tup ds, .int i => atI ds i
  | .ix, .lst _ ds, .int i => atI ds i
  | .ix, .scr ns, .int i => (atI ns i).bind fun n => some (.int n)
  | .ix, .str x, .int i => chkO (x.length ≤ 16000000) ((atI x.cps.toList i).bind fun c => some (.str ⟨#[c]⟩))
  | _, _, _ => none
def uopD : UOp → D → Option D
  | .neg, .int i => some (.int (-i))
  | .not, .bl b => some (.bl (!b))
  | _, _ => none
/-- the ints of a list -/
def intsD : List D → Option (List Int)
  | [] => some []
  | .int i :: r => (intsD r).map (i :: ·)
  | _ :: _ => none
/-- the bools of a list -/
def blsD : List D → Option (List Bool)
  | [] => some []
  | .bl i :: r => (blsD r).map (i :: ·)
  | _ :: _ => none
def maxL : List Int → Int
  | [] => 0
  | [x] => x
  | x :: y :: r => max x (maxL (y :: r))
def minL : List Int → Int
  | [] => 0
  | [x] => x
  | x :: y :: r => min x (minL (y :: r))
def fnD : Fn → List D → Option D
  | .len, [.tup ds] => some (.int ds.length)
  | .len, [.lst _ ds] => some (.int ds.length)
  | .len, [.scr ns] => some (.int ns.length)
  | .len, [.str x] => chkO (x.length ≤ 16000000) (some (.int x.length))
  | .abs, [.int i] => some (.int (if i < 0 then -i else i))
  | .max2, [.int i, .int j] => some (.int (if j > i then j else i))
  | .min2, [.int i, .int j] => some (.int (if j < i then j else i))
  | .max3, [.int i, .int j, .int k] => some (.int (max (max i j) k))
  | .int, [.int i] => some (.int i)
  | .int, [.bl b] => some (.int (if b then 1 else 0))
  | .int, [.str a] => chkO (a.length ≤ 640) ((PySem.intText? a).bind fun n => some (.int n))
  | .str, [.int i] => chkO (i.natAbs.log2 < 1920) (some (.str (toString i)))
  | .sum, [.lst _ ds] => (intsD ds).bind fun ns => some (.int ns.sum)
  | .max1, [.lst _ ds] => (intsD ds).bind fun ns => chkO (ns ≠ []) (some (.int (maxL ns)))
  | .min1, [.lst _ ds] => (intsD ds).bind fun ns => chkO (ns ≠ []) (some (.int (minL ns)))
  | .all, [.lst _ ds] => (blsD ds).bind fun bs => some (.bl (bs.all id))
  | .list, [.lst _ ds] => some (.lst .own ds)
  | .list, [.tup ds] => some (.lst .own ds)
  | _, _ => none
/-- the first place of d -/
def ixD (d : D) : List D → Option Nat
  | [] => none
  | x :: xs => if eqD x d = true then some 0 else (ixD d xs).map (· + 1)
/-- the receiver is of the method's type -/
def tyM : Mth → D → Bool
  | .index, .lst _ _ => true
  | .count, .lst _ _ => true
  | .split, .str _ => true
  | .find, .str _ => true
  | _, _ => false
def mthD : Mth → D → List D → Option D
  | .index, .lst _ ds, [d] => chkO (cmpOks 59 ds = true ∧ cmpOk 60 d = true) ((ixD d ds).bind fun j => some (.int j))
  | .split, .str a, [.str b] => chkO ((b.length == 0) = false ∧ a.length + 2 ≤ 16000000) (some (.lst .own ((Txt.split a b).map .str)))
  | .find, .str a, [.str b] => some (.int (Txt.find a b))
  | .count, .lst _ ds, [d] => chkO (cmpOks 59 ds = true ∧ cmpOk 60 d = true) (some (.int ((ds.countP fun z => eqD z d : Nat) : Int)))
  | _, _, _ => none
/-- the class n is c or below it -/
def subX (n c : Str) : Bool := n == c || c == "ClanError" || c == "ValueError"
def tyNames : List Str := ["int", "bool", "str", "tuple", "list"]
def isiD (d : D) (c : Str) : Option Bool :=
  match d with
  | .exc n => some (subX n c)
  | .non => chkO (tyNames.contains c = true) (some false)
  | .bl _ => chkO (tyNames.contains c = true) (some (c == "bool" || c == "int"))
  | .int _ => chkO (tyNames.contains c = true) (some (c == "int"))
  | .str _ => chkO (tyNames.contains c = true) (some (c == "str"))
  | .tup _ => chkO (tyNames.contains c = true) (some (c == "tuple"))
  | .lst _ _ => chkO (tyNames.contains c = true) (some (c == "list"))
  | .scr _ => none
  | .clo _ => none
def isiDs (d : D) : List Str → Option Bool
  | [] => some false
  | c :: cs => (isiD d c).bind fun b => (isiDs d cs).bind fun r => some (b || r)
@[simp] def setAll : List Nat → List D → Env → Option Env
  | [], [], e => some e
  | i :: is, d :: ds, e => setAll is ds (e.set i (some d))
  | _, _, _ => none
def bindT : Tg → D → Env → Option Env
  | .one i, d, e => some (e.set i (some d))
  | .many is, .tup ds, e => setAll is ds e
  | _, _, _ => none
@[simp] def Tg.slots : Tg → List Nat
  | .one i => [i]
  | .many is => is
@[simp] def wipeE (e : Env) : List Nat → Env
  | [] => e
  | v :: vs => (wipeE e vs).set v none
def enmD : Nat → List D → List D
  | _, [] => []
  | k, d :: ds => .tup [.int k, d] :: enmD (k + 1) ds
def zipD : List D → List D → List D
  | x :: xs, y :: ys => .tup [x, y] :: zipD xs ys
  | _, _ => []
/-- the items that are walked -/
def items : ItK → List D → Option (List D)
  | .sql, [.lst _ ds] => some ds
  | .sqt, [.tup ds] => some ds
  | .sqs, [.str x] => chkO (x.length ≤ 16000000) (some (x.cps.toList.map fun c => .str ⟨#[c]⟩))
  | .rng1, [.int n] => chkO (-(2 ^ 62) ≤ n ∧ n < 2 ^ 62) (some ((List.range n.toNat).map fun (k : Nat) => .int (k : Int)))
  | .rng2, [.int a, .int b] => chkO (-(2 ^ 62) ≤ a ∧ a < 2 ^ 62 ∧ -(2 ^ 62) ≤ b ∧ b < 2 ^ 62) (some ((List.range (b - a).toNat).map fun (k : Nat) => .int (a + (k : Int))))
  | .rng3, [.int a, .int b, .int c] => chkO (c ≠ 0 ∧ c.natAbs < 1073741824 ∧ Builtin.Range.small a b c = true) (some ((List.range (Builtin.Range.rangeSize a b c).toNat).map fun (k : Nat) => .int (a + (k : Int) * c)))
  | .enm, [.lst _ ds] => some (enmD 0 ds)
  | .zip, [.lst _ xs, .lst _ ys] => chkO (xs.length = ys.length) (some (zipD xs ys))
  | _, _ => none
def lcGo (f : D → Res (Option D)) : List D → Res (List D)
  | [] => .ok []
  | x :: xs => (quiet (f x)).bind fun o => (lcGo f xs).bind fun ys => .ok (match o with | some y => y :: ys | none => ys)
def asB : D → Res Bool
  | .bl b => .ok b
  | _ => .no
@[simp] theorem asB_bl (b : Bool) : asB (.bl b) = .ok b := Eq.trans rfl rfl
/-- a call: what is handed over is looked at alone; what comes back is the caller's -/
@[simp] def callD (g : List D → Res D) (ds : List D) : Res D := (g (frzs ds)).bind fun d => chkR ((nofz d || allfzs ds) = true) (.ok d)
def cutD (ds : List D) (lo hi : Option Int) : List D := (ds.drop (HT.sIx ds.length 0 lo)).take (HT.sIx ds.length ds.length hi - HT.sIx ds.length 0 lo)
def slcD : D → Option Int → Option Int → Option D
  | .lst _ ds, lo, hi => some (.lst .own (cutD ds lo hi))
  | .str x, lo, hi => chkO (x.length ≤ 16000000) (some (.str (cutS x lo hi)))
  | .tup ds, lo, hi => chkO (¬ (HT.sIx ds.length 0 lo = 0 ∧ HT.sIx ds.length ds.length hi = ds.length)) (some (.tup (cutD ds lo hi)))
  | _, _, _ => none
/-- a list of numbers and texts, the other way round -/
def revD : D → Option D
  | .lst _ ds => chkO (ds.all flatD = true ∧ ds.length ≤ 1000000) (some (.lst .own ds.reverse))
  | _ => none
def asI : D → Res Int
  | .int i => .ok i
  | _ => .no
@[simp] theorem asI_int (i : Int) : asI (.int i) = .ok i := Eq.trans rfl rfl
structure Callee where
  name : Str
  /-- how many arguments -/
  ar : Nat
  g : List D → Res D
/-- a def that is handed functions: what it does by what these do -/
structure Visit where
  name : Str
  ar : Nat
  g : (Nat → Int → Int → Option Bool) → List D → Res D
/-- the defs and constants of the module that a def names -/
structure Tab where
  fns : List Callee
  cst : List (Str × D)
  /-- the errors that are raised; those that are caught -/
  errs : List Str := []
  cats : List Str := []
  /-- what the functions handed over do -/
  lf : Nat → Int → Int → Option Bool := fun _ _ _ => none
  /-- what the functions made here do, by the slots -/
  cl : Nat → Env → Int → Int → Option Bool := fun _ _ _ _ => none
  vis : Option Visit := none
  /-- what the dict made here holds, by two numbers -/
  dk : Int → Int → Option D := fun _ _ => none
/-- a look into the dict made here -/
def dinD (m : Int → Int → Option D) (ng : Bool) : List D → Option D
  | [.int a, .int b] => some (.bl (if ng then (m a b).isNone else (m a b).isSome))
  | _ => none
def dgetD (m : Int → Int → Option D) : List D → Option D
  | [.int a, .int b] => m a b
  | _ => none
/-- what a dict holds behind the pairs of items (a, b, x, y): the last of a key -/
def dicO : List D → (Int → Int → Option D) → Option (Int → Int → Option D)
  | [], m => some m
  | .tup [.int a, .int b, x, y] :: r, m => if flatD x = true ∧ flatD y = true then dicO r fun i j => if i = a ∧ j = b then some (.tup [x, y]) else m i j else none
  | _ :: _, _ => none
def dicS (env : Env) (js : List Nat) : D → Option (Int → Int → Option D)
  | .lst f ds => if ds.length ≤ 1000000 ∧ (js.all fun j => decide (j < env.length)) = true ∧ nopk (.lst f ds) = true then dicO ds (fun _ _ => none) else none
  | _ => none
def insI (x : Int) : List Int → List Int
  | [] => [x]
  | y :: r => if x ≤ y then x :: y :: r else y :: insI x r
def sortI : List Int → List Int
  | [] => []
  | x :: r => insI x (sortI r)
/-- the keys of a dict, one put more -/
def addK (acc : List Int) (k : Int) : List Int := if k ∈ acc then acc else acc ++ [k]
def stpK (b : Int) (acc : List Int) (q : Int) : List Int := addK (addK acc (q.fmod b)) ((-q).fmod b)
/-- rows of ints -/
def rowsI : List D → Option (List (List Int))
  | [] => some []
  | .lst _ ds :: r => (intsD ds).bind fun ns => (rowsI r).map (ns :: ·)
  | _ :: _ => none
/-- the rests of rows of numbers by b, either way round, rising -/
def stpD (b : Int) : D → Option D
  | .lst f ds => if b ≠ 0 ∧ nopk (.lst f ds) = true then (rowsI ds).bind fun rs => if (rs.map List.length).sum ≤ 400000 then some (.lst .own ((sortI (rs.flatten.foldl (stpK b) [0])).map .int)) else none else none
  | _ => none
/-- a call of a function made here: two numbers, a truth value -/
def cloD (g : Int → Int → Option Bool) : List D → Option D
  | [.int a, .int b] => (g a b).map D.bl
  | _ => none
def isClo : D → Option Nat
  | .clo n => some n
  | _ => none
@[simp] def isHole : Exp → Bool
  | .hole => true
  | _ => false
mutual
def noexc : D → Bool
  | .non => true
  | .bl _ => true
  | .int _ => true
  | .str _ => true
  | .tup ds => noexcs ds
  | .lst _ ds => noexcs ds
  | .scr _ => true
  | .exc _ => false
  | .clo _ => false
def noexcs : List D → Bool
  | [] => true
  | d :: ds => noexc d && noexcs ds
end
/-- what a def that is handed functions hands back -/
@[simp] def ownD (d : D) : Bool := nofz d && noexc d
mutual
@[simp] def ev (G : Tab) : Exp → Env → Res D
  | .var i, env => (someOk ((env[i]?).bind id)).bind fun d => .ok (peek d)
  | .int i, _ => .ok (.int i)
  | .bl b, _ => .ok (.bl b)
  | .str x, _ => .ok (.str x)
  | .non, _ => .ok .non
  | .glo j, _ => (someOk G.cst[j]?).bind fun p => .ok p.2
  | .un o a, env => (ev G a env).bind fun x => someOk (uopD o x)
  | .bin o a b, env => (ev G a env).bind fun x => (ev G b env).bind fun y => someOk (bopD o x y)
  | .chain o p a b c, env => (ev G a env).bind fun x => (ev G b env).bind fun y => (someOk (bopD o x y)).bind fun z => (asB z).bind fun k =>
      if k = true then (ev G c env).bind fun w => someOk (bopD p y w) else .ok (.bl false)
  | .and a b, env => (ev G a env).bind fun x => (asB x).bind fun k => if k = true then (ev G b env).bind fun y => (asB y).bind fun l => .ok (.bl l) else .ok (.bl false)
  | .or a b, env => (ev G a env).bind fun x => (asB x).bind fun k => if k = true then .ok (.bl true) else (ev G b env).bind fun y => (asB y).bind fun l => .ok (.bl l)
  | .ife c a b, env => (ev G c env).bind fun x => (asB x).bind fun k => if k = true then ev G a env else ev G b env
  | .slc a lo hi, env => (ev G a env).bind fun x =>
      (if isHole lo then .ok none else (ev G lo env).bind fun y => (asI y).bind fun i => .ok (some i)).bind fun l =>
      (if isHole hi then .ok none else (ev G hi env).bind fun y => (asI y).bind fun i => .ok (some i)).bind fun h => someOk (slcD x l h)
  | .hole, _ => .no
  | .tup es, env => (evs G es env).bind fun ds => chkR (ds.length ≤ 16000000) (.ok (.tup ds))
  | .lst es, env => (evs G es env).bind fun ds => chkR (ds.length ≤ 16000000) (.ok (.lst .own ds))
  | .call j es, env => (evs G es env).bind fun ds => (someOk G.fns[j]?).bind fun c => chkR (ds.length = c.ar) (callD c.g ds)
  | .din ng i es, env => (evs G es env).bind fun ds => (someOk (((env[i]?).bind id).bind isClo)).bind fun _ => someOk (dinD G.dk ng ds)
  | .dget i es, env => (someOk (((env[i]?).bind id).bind isClo)).bind fun _ => (evs G es env).bind fun ds => someOk (dgetD G.dk ds)
  | .callv i es, env => (someOk (((env[i]?).bind id).bind isClo)).bind fun n => (evs G es env).bind fun ds => someOk (cloD (G.lf n) ds)
  | .callc es, env => (someOk G.vis).bind fun V => (evs G es env).bind fun ds => chkR (ds.length = V.ar) ((V.g (fun n => G.cl n env) (frzs ds)).bind fun d => chkR (ownD d = true) (.ok d))
  | .blt f es, env => (evs G es env).bind fun ds => someOk (fnD f ds)
  | .mth m a es, env => (ev G a env).bind fun x => chkR (tyM m x = true) ((evs G es env).bind fun ds => someOk (mthD m x ds))
  | .isi a _ cs, env => (ev G a env).bind fun x => (someOk (isiDs x cs)).bind fun b => .ok (.bl b)
  | .frz a, env => (ev G a env).bind fun x => chkR (nopk x = true) (.ok (frz x))
  | .lrng a, env => (ev G a env).bind fun x => (asI x).bind fun n => chkR (-1000000 ≤ n ∧ n ≤ 1000000) (.ok (.lst .own ((List.range n.toNat).map fun (k : Nat) => .int (k : Int))))
  | .lrev a, env => (ev G a env).bind fun x => someOk (revD x)
  | .lc k its tg c e, env => (evs G its env).bind fun ds => (someOk (items k (peeks ds))).bind fun xs =>
      (lcGo (fun x => (someOk (bindT tg x (wipeE env tg.slots))).bind fun env' =>
        (if isHole c then .ok true else (ev G c env').bind asB).bind fun b => if b = true then (ev G e env').bind fun y => chkR (nopk y = true) (.ok (some y)) else .ok none) xs).bind fun ys =>
      chkR (ys.length ≤ 1000000) (.ok (.lst .own ys))
@[simp] def evs (G : Tab) : Exps → Env → Res (List D)
  | .nil, _ => .ok []
  | .cons e es, env => (ev G e env).bind fun d => (evs G es env).bind fun ds => .ok (d :: ds)
end

/-- a function made here: its names (number, quota, then the captured ones), where the captured ones stand with the maker, what it hands back -/
structure Clo where
  N : List Str
  js : List Nat
  e : Exp
def tab0 : Tab := { fns := [], cst := [] }
/-- its captured values -/
def cloE (js : List Nat) (env : Env) : Env := js.map fun m => ((env[m]?).bind id).map frz
def cloS (k : Clo) (env : Env) (i j : Int) : Option Bool := match ev tab0 k.e (some (.int i) :: some (.int j) :: cloE k.js env) with
  | .ok (.bl b) => some b
  | _ => none
def cloT (k0 k1 : Clo) : Nat → Env → Int → Int → Option Bool
  | 0 => cloS k0
  | 1 => cloS k1
  | _ => fun _ _ _ => none
/-! ### statements -/
/-- what is kept: an expression's value; a slot handed on; a tuple of such -/
inductive Mx where
  | p (e : Exp) | mv (i : Nat) | pair (a b : Mx) | trip (a b c : Mx) | quad (a b c d : Mx)
@[simp] def evm (G : Tab) : Mx → Env → Res (D × Env)
  | .p e, env => (ev G e env).bind fun d => chkR (nopk d = true) (.ok (d, env))
  | .mv i, env => (someOk ((env[i]?).bind id)).bind fun d => .ok (d, env.set i none)
  | .pair a b, env => (evm G a env).bind fun x => (evm G b x.2).bind fun y => .ok (.tup [x.1, y.1], y.2)
  | .trip a b c, env => (evm G a env).bind fun x => (evm G b x.2).bind fun y => (evm G c y.2).bind fun z => .ok (.tup [x.1, y.1, z.1], z.2)
  | .quad a b c d, env => (evm G a env).bind fun x => (evm G b x.2).bind fun y => (evm G c y.2).bind fun z => (evm G d z.2).bind fun u => .ok (.tup [x.1, y.1, z.1, u.1], u.2)
/-- a place in a tree: a slot, and items within -/
inductive Pth where
  | v (x : Nat) | ix (p : Pth) (e : Exp)
@[simp] def Pth.slot : Pth → Nat
  | .v x => x
  | .ix p _ => p.slot
@[simp] def evp (G : Tab) : Pth → Env → Res (List Int)
  | .v _, _ => .ok []
  | .ix p e, env => (evp G p env).bind fun is => (quiet (ev G e env)).bind fun k => (asI k).bind fun i => .ok (is ++ [i])
/-- one step into a tree -/
def stepP : D → Int → Option D
  | .lst .own ds, i => L2.atI ds i
  | .tup ds, i => L2.atI ds i
  | _, _ => none
def getP : D → List Int → Option D
  | d, [] => some d
  | d, i :: is => (stepP d i).bind fun c => getP c is
def putI (ds : List D) (i : Int) (n : D) : Option (List D) := (ixN ds.length i).bind fun j => some (ds.set j n)
def putP : D → List Int → D → Option D
  | _, [], n => some n
  | .lst .own ds, i :: is, n => (L2.atI ds i).bind fun c => (putP c is n).bind fun c' => (putI ds i c').bind fun es => some (.lst .own es)
  | .tup ds, i :: is, n => (L2.atI ds i).bind fun c => (putP c is n).bind fun c' => (putI ds i c').bind fun es => some (.tup es)
  | _, _, _ => none
mutual
inductive Stm where
  /-- x = e; fr: it is to stand still -/
  | asg (i : Nat) (fr : Bool) (m : Mx)
  | unp (is : List Nat) (fr : Bool) (m : Mx)
  | par (i j : Nat) (a b : Exp)
  /-- x += e, an int or a text -/
  | aug (i : Nat) (o : BOp) (e : Exp)
  /-- x[i] = e, x a list of one's own -/
  | setix (x : Nat) (i : Exp) (m : Mx)
  /-- x.append(e) -/
  | app (x : Nat) (m : Mx)
  /-- p.append(e), p[i] = e, p[i] += e, p.clear(), p.extend(e), p.pop(e) -/
  | pApp (p : Pth) (e : Exp)
  | pSet (p : Pth) (i e : Exp)
  | pAug (p : Pth) (i : Exp) (o : BOp) (e : Exp)
  | pClr (p : Pth)
  | pExt (p : Pth) (e : Exp)
  /-- x = p.pop(e); y.append(p.pop(e)) -/
  | popS (x : Nat) (p : Pth) (e : Exp)
  | popA (y : Nat) (p : Pth) (e : Exp)
  /-- for x in p: x.append(k), p a list of lists of one's own, k a number of the text -/
  | forA (x : Nat) (p : Pth) (k : Int)
  /-- for x in v: if c: return e -/
  | forI (x v : Nat) (c e : Exp)
  /-- p.remove(e), e is there -/
  | remS (p : Pth) (e : Exp)
  | ifs (c : Exp) (a b : Stms)
  | for_ (k : ItK) (its : Exps) (tg : Tg) (clr : List Nat) (b : Stms)
  | whl (fuel : Env → Nat) (c : Exp) (clr : List Nat) (b : Stms)
  | ret (m : Mx)
  | retn
  | rais (n : Str)
  | brk | cont | pass
  | expr (e : Exp)
  /-- try: b except c as e (slot i): s -/
  | tryx (b : Stms) (c : Str) (i : Nat) (s : Stms)
inductive Stms where
  | nil
  | cons (s : Stm) (r : Stms)
  /-- from here on slot i stands still (no statement of the text) -/
  | frzv (i : Nat) (r : Stms)
  /-- slot i is forgotten (no statement of the text) -/
  | forget (i : Nat) (r : Stms)
  /-- two functions are made; r: all that comes behind -/
  | clos (i0 i1 : Nat) (k0 k1 : Clo) (r : Stms)
  /-- x = {0: True}; for r in e: for q in r: x[q % b] = True; x[-q % b] = True; return sorted(x) -/
  | stp (i jr jq ib : Nat) (e : Exp)
  /-- x = {}; for a, b, c, d in e: x[(a, b)] = (c, d); what comes behind -/
  | dic (i : Nat) (ja jb jc jd : Nat) (e : Exp) (r : Stms)
end
inductive Out where
  | nx (e : Env) | rt (d : D) | bk (e : Env) | ct (e : Env) | ex (n : Str) (e : Env) | no
def Out.bind : Out → (Env → Out) → Out
  | .nx e, f => f e
  | o, _ => o
@[simp] theorem Out.bind_nx (e : Env) (f : Env → Out) : (Out.nx e).bind f = f e := Eq.trans rfl rfl
@[simp] theorem Out.bind_rt (e : D) (f : Env → Out) : (Out.rt e).bind f = .rt e := Eq.trans rfl rfl
@[simp] theorem Out.bind_bk (e : Env) (f : Env → Out) : (Out.bk e).bind f = .bk e := Eq.trans rfl rfl
@[simp] theorem Out.bind_ct (e : Env) (f : Env → Out) : (Out.ct e).bind f = .ct e := Eq.trans rfl rfl
@[simp] theorem Out.bind_ex (n : Str) (e : Env) (f : Env → Out) : (Out.ex n e).bind f = .ex n e := Eq.trans rfl rfl
@[simp] theorem Out.bind_no (f : Env → Out) : (Out.no).bind f = .no := Eq.trans rfl rfl
/-- a value, or the error with the slots as they stand -/
def Res.out {α : Type} (r : Res α) (env : Env) (f : α → Out) : Out := match r with
  | .ok a => f a
  | .ex n => .ex n env
  | .no => .no
@[simp] theorem Res.out_ok {α : Type} (a : α) (env : Env) (f : α → Out) : (Res.ok a).out env f = f a := Eq.trans rfl rfl
@[simp] theorem Res.out_ex {α : Type} (n : Str) (env : Env) (f : α → Out) : (Res.ex n : Res α).out env f = .ex n env := Eq.trans rfl rfl
@[simp] theorem Res.out_no {α : Type} (env : Env) (f : α → Out) : (Res.no : Res α).out env f = .no := Eq.trans rfl rfl
def ff (fr : Bool) (d : D) : D := if fr = true then frz d else d
@[simp] theorem ff_true (d : D) : ff true d = frz d := Eq.trans rfl rfl
@[simp] theorem ff_false (d : D) : ff false d = d := Eq.trans rfl rfl
/-- as many turns as a slot's number, and one more -/
def fuI (i : Nat) : Env → Nat := fun e => match (e[i]?).bind id with
  | some (.int n) => n.natAbs + 1
  | _ => 0
/-- a loop over items -/
def forGo (f : D → Env → Out) (clr : List Nat) : List D → Env → Out
  | [], env => .nx env
  | x :: xs, env => match f x env with
    | .nx e => forGo f clr xs (wipeE e clr)
    | .ct e => forGo f clr xs (wipeE e clr)
    | .bk e => .nx (wipeE e clr)
    | o => o
def whlGo (c : Env → Res Bool) (f : Env → Out) (clr : List Nat) : Nat → Env → Out
  | 0, _ => .no
  | n + 1, env => (c env).out env fun b => if b = true then (match f env with
      | .nx e => whlGo c f clr n (wipeE e clr)
      | .ct e => whlGo c f clr n (wipeE e clr)
      | .bk e => .nx (wipeE e clr)
      | o => o) else .nx env
def noexcE : Env → Bool
  | [] => true
  | none :: e => noexcE e
  | some d :: e => noexc d && noexcE e
/-- a place of a list of one's own: its path, the tree in the slot, its items -/
def atP (G : Tab) (p : Pth) (env : Env) (f : List Int → D → List D → Out) : Out := (evp G p env).out env fun is => (someOk ((env[p.slot]?).bind id)).out env fun d => match getP d is with
  | some (.lst .own ds) => f is d ds
  | _ => .no
/-- the list there becomes ds -/
def toP (p : Pth) (env : Env) (is : List Int) (d : D) (ds : List D) (f : Env → Out) : Out := (someOk (putP d is (.lst .own ds))).out env fun d' => f (env.set p.slot (some d'))
/-- p.pop(e): the item, the slots behind -/
def popD (G : Tab) (p : Pth) (e : Exp) (env : Env) (f : D → Env → Out) : Out := atP G p env fun is d ds => ((ev G e env).bind asI).out env fun k => (chkR (ds.length ≤ 1000000) (.ok ())).out env fun _ => (someOk (ixN ds.length k)).out env fun j => (someOk ds[j]?).out env fun y => toP p env is d (ds.eraseIdx j) (f y)
/-- k behind each of the lists -/
def appAll (k : Int) : List D → Option (List D)
  | [] => some []
  | .lst .own es :: r => chkO (es.length < 1000000) ((appAll k r).bind fun s => some (.lst .own (es ++ [.int k]) :: s))
  | _ => none
/-- the first item that c holds of -/
def fiGo (c : D → Res Bool) (e : D → Res D) (env : Env) (fin : Out) : List D → Out
  | [] => fin
  | d :: r => (chkR (nopk (peek d) = true) (.ok ())).out env fun _ => (c (peek d)).out env fun b => if b = true then ((e (peek d)).bind fun y => chkR (nopk y = true) (.ok y)).out env .rt else fiGo c e env fin r
mutual
@[simp] def exec (G : Tab) : Stm → Env → Out
  | .asg i fr m, env => (evm G m env).out env fun x => .nx (x.2.set i (some (ff fr x.1)))
  | .unp is fr m, env => (evm G m env).out env fun x => (chkR ((!fr || noown (ff fr x.1)) = true) (someOk (bindT (.many is) (ff fr x.1) x.2))).out env .nx
  | .par i j a b, env => (ev G a env).out env fun x => (ev G b env).out env fun y => (chkR ((nopk x && nopk y) = true) (.ok ())).out env fun _ => .nx ((env.set i (some x)).set j (some y))
  | .aug i o e, env => (someOk ((env[i]?).bind id)).out env fun x => (ev G e env).out env fun y => (someOk (bopD o x y)).out env fun z => (match z with
      | .int k => .nx (env.set i (some (.int k)))
      | .str k => .nx (env.set i (some (.str k)))
      | _ => .no)
  | .setix x i m, env => (evm G m env).out env fun y => (someOk ((y.2[x]?).bind id)).out env fun dx => (ev G i y.2).out env fun k => (match dx, k with
      | .lst .own ds, .int k => (match ixN ds.length k with
        | some j => .nx (y.2.set x (some (.lst .own (ds.set j y.1))))
        | none => .no)
      | _, _ => .no)
  | .app x m, env => (match (env[x]?).bind id with
      | some (.lst .own _) => (evm G m env).out env fun y => (match (y.2[x]?).bind id with
        | some (.lst .own ds) => (chkR (ds.length < 1000000) (.ok ())).out env fun _ => .nx (y.2.set x (some (.lst .own (ds ++ [y.1]))))
        | _ => .no)
      | _ => .no)
  | .pApp p e, env => atP G p env fun is d ds => (ev G e env).out env fun y => (chkR (nopk y = true ∧ ds.length < 1000000) (.ok ())).out env fun _ => toP p env is d (ds ++ [y]) .nx
  | .pSet p i e, env => (ev G e env).out env fun y => (chkR (nopk y = true) (.ok ())).out env fun _ => atP G p env fun is d ds => ((ev G i env).bind asI).out env fun k => (someOk (ixN ds.length k)).out env fun j => toP p env is d (ds.set j y) .nx
  | .pAug p i o e, env => atP G p env fun is d ds => ((ev G i env).bind asI).out env fun k => (someOk (ixN ds.length k)).out env fun j => (someOk ds[j]?).out env fun x => (ev G e env).out env fun y => (someOk (bopD o x y)).out env fun z => (asI z).out env fun z => toP p env is d (ds.set j (.int z)) .nx
  | .pClr p, env => atP G p env fun is d ds => toP p env is d [] .nx
  | .pExt p e, env => atP G p env fun is d ds => (ev G e env).out env fun y => (match y with
      | .lst _ es => (chkR (nopks es = true ∧ ds.length + es.length ≤ 1000000) (.ok ())).out env fun _ => toP p env is d (ds ++ es) .nx
      | _ => .no)
  | .popS x p e, env => popD G p e env fun y env' => .nx (env'.set x (some y))
  | .popA y p e, env => (match (env[y]?).bind id with
      | some (.lst .own _) => popD G p e env fun z env' => (match (env'[y]?).bind id with
        | some (.lst .own es) => (chkR (es.length < 1000000) (.ok ())).out env fun _ => .nx (env'.set y (some (.lst .own (es ++ [z]))))
        | _ => .no)
      | _ => .no)
  | .forA x p k, env => atP G p env fun is d ds => (someOk (chkO (x < env.length) (appAll k ds))).out env fun ds' => toP p env is d ds' fun e => .nx (e.set x none)
  | .forI x v c e, env => (match (env[v]?).bind id with
      | some (.lst _ ds) => (chkR (x < env.length ∧ x ≠ v) (.ok ())).out env fun _ => fiGo (fun d => (ev G c (env.set x (some d))).bind asB) (fun d => ev G e (env.set x (some d))) (env.set x none) (.nx (env.set x none)) ds
      | _ => .no)
  | .remS p e, env => atP G p env fun is d ds => (ev G e env).out env fun y => (chkR (cmpOks 59 ds = true ∧ cmpOk 60 y = true ∧ ds.length ≤ 1000000) (.ok ())).out env fun _ => (someOk (ixD y ds)).out env fun j => toP p env is d (ds.eraseIdx j) .nx
  | .ifs c a b, env => ((ev G c env).bind asB).out env fun k => if k = true then execs G a env else execs G b env
  | .for_ k its tg clr b, env => (evs G its env).out env fun ds => (chkR (nopks ds = true) (someOk (items k (frzs ds)))).out env fun xs =>
      forGo (fun x e => (someOk (bindT tg x e)).out e fun e' => execs G b e') clr xs env
  | .whl fuel c clr b, env => whlGo (fun e => (ev G c e).bind asB) (execs G b) clr (fuel env) env
  | .ret m, env => (evm G m env).out env fun x => .rt x.1
  | .retn, _ => .rt .non
  | .rais n, env => if G.errs.contains n = true then .ex n env else .no
  | .brk, env => .bk env
  | .cont, env => .ct env
  | .pass, env => .nx env
  | .expr e, env => (ev G e env).out env fun _ => .nx env
  | .tryx b c i s, env => match execs G b env with
    | .ex n e => if (G.errs.contains n && G.cats.contains c) = true then (if subX n c = true then (match execs { G with fns := [] } s (e.set i (some (.exc n))) with
        | .nx e' => if noexcE (e'.set i none) = true then .nx (e'.set i none) else .no
        | .rt d => if noexc d = true then .rt d else .no
        | _ => .no) else .ex n e) else .no
    | o => o
@[simp] def execs (G : Tab) : Stms → Env → Out
  | .nil, env => .nx env
  | .cons s r, env => (exec G s env).bind (execs G r)
  | .frzv i r, env => (someOk ((env[i]?).bind id)).out env fun d => execs G r (env.set i (some (frz d)))
  | .forget i r, env => execs G r (env.set i none)
  | .stp i jr jq ib e, env => (ev G e (env.set i none)).out (env.set i none) fun d => match env[ib]? with
    | some (some (.int b)) => (someOk (if ([i, jr, jq, ib].all fun j => decide (j < env.length)) = true then stpD b d else none)).out (env.set i none) fun v => .rt v
    | _ => .no
  | .dic i ja jb jc jd e r, env => (ev G e (env.set i none)).out (env.set i none) fun d => (someOk (dicS env [i, ja, jb, jc, jd] d)).out (env.set i none) fun m =>
    match execs { G with fns := [], dk := m } r ((wipeE (env.set i none) [ja, jb, jc, jd]).set i (some (.clo 0))) with
    | .nx e => if noexcE (e.set i none) = true then .nx (e.set i none) else .no
    | .rt d => if noexc d = true then .rt d else .no
    | _ => .no
  | .clos i0 i1 k0 k1 r, env => match execs { G with fns := [], cl := cloT k0 k1 } r ((env.set i0 (some (.clo 0))).set i1 (some (.clo 1))) with
    | .nx e => if noexcE ((e.set i0 none).set i1 none) = true then .nx ((e.set i0 none).set i1 none) else .no
    | .rt d => if noexc d = true then .rt d else .no
    | _ => .no
end
/-- a def: its slots (n), its body -/
structure FnDef where
  n : Nat
  body : Stms
@[simp] def FnDef.run (G : Tab) (f : FnDef) (ds : List D) : Res D :=
  match execs G f.body ((ds.map some) ++ List.replicate (f.n - ds.length) none) with
  | .nx _ => .ok .non
  | .rt d => .ok d
  | .ex n _ => .ex n
  | _ => .no
theorem maxL_mem : ∀ {ns : List Int}, ns ≠ [] → maxL ns ∈ ns ∧ ∀ y ∈ ns, y ≤ maxL ns
  | [], h => absurd rfl h
  | [x], _ => ⟨by simp [maxL], by simp [maxL]⟩
  | x :: y :: r, _ => by
    obtain ⟨h1, h2⟩ := maxL_mem (ns := y :: r) (by simp)
    rw [maxL]
    refine ⟨?_, fun z m => ?_⟩
    · by_cases h : x ≤ maxL (y :: r)
      · rw [Int.max_eq_right h]; exact List.mem_cons_of_mem _ h1
      · rw [Int.max_eq_left (by omega)]; exact List.mem_cons_self
    · rcases List.mem_cons.mp m with e | m
      · rw [e]; exact Int.le_max_left _ _
      · exact Int.le_trans (h2 z m) (Int.le_max_right _ _)
theorem minL_mem : ∀ {ns : List Int}, ns ≠ [] → minL ns ∈ ns ∧ ∀ y ∈ ns, minL ns ≤ y
  | [], h => absurd rfl h
  | [x], _ => ⟨by simp [minL], by simp [minL]⟩
  | x :: y :: r, _ => by
    obtain ⟨h1, h2⟩ := minL_mem (ns := y :: r) (by simp)
    rw [minL]
    refine ⟨?_, fun z m => ?_⟩
    · by_cases h : x ≤ minL (y :: r)
      · rw [Int.min_eq_left h]; exact List.mem_cons_self
      · rw [Int.min_eq_right (by omega)]; exact List.mem_cons_of_mem _ h1
    · rcases List.mem_cons.mp m with e | m
      · rw [e]; exact Int.min_le_left _ _
      · exact Int.le_trans (Int.min_le_right _ _) (h2 z m)
theorem putP_nil (d n : D) : putP d [] n = some n := by cases d <;> first | rfl | (rename_i f _; cases f <;> rfl)
theorem getP_app : ∀ (is : List Int) (d : D) (i : Int), getP d (is ++ [i]) = (getP d is).bind fun c => stepP c i
  | [], d, i => by
    have e : getP d [] = some d := by unfold getP; rfl
    rw [List.nil_append, e]
    show getP d [i] = stepP d i
    unfold getP
    cases stepP d i with
    | none => rfl
    | some c =>
      show getP c [] = some c
      unfold getP
      rfl
  | k :: is, d, i => by
    rw [List.cons_append]
    unfold getP
    cases stepP d k with
    | none => rfl
    | some c => exact getP_app is c i
end L3

set_option maxRecDepth 100000
set_option maxHeartbeats 2000000
/-! L3.Chk: a text of the model is the text of the small language (a Bool, for the kernel). -/
namespace L3
open PySem L2

structure Cc where
  N : List Str
  sc : Scope
  fns : List Str
  csts : List Str
  /-- the module's own error classes -/
  exs : List Str
  /-- not within an except suite -/
  cm : Bool := true
  /-- in a def's own body: its cells may be stored -/
  cel : Bool := false
  /-- a comprehension's own cells: these may be stored too -/
  own : Str → Bool := fun _ => false
  /-- functions handed over may be called -/
  clo : Bool := false
  /-- functions made here may be handed over: to this def -/
  vis : Option Str := none
  /-- the def's own qualified name; the functions made in it, by their places -/
  qual : Str := ""
  nml : List ((Nat × Nat) × Str) := []
  /-- the dict made here may be looked into -/
  dic : Bool := false
  /-- nothing stands still but what the def was handed: no error, no function, no dict is about -/
  z : Bool := false
def isVis : Option NameKind → Bool
  | some .local => true
  | some .cell => true
  | some .free => true
  | _ => false
def isLoc : Option NameKind → Bool
  | some .local => true
  | some .cell => true
  | _ => false
def visC (c : Cc) (i : Nat) (x : Str) : Bool := c.N[i]? == some x && isVis (c.sc.names.lookup x) && !(x == ("__debug__" : Str)) && !(x == ("__classdict__" : Str))
/-- stored: a local -/
def locC (c : Cc) (i : Nat) (x : Str) : Bool := c.N[i]? == some x && c.sc.names.lookup x == some .local
/-- stored: a local or a cell -/
def lofC (c : Cc) (i : Nat) (x : Str) : Bool := c.N[i]? == some x && isLoc (c.sc.names.lookup x)
/-- a target -/
def tlcC (c : Cc) (i : Nat) (x : Str) : Bool := locC c i x || ((c.cel || c.own x) && lofC c i x)
def glbC (c : Cc) (x : Str) : Bool := c.sc.names.lookup x == some .globalImplicit && !(x == ("__debug__" : Str)) && !(x == ("__name__" : Str))
def opIs : BOp → Operator → Bool
  | .add, .Add => true | .sub, .Sub => true | .mul, .Mult => true | .fdiv, .FloorDiv => true | .mod, .Mod => true | .pow, .Pow => true | .shr, .RShift => true | .band, .BitAnd => true
  | _, _ => false
def cmpIs : BOp → CmpOp → Bool
  | .eq, .Eq => true | .ne, .NotEq => true | .lt, .Lt => true | .le, .LtE => true | .gt, .Gt => true | .ge, .GtE => true | .isin, .In => true | .notin, .NotIn => true | .is, .Is => true | .isnot, .IsNot => true
  | _, _ => false
def starP : Expr → Bool
  | .Starred .. => true
  | _ => false
def slP : Expr → Bool
  | .Slice .. => true
  | _ => false
def namP : Expr → Bool
  | .Name .. => true
  | .Subscript .. => true
  | _ => false
def compP : Expr → Bool
  | .ListComp .. => true
  | .SetComp .. => true
  | .DictComp .. => true
  | _ => false
def Fn.nm : Fn → Str
  | .len => "len" | .sum => "sum" | .max1 => "max" | .min1 => "min" | .max2 => "max" | .min2 => "min" | .abs => "abs" | .int => "int" | .list => "list" | .sorted => "sorted" | .str => "str" | .all => "all" | .max3 => "max"
def Fn.calm : Fn → Bool
  | .max2 => true | .min2 => true | .max3 => true | .max1 => true | .min1 => true | .sum => true | .sorted => true | .all => true
  | _ => false
def Fn.ar : Fn → Nat
  | .max2 => 2 | .min2 => 2 | .max3 => 3 | _ => 1
def Mth.nm : Mth → Str
  | .index => "index" | .count => "count" | .split => "split" | .find => "find"
/-- a class's name -/
def clsC (c : Cc) (x : Str) : Bool := glbC c x && (tyNames.contains x || x == ("ValueError" : Str) || c.exs.contains x)
def namesP (c : Cc) : List Str → List Expr → Bool
  | [], [] => true
  | x :: xs, .Name y _ :: es => x == y && clsC c y && namesP c xs es
  | _, _ => false
def tgsC (c : Cc) : List Nat → List Expr → Bool
  | [], [] => true
  | i :: is, .Name x _ :: es => tlcC c i x && tgsC c is es
  | _, _ => false
def tgC (c : Cc) : Tg → Expr → Bool
  | .one i, .Name x _ => tlcC c i x
  | .many is, .Tuple es _ _ => tgsC c is es
  | _, _ => false
/-- the slots of a comprehension's own names -/
def ownOf (c : Cc) (tg : Tg) : List (Str × Nat) := tg.slots.filterMap fun i => (c.N[i]?).map fun x => (x, i)
def boolP : Expr → Bool
  | .BoolOp .. => true
  | _ => false
/-- may stand as a test -/
def tst : Exp → Bool
  | .ife .. => false
  | .lc .. => false
  | .frz _ => false
  | .and a b => tst a && tst b
  | .or a b => tst a && tst b
  | .un .not a => tst a
  | _ => true
mutual
def chkE (c : Cc) : Exp → Expr → Bool
  | .var i, e => match e with
    | .Name x _ => visC c i x
    | _ => false
  | .int i, e => match e with
    | .Constant (.int j) _ _ => i == j
    | _ => false
  | .bl i, e => match e with
    | .Constant (.bool j) _ _ => i == j
    | _ => false
  | .str i, e => match e with
    | .Constant (.str j) _ _ => i == j
    | _ => false
  | .non, e => match e with
    | .Constant .none _ _ => true
    | _ => false
  | .glo j, e => match e with
    | .Name y _ => c.csts[j]? == some y && glbC c y
    | _ => false
  | .un o a, e => match e with
    | .UnaryOp .USub b _ => (o == .neg) && chkE c a b
    | .UnaryOp .Not b _ => (o == .not) && chkE c a b
    | _ => false
  | .bin o a b, e => match e with
    | .BinOp l op r _ => opIs o op && chkE c a l && chkE c b r
    | .Compare l [op] [r] _ => cmpIs o op && chkE c a l && chkE c b r && !behindInMarks op r
    | .Subscript l r _ => (o == .ix) && chkE c a l && chkE c b r && !slP r
    | _ => false
  | .chain o p a b d, e => match e with
    | .Compare l [op, oq] [m, r] _ => cmpIs o op && cmpIs p oq && chkE c a l && chkE c b m && chkE c d r && !behindInMarks oq r
    | _ => false
  | .and a b, e => match e with
    | .BoolOp .And [x, y] _ => chkE c a x && chkE c b y
    | .BoolOp .And (x :: y :: z :: rest) pos => chkE c a x && chkE c b (.BoolOp .And (y :: z :: rest) pos)
    | _ => false
  | .or a b, e => match e with
    | .BoolOp .Or [x, y] _ => chkE c a x && chkE c b y
    | .BoolOp .Or (x :: y :: z :: rest) pos => chkE c a x && chkE c b (.BoolOp .Or (y :: z :: rest) pos)
    | _ => false
  | .ife d a b, e => match e with
    | .IfExp t x y _ => tst d && chkE c d t && chkE c a x && chkE c b y
    | _ => false
  | .slc a lo hi, e => match e with
    | .Subscript x (.Slice l h none _) _ => chkE c a x && (match l with | none => isHole lo | some l => !isHole lo && chkE c lo l) && (match h with | none => isHole hi | some h => !isHole hi && chkE c hi h)
    | _ => false
  | .hole, _ => false
  | .tup es, e => match e with
    | .Tuple xs _ _ => chkEs c es xs
    | _ => false
  | .lst es, e => match e with
    | .List xs _ => chkEs c es xs
    | _ => false
  | .call j es, e => match e with
    | .Call (.Name x _) (y :: ys) [] _ => c.fns[j]? == some x && glbC c x && chkEs c es (y :: ys)
    | _ => false
  | .din ng i es, e => match e with
    | .Compare (.Tuple (y :: ys) k p) [op] [.Name x q] _ => c.dic && visC c i x && (match op with | .In => !ng | .NotIn => ng | _ => false) && chkEs c es (y :: ys) && !behindInMarks op (.Name x q)
    | _ => false
  | .dget i es, e => match e with
    | .Subscript (.Name x _) (.Tuple (y :: ys) k p) _ => c.dic && visC c i x && chkEs c es (y :: ys) && !slP (.Tuple (y :: ys) k p)
    | _ => false
  | .callv i es, e => match e with
    | .Call (.Name x _) (y :: ys) [] _ => c.clo && visC c i x && chkEs c es (y :: ys)
    | _ => false
  | .callc es, e => match e with
    | .Call (.Name x _) (y :: ys) [] _ => c.vis == some x && glbC c x && chkEs c es (y :: ys)
    | _ => false
  | .blt f es, e => match e with
    | .Call (.Name x _) (y :: ys) [] _ => (c.cm || !f.calm) && f.nm == x && glbC c x && chkEs c es (y :: ys) && (y :: ys).length == f.ar
    | _ => false
  | .mth m a es, e => match e with
    | .Call (.Attribute o x p) (y :: ys) [] q => m.nm == x && chkE c a o && chkEs c es (y :: ys) && p.endLine == q.line && namP o && ys.isEmpty
    | _ => false
  | .frz a, e => !boolP e && chkE c a e
  | .lrng a, e => match e with
    | .Call (.Name x _) [.Call (.Name y _) [n] [] _] [] _ => c.cm && x == ("list" : Str) && y == ("range" : Str) && glbC c x && glbC c y && chkE c a n
    | _ => false
  | .lrev a, e => match e with
    | .Call (.Name x _) [.Call (.Name y _) [n] [] _] [] _ => c.cm && x == ("list" : Str) && y == ("reversed" : Str) && glbC c x && glbC c y && chkE c a n
    | _ => false
  | .isi a one cs, e => match e with
    | .Call (.Name x _) [y, z] [] _ => x == ("isinstance" : Str) && glbC c x && chkE c a y && (!cs.isEmpty && decide (cs.length ≤ 100)) && (match z with
      | .Name w _ => one && cs == [w] && clsC c w
      | .Tuple ws _ _ => !one && namesP c cs ws
      | _ => false)
    | _ => false
  | .lc k its tg d e, f => match f with
    | .ListComp elt [⟨t, iter, ifs, ia⟩] scope _ => c.cm && ia == 0 && chkIt c k its t iter && blkC c.N c.sc scope (ownOf c tg) && tgC { c with sc := relS scope c.sc, cel := false, own := fun x => scope.names.lookup x == some .cell, clo := false, vis := none, nml := [] } tg t &&
        (match ifs with | [] => isHole d | [x] => !isHole d && tst d && chkE { c with sc := relS scope c.sc, cel := false, own := fun x => scope.names.lookup x == some .cell, clo := false, vis := none, nml := [] } d x | _ => false) && chkE { c with sc := relS scope c.sc, cel := false, own := fun x => scope.names.lookup x == some .cell, clo := false, vis := none, nml := [] } e elt
    | _ => false
def chkEs (c : Cc) : Exps → List Expr → Bool
  | .nil, es => match es with
    | [] => true
    | _ => false
  | .cons a r, es => match es with
    | e :: es => chkE c a e && chkEs c r es
    | [] => false
/-- what is walked; t: the target as it is written -/
def chkIt (c : Cc) (k : ItK) (its : Exps) (t iter : Expr) : Bool := match its with
  | .nil => false
  | .cons a r => (match k with
    | .sql => chkE c a iter && (match r with | .nil => true | _ => false)
    | .sqt => chkE c a iter && (match r with | .nil => true | _ => false)
    | .sqs => chkE c a iter && (match r with | .nil => true | _ => false)
    | .rng1 => (match iter with | .Call (.Name x _) [e1] [] _ => x == ("range" : Str) && glbC c x && (chkE c a e1 && chkEs c r []) | _ => false)
    | .rng2 => (match iter with | .Call (.Name x _) [e1, e2] [] _ => x == ("range" : Str) && glbC c x && (chkE c a e1 && chkEs c r [e2]) | _ => false)
    | .rng3 => (match iter with | .Call (.Name x _) [e1, e2, e3] [] _ => x == ("range" : Str) && glbC c x && (chkE c a e1 && chkEs c r [e2, e3]) | _ => false)
    | .enm => (match iter, t with | .Call (.Name x _) [e1] [] _, .Tuple .. => x == ("enumerate" : Str) && glbC c x && (chkE c a e1 && chkEs c r []) | _, _ => false)
    | .zip => (match iter, t with | .Call (.Name x _) [e1, e2] [] _, .Tuple .. => x == ("zip" : Str) && glbC c x && (chkE c a e1 && chkEs c r [e2]) | _, _ => false))
end
/-- what is kept -/
def chkM (c : Cc) : Mx → Expr → Bool
  | .p e, x => chkE c e x
  | .mv i, x => (match x with
    | .Name y _ => visC c i y
    | _ => false)
  | .pair a b, x => (match x with
    | .Tuple [y, z] _ _ => chkM c a y && chkM c b z
    | _ => false)
  | .trip a b d, x => (match x with
    | .Tuple [y, z, w] _ _ => chkM c a y && chkM c b z && chkM c d w
    | _ => false)
  | .quad a b d e, x => (match x with
    | .Tuple [y, z, w, v] _ _ => (chkM c a y && chkM c b z && chkM c d w) && chkM c e v
    | _ => false)
def chkP (c : Cc) : Pth → Expr → Bool
  | .v i, x => (match x with
    | .Name y _ => visC c i y
    | _ => false)
  | .ix p e, x => (match x with
    | .Subscript o k _ => chkP c p o && chkE c e k && !slP k
    | _ => false)
def fnK (c : Cc) : Bool := match c.sc.kind with
  | .function => true
  | _ => false
def noCons (es : List Expr) : Bool := es.any fun e => match e with | .Name .. => true | _ => false
def lcM : Mx → Bool
  | .p (.lc ..) => true
  | _ => false
/-- the text of a function made here: def x(number, quota): return e -/
def ndefC (c : Cc) (i : Nat) (k : Clo) (x y : Str) (ps : Arguments) (body : List Stmt) (sc : Scope) (pos : Pos) : Bool :=
  x == y && c.cel && lofC c i x && (c.nml.lookup (pos.line, pos.col) == some (c.qual ++ x)) && NdefX.ndefB c.sc sc (k.N.drop 2) && NdefX.nscB k.N ["number", "quota"] (k.N.drop 2) sc && decide (k.js.map (fun j => c.N[j]?) = (k.N.drop 2).map some) && decide (k.N.length = k.js.length + 2) &&
  (match ps with
    | ⟨[], [⟨p, none, _⟩, ⟨q, none, _⟩], none, [], [], none, []⟩ => p == ("number" : Str) && q == ("quota" : Str)
    | _ => false) &&
  (match body with
    | [.Return (some e) _] => chkE { N := k.N, sc := sc, fns := [], csts := [], exs := [] } k.e e
    | _ => false)
mutual
def chkS (c : Cc) : Stm → Stmt → Bool
  | .asg i _ m, s => match s with
    | .Assign [.Name x p] e pos => lofC c i x && chkM c m e && (!compP e || (lcM m && fnK c && locC c i x && p.line == e.pos.line && (match e with | .ListComp _ _ sc _ => !(sc.names.any fun (n, k) => n == x && (k == .local || k == .cell)) | _ => false)) || c.sc.names.lookup x == some .cell)
    | _ => false
  | .unp is _ m, s => match s with
    | .Assign [.Tuple ts k p] e pos => c.cm && tgsC c is ts && chkM c m e && (match e with | .Tuple .. => false | _ => true) && !compP e
    | _ => false
  | .par i j a b, s => match s with
    | .Assign [.Tuple [.Name x p, .Name y q] k r] (.Tuple [e, f] k2 p2) pos => c.cm && locC c i x && locC c j y && !(i == j) && !(x == y) && p.line == q.line && chkE c a e && chkE c b f && fnK c && !([e, f].all (foldedForSure 8)) && !([e, f].all (constantsAlone 8))
    | _ => false
  | .aug i o a, s => match s with
    | .AugAssign (.Name x _) op e _ => lofC c i x && visC c i x && opIs o op && (o == .add || o == .sub) && chkE c a e
    | _ => false
  | .setix x a m, s => match s with
    | .Assign [.Subscript (.Name y _) j _] e _ => visC c x y && chkE c a j && chkM c m e && !slP j && !compP e
    | _ => false
  | .app x m, s => match s with
    | .Expr (.Call (.Attribute (.Name y _) f p) [e] [] q) _ => visC c x y && f == ("append" : Str) && chkM c m e && p.endLine == q.line
    | _ => false
  | .pApp p a, s => match s with
    | .Expr (.Call (.Attribute o f l) [e] [] q) _ => chkP c p o && f == ("append" : Str) && chkE c a e && l.endLine == q.line
    | _ => false
  | .pSet p i a, s => match s with
    | .Assign [.Subscript o j _] e _ => chkP c p o && chkE c i j && chkE c a e && !slP j && !compP e
    | _ => false
  | .pAug p i b a, s => match s with
    | .AugAssign (.Subscript o j _) op e _ => chkP c p o && chkE c i j && chkE c a e && !slP j && opIs b op && (b == .add || b == .sub)
    | _ => false
  | .pClr p, s => match s with
    | .Expr (.Call (.Attribute o f l) [] [] q) _ => chkP c p o && f == ("clear" : Str) && l.endLine == q.line
    | _ => false
  | .pExt p a, s => match s with
    | .Expr (.Call (.Attribute o f l) [e] [] q) _ => chkP c p o && f == ("extend" : Str) && chkE c a e && l.endLine == q.line
    | _ => false
  | .popS x p a, s => match s with
    | .Assign [.Name y _] (.Call (.Attribute o f l) [e] [] q) _ => lofC c x y && chkP c p o && f == ("pop" : Str) && chkE c a e && l.endLine == q.line
    | _ => false
  | .popA x p a, s => match s with
    | .Expr (.Call (.Attribute (.Name y _) f l) [.Call (.Attribute o f2 l2) [e] [] q2] [] q) _ => visC c x y && f == ("append" : Str) && chkP c p o && f2 == ("pop" : Str) && chkE c a e && l.endLine == q.line && l2.endLine == q2.line
    | _ => false
  | .forA x p k, s => match s with
    | .For (.Name y py) iter [.Expr (.Call (.Attribute (.Name z pz) f l) [e] [] q) _] [] _ => c.cm && chkP c p iter && tgC c (.one x) (.Name y py) && visC c x z && f == ("append" : Str) && chkE c (.int k) e && l.endLine == q.line && !(x == p.slot)
    | _ => false
  | .forI x v d e, s => match s with
    | .For (.Name y py) iter [.If t [.Return (some r) _] [] _] [] _ => c.cm && chkE c (.var v) iter && tgC c (.one x) (.Name y py) && tst d && chkE c d t && chkE c e r
    | _ => false
  | .remS p a, s => match s with
    | .Expr (.Call (.Attribute o f l) [e] [] q) _ => chkP c p o && f == ("remove" : Str) && chkE c a e && l.endLine == q.line
    | _ => false
  | .ifs d a b, s => match s with
    | .If t x y _ => tst d && chkE c d t && chkSs c a x && chkSs c b y
    | _ => false
  | .for_ k its tg _ b, s => match s with
    | .For t iter body [] _ => c.cm && chkIt c k its t iter && tgC c tg t && chkSs c b body
    | _ => false
  | .whl _ d _ b, s => match s with
    | .While t body [] _ => c.cm && tst d && chkE c d t && chkSs c b body
    | _ => false
  | .ret m, s => match s with
    | .Return (some e) _ => chkM c m e
    | _ => false
  | .retn, s => match s with
    | .Return none _ => true
    | _ => false
  | .rais n, s => match s with
    | .Raise (some (.Call (.Name x _) [.Constant (.str _) _ _] [] _)) none _ => c.cm && x == n && glbC c x && c.exs.contains x
    | _ => false
  | .brk, s => match s with
    | .Break _ => true
    | _ => false
  | .cont, s => match s with
    | .Continue _ => true
    | _ => false
  | .pass, s => match s with
    | .Pass _ => true
    | _ => false
  | .expr a, s => match s with
    | .Expr e _ => chkE c a e && !compP e
    | _ => false
  | .tryx b n i u, s => match s with
    | .Try body [.ExceptHandler (some (.Name x _)) (some y) (s0 :: su) _] [] [] _ => c.cm && !c.fns.isEmpty && x == n && glbC c x && c.exs.contains x && locC c i y && chkSs { c with clo := false, vis := none, nml := [] } b body && chkSs { c with cm := false, fns := [], clo := false, vis := none, nml := [], dic := false, z := false } u (s0 :: su)
    | _ => false
def chkSs (c : Cc) : Stms → List Stmt → Bool
  | .nil, ss => match ss with
    | [] => true
    | _ => false
  | .cons a r, ss => match ss with
    | s :: ss => chkS c a s && chkSs c r ss
    | [] => false
  | .frzv _ r, ss => chkSs c r ss
  | .forget _ r, ss => chkSs c r ss
  | .stp i jr jq ib e, ss => match ss with
    | [.Assign [.Name x _] (.Dict [some k0] [v0] _) _, .For (.Name r1 p1) iter [.For (.Name q1 p2) (.Name r2 p3) [.Assign [.Subscript (.Name x2 _) k1 _] v1 _, .Assign [.Subscript (.Name x3 _) k2 _] v2 _] [] _] [] _, .Return (some (.Call (.Name so _) [.Name x4 p4] [] _)) _] =>
      c.cm && c.z && lofC c i x && chkE c (.int 0) k0 && chkE c (.bl true) v0 && chkE c e iter && tlcC c jr r1 && tlcC c jq q1 && visC c jr r2 && visC c i x2 && visC c i x3 && visC c i x4
        && chkE c (.bin .mod (.var jq) (.var ib)) k1 && chkE c (.bl true) v1 && chkE c (.bin .mod (.un .neg (.var jq)) (.var ib)) k2 && chkE c (.bl true) v2 && !compP v1 && !compP v2 && !slP k1 && !slP k2
        && so == ("sorted" : Str) && glbC c so && decide ([i, jr, jq, ib].Nodup)
    | _ => false
  | .dic i ja jb jc jd e r, ss => match ss with
    | .Assign [.Name x _] (.Dict [] [] _) _ :: .For (.Tuple [.Name a1 p1, .Name b1 p2, .Name c1 p3, .Name d1 p4] k0 q0) iter [.Assign [.Subscript (.Name x2 _) (.Tuple [.Name a2 _, .Name b2 _] k1 q1) _] (.Tuple [.Name c2 _, .Name d2 _] k2 q2) _] [] _ :: ss =>
      c.cm && c.z && lofC c i x && chkE c e iter && tgsC c [ja, jb, jc, jd] [.Name a1 p1, .Name b1 p2, .Name c1 p3, .Name d1 p4] && visC c i x2 && visC c ja a2 && visC c jb b2 && visC c jc c2 && visC c jd d2 && decide ([i, ja, jb, jc, jd].Nodup) && chkSs { c with fns := [], clo := false, vis := none, nml := [], dic := true, z := false } r ss
    | _ => false
  | .clos i0 i1 k0 k1 r, ss => match ss with
    | .FunctionDef x ps body [] none [] sc none y pos :: .FunctionDef x' ps' body' [] none [] sc' none y' pos' :: ss => c.cm && !c.fns.isEmpty && !c.clo && !(i0 == i1) && ndefC c i0 k0 x y ps body sc pos && ndefC c i1 k1 x' y' ps' body' sc' pos' && chkSs { c with fns := [], dic := false, z := false } r ss
    | _ => false
end
end L3

set_option maxRecDepth 100000
set_option maxHeartbeats 2000000
/-! L3.Base: what an expression's value leaves; operators. -/
namespace L3
open PySem PySem.Spec PyProof.Rows L2
variable [TbC]

/-! ### the text's forms -/
theorem star_cons (e : Expr) (es : List Expr) (env : PySem.Env) (h : starP e = false) : starEach (e :: es) env = (false, eval e env) :: starEach es env := by
  cases e <;> first | rfl | cases h
theorem star_any : ∀ (es : List Expr) (pos : Pos) (env : PySem.Env), es.all (fun e => !starP e) = true → (backTo pos (starEach es env)).any (·.1) = false
  | [], _, _, _ => rfl
  | e :: es, pos, env, h => by
    rw [List.all_cons, Bool.and_eq_true] at h
    have h1 : starP e = false := by simpa using h.1
    rw [star_cons e es env h1]
    show (false || (backTo pos (starEach es env)).any (·.1)) = false
    rw [star_any es pos env h.2]
    rfl
theorem plainIx {e : Expr} (h : slP e = false) : PlainIx e := fun o i => by
  cases e <;> first | rfl | cases h
theorem noswap (e : Expr) (t : Option Expr) (l : Nat) (env : PySem.Env) (h : compP e = false) : swapsWith e t l env = pure false := by
  cases e <;> first | rfl | cases h
theorem chk_frz {c : Cc} {x : Exp} {e : Expr} (h : chkE c (.frz x) e = true) : boolP e = false ∧ chkE c x e = true := by
  rw [chkE.eq_def] at h
  dsimp only at h
  simpa using h
theorem chk_star {c : Cc} : ∀ (x : Exp) {e : Expr}, chkE c x e = true → starP e = false
  | .frz a, e, h => chk_star a (chk_frz h).2
  | .lrng _, e, h | .lrev _, e, h | .callv _ _, e, h | .din _ _ _, e, h | .dget _ _, e, h | .callc _, e, h | .var _, e, h | .int _, e, h | .bl _, e, h | .str _, e, h | .non, e, h | .glo _, e, h | .un _ _, e, h | .bin _ _ _, e, h | .chain _ _ _ _ _, e, h | .and _ _, e, h | .or _ _, e, h | .ife _ _ _, e, h | .slc _ _ _, e, h | .hole, e, h | .tup _, e, h | .lst _, e, h | .call _ _, e, h | .blt _ _, e, h | .mth _ _ _, e, h | .isi _ _ _, e, h | .lc _ _ _ _ _, e, h => by
    cases e <;> first | rfl | exact absurd (show false = true from h) Bool.false_ne_true
theorem chks_star {c : Cc} : ∀ (xs : Exps) {es : List Expr}, chkEs c xs es = true → es.all (fun e => !starP e) = true
  | .nil, [], _ => rfl
  | .nil, e :: es, h => absurd (show false = true from h) Bool.false_ne_true
  | .cons a r, [], h => absurd (show false = true from h) Bool.false_ne_true
  | .cons a r, e :: es, h => by
    rw [chkEs, Bool.and_eq_true] at h
    rw [List.all_cons, chk_star a h.1, chks_star r h.2]
    rfl
/-! ### what a value leaves -/
/-- H, F: ahead; H', F': behind; g: the lists that the operands owned, fr: those of the value -/
structure Out1 (K : Kx) (F H : Hp) (g : List Addr) (F' H' : Hp) (d : D) (v : V) (fr : List Addr) : Prop where
  eH : Ex H H'
  eF : Ex F F'
  sub : Ex F' H'
  new : ∀ a, F a = none → F' a ≠ none → H a = none
  r : R K F' H' d v fr
  nd : fr.Nodup
  fresh : ∀ a ∈ fr, a ∈ g ∨ H a = none
  off : ∀ a ∈ fr, F' a = none
structure Outs (K : Kx) (F H : Hp) (g : List Addr) (F' H' : Hp) (ds : List D) (vs : List V) (fr : List Addr) : Prop where
  eH : Ex H H'
  eF : Ex F F'
  sub : Ex F' H'
  new : ∀ a, F a = none → F' a ≠ none → H a = none
  r : Rs K F' H' ds vs fr
  nd : fr.Nodup
  fresh : ∀ a ∈ fr, a ∈ g ∨ H a = none
  off : ∀ a ∈ fr, F' a = none
section
variable {K : Kx} {F F' H H' : Hp} {g fr : List Addr} {d : D} {v : V}
theorem Out1.same (s : Ex F H) (r : R K F H d v fr) (nd : fr.Nodup) (m : ∀ a ∈ fr, a ∈ g) (off : ∀ a ∈ g, F a = none) : Out1 K F H g F H d v fr :=
  ⟨Ex.refl _, Ex.refl _, s, fun a h1 h2 => absurd h1 h2, r, nd, fun a h => .inl (m a h), fun a h => off a (m a h)⟩
/-- a value that owns nothing -/
theorem Out1.flat (s : Ex F H) (r : R K F H d v []) : Out1 K F H g F H d v [] :=
  ⟨Ex.refl _, Ex.refl _, s, fun a h1 h2 => absurd h1 h2, r, List.nodup_nil, fun a h => absurd h List.not_mem_nil, fun a h => absurd h List.not_mem_nil⟩
theorem sub_new (s : Ex F H) {p : Addr} {o : HO} (hp : H p = none) : Ex F (upd H p o) := s.trans (Ex.new hp)
theorem F_none (s : Ex F H) {p : Addr} (hp : H p = none) : F p = none := Ex.free s hp
/-- a new list -/
theorem Out1.list {ds : List D} {vs : List V} {p : Addr} {h : List Addr} (s : Ex F H) (hp : H p = none) (r : Rs K F H ds vs h) (nd : h.Nodup) (m : ∀ a ∈ h, a ∈ g) (off : ∀ a ∈ g, F a = none) (hh : ∀ a ∈ g, H a ≠ none) :
    Out1 K F H g F (upd H p (.lst vs)) (.lst .own ds) (.ref p) (p :: h) := by
  have np : p ∉ h := fun z => hh p (m p z) hp
  refine ⟨Ex.new hp, Ex.refl _, sub_new s hp, fun a h1 h2 => absurd h1 h2, .lst (r.mono (Ex.refl _) (Ex.new hp)) ⟨upd_same, rfl⟩, List.nodup_cons.mpr ⟨np, nd⟩, fun a z => ?_, fun a z => ?_⟩
  · rcases List.mem_cons.mp z with e | z
    · subst e; exact .inr hp
    · exact .inl (m a z)
  · rcases List.mem_cons.mp z with e | z
    · subst e; exact F_none s hp
    · exact off a (m a z)
/-- a new tuple -/
theorem Out1.tuple {ds : List D} {vs : List V} {p : Addr} {h : List Addr} (s : Ex F H) (hp : H p = none) (r : Rs K F H ds vs h) (nd : h.Nodup) (m : ∀ a ∈ h, a ∈ g) (off : ∀ a ∈ g, F a = none) :
    Out1 K F H g F (upd H p (.tup vs)) (.tup ds) (.ref p) h :=
  ⟨Ex.new hp, Ex.refl _, sub_new s hp, fun a h1 h2 => absurd h1 h2, .tup (.inl (.inl upd_same)) (r.mono (Ex.refl _) (Ex.new hp)), nd, fun a z => .inl (m a z), fun a z => off a (m a z)⟩
end
/-- the world at a point: env in σ, F in H -/
structure Wd (K : Kx) (F H : Hp) (env : Env) (σ : L2.St) (fp : List Addr) : Prop where
  sub : Ex F H
  es : Es K F H env σ fp
  nd : fp.Nodup
  off : ∀ a ∈ fp, F a = none
  hi : HI K H
theorem Wd.next {K : Kx} {F H F' H' : Hp} {env : Env} {σ : L2.St} {fp : List Addr} (W : Wd K F H env σ fp) (eH : Ex H H') (eF : Ex F F') (sub : Ex F' H') (new : ∀ a, F a = none → F' a ≠ none → H a = none) : Wd K F' H' env σ fp := by
  refine ⟨sub, W.es.mono eF eH, W.nd, fun a m => ?_, W.hi.ex eH⟩
  obtain ⟨xs, h⟩ := W.es.has a m
  cases e : F' a with
  | none => rfl
  | some o =>
    have z := new a (W.off a m) (by rw [e]; exact fun q => nomatch q)
    rw [h] at z
    cases z
/-- what is wished for where the error n is raised -/
def Rai (mg : Str → Option Value) (W : WX) (n : Str) (σ : L2.St) (H : Hp) : Prop := ∀ C H', mg n = some (.ref C) → Ex H H' → W (.ref C) none σ H'
theorem Rai.mono {mg : Str → Option Value} {W : WX} {n : Str} {σ : L2.St} {H H1 : Hp} (h : Rai mg W n σ H) (e : Ex H H1) : Rai mg W n σ H1 := fun C H' q k => h C H' q (e.trans k)
section
variable (K : Kx) (mg : Str → Option Value) (W : WX) (G : Tab)
/-- an expression's reading -/
def rdE (x : Exp) : TE := fun σ H Q => ∃ env F fp, Wd K F H env σ fp ∧ match ev G x env with
  | .ok d => ∀ v H' F' fr, Out1 K F H [] F' H' d v fr → Q v H'
  | .ex n => Rai mg W n σ H
  | .no => False
def rdA (xs : Exps) : TA := fun σ H Q => ∃ env F fp, Wd K F H env σ fp ∧ match evs G xs env with
  | .ok ds => ∀ vs H' F' fr, Outs K F H [] F' H' ds vs fr → Q vs H'
  | .ex n => Rai mg W n σ H
  | .no => False
def rdT (x : Exp) : TT := fun σ H Q => ∃ env F fp, Wd K F H env σ fp ∧ match (ev G x env).bind asB with
  | .ok b => ∀ H' F', Ex H H' → Ex F F' → Ex F' H' → (∀ a, F a = none → F' a ≠ none → H a = none) → Q b H'
  | .ex n => Rai mg W n σ H
  | .no => False
end
theorem _root_.L2.PE.imp3 {X : Cx} {e : Expr} {t t' : TE} (h : PE X e t) (i : ∀ σ H Q, t' σ H Q → t σ H Q) : PE X e t' := ⟨fun pins s σ H Q I w => h.run pins s σ H Q I (i σ H Q w)⟩
theorem _root_.L2.PT.imp3 {X : Cx} {e : Expr} {t t' : TT} (h : PT X e t) (i : ∀ σ H Q, t' σ H Q → t σ H Q) : PT X e t' := ⟨fun pins s σ H Q I w => h.run pins s σ H Q I (i σ H Q w)⟩
theorem _root_.L2.PA.imp3 {X : Cx} {e : List Expr} {t t' : TA} (h : PA X e t) (i : ∀ σ H Q, t' σ H Q → t σ H Q) : PA X e t' := ⟨fun pos pins s σ H Q I w => h.run pos pins s σ H Q I (i σ H Q w)⟩
theorem _root_.L2.PW.imp3 {X : Cx} {e : Expr} {t t' : TT} (h : PW X e t) (i : ∀ σ H Q, t' σ H Q → t σ H Q) : PW X e t' := ⟨fun wh pins s σ H Q I w => h.run wh pins s σ H Q I (i σ H Q w)⟩
theorem OpR.or {X : Cx} {f : Value → Value → Sem Value} {r r' : R2} (h : OpR X f r) (h' : OpR X f r') : OpR X f (fun x y H Q => r x y H Q ∨ r' x y H Q) :=
  fun pins s σ H x y v u Q I r1 r2 q => q.elim (h pins s σ H x y v u Q I r1 r2) (h' pins s σ H x y v u Q I r1 r2)
theorem OpR.imp {X : Cx} {f : Value → Value → Sem Value} {r r' : R2} (h : OpR X f r) (i : ∀ x y H Q, r' x y H Q → r x y H Q) : OpR X f r' :=
  fun pins s σ H x y v u Q I r1 r2 q => h pins s σ H x y v u Q I r1 r2 (i x y H Q q)
theorem IxR.or {X : Cx} {r r' : R2} (h : IxR X r) (h' : IxR X r') : IxR X (fun x y H Q => r x y H Q ∨ r' x y H Q) :=
  fun a b pins s σ H x y v u Q I r1 r2 q => q.elim (h a b pins s σ H x y v u Q I r1 r2) (h' a b pins s σ H x y v u Q I r1 r2)
theorem CallR.or {X : Cx} {f : Value} {r r' : List V → Hp → VK → Prop} (h : CallR X f r) (h' : CallR X f r') : CallR X f (fun x H Q => r x H Q ∨ r' x H Q) :=
  fun pins s σ H x v Q I r1 q => q.elim (h pins s σ H x v Q I r1) (h' pins s σ H x v Q I r1)

/-! ### two operands -/
/-- r is what f says -/
def BinS (K : Kx) (r : R2) (f : D → D → Option D) : Prop := ∀ (F H : Hp) (x y : D) (v w : V) (f1 f2 : List Addr) (d : D) (Q : VK), Ex F H → R K F H x v f1 → R K F H y w f2 → (f1 ++ f2).Nodup → (∀ a ∈ f1 ++ f2, F a = none) → f x y = some d →
  (∀ z H' F' fr, Out1 K F H (f1 ++ f2) F' H' d z fr → Q z H') → r v w H Q
theorem Out1.comp {K : Kx} {F H F1 H1 F2 H2 : Hp} {g fr : List Addr} {d : D} {v : V} (eH : Ex H H1) (eF : Ex F F1) (sub : Ex F1 H1) (new : ∀ a, F a = none → F1 a ≠ none → H a = none) (hg : ∀ a ∈ g, H a = none)
    (o : Out1 K F1 H1 g F2 H2 d v fr) : Out1 K F H [] F2 H2 d v fr := by
  refine ⟨eH.trans o.eH, eF.trans o.eF, o.sub, fun a h1 h2 => ?_, o.r, o.nd, fun a m => .inr ?_, o.off⟩
  · cases e : F1 a with
    | none => exact Ex.free eH (o.new a e h2)
    | some u => exact new a h1 (by rw [e]; exact fun q => nomatch q)
  · rcases o.fresh a m with z | z
    · exact hg a z
    · exact Ex.free eH z
/-- evaluating two, the second in the world that the first leaves -/
theorem rd_two {K : Kx} {mg : Str → Option Value} {W : WX} {G : Tab} {a b : Exp} {σ : L2.St} {H : Hp} {Q : V → V → Hp → Prop} {env : Env} {F : Hp} {fp : List Addr} (w : Wd K F H env σ fp)
    (h : match (ev G a env).bind fun x => (ev G b env).bind fun y => .ok (x, y) with
      | .ok p => ∀ v u H' F' f1 f2, Ex H H' → Ex F F' → Ex F' H' → (∀ a, F a = none → F' a ≠ none → H a = none) → R K F' H' p.1 v f1 → R K F' H' p.2 u f2 → (f1 ++ f2).Nodup → (∀ a ∈ f1 ++ f2, F' a = none) → (∀ a ∈ f1 ++ f2, H a = none) → Q v u H'
      | .ex n => Rai mg W n σ H
      | .no => False) : rdE K mg W G a σ H fun v H1 => rdE K mg W G b σ H1 fun u H2 => Q v u H2 := by
  refine ⟨env, F, fp, w, ?_⟩
  cases ea : ev G a env with
  | no => rw [ea] at h; exact h
  | ex n => rw [ea] at h; exact h
  | ok x =>
    intro v H1 F1 f1 o1
    refine ⟨env, F1, fp, w.next o1.eH o1.eF o1.sub o1.new, ?_⟩
    rw [ea] at h
    cases eb : ev G b env with
    | no => rw [eb] at h; exact h
    | ex n => rw [eb] at h; exact Rai.mono h o1.eH
    | ok y =>
      intro u H2 F2 f2 o2
      rw [eb] at h
      have new2 : ∀ a, F a = none → F2 a ≠ none → H a = none := fun a h1 h2 => by
        cases e : F1 a with
        | none => exact Ex.free o1.eH (o2.new a e h2)
        | some u => exact o1.new a h1 (by rw [e]; exact fun q => nomatch q)
      have fr1 : ∀ a ∈ f1, H a = none := fun a m => (o1.fresh a m).resolve_left List.not_mem_nil
      have fr2 : ∀ a ∈ f2, H1 a = none := fun a m => (o2.fresh a m).resolve_left List.not_mem_nil
      have has1 := o1.r.has
      refine h v u H2 F2 f1 f2 (o1.eH.trans o2.eH) (o1.eF.trans o2.eF) o2.sub new2 (o1.r.mono o2.eF o2.eH) o2.r ?_ ?_ ?_
      · refine List.nodup_append.mpr ⟨o1.nd, o2.nd, fun a m b m2 e => ?_⟩
        subst e
        obtain ⟨xs, q⟩ := has1 a m
        rw [fr2 a m2] at q
        cases q
      · intro a m
        rcases List.mem_append.mp m with m | m
        · cases e : F2 a with
          | none => rfl
          | some o =>
            obtain ⟨xs, q⟩ := has1 a m
            have z := o2.new a (o1.off a m) (by rw [e]; exact fun q => nomatch q)
            rw [q] at z
            cases z
        · exact o2.off a m
      · intro a m
        rcases List.mem_append.mp m with m | m
        · exact fr1 a m
        · exact Ex.free o1.eH (fr2 a m)
theorem rd_bin {K : Kx} {mg : Str → Option Value} {W : WX} {G : Tab} {o : BOp} {a b : Exp} {r : R2} (hr : BinS K r (bopD o)) {σ : L2.St} {H : Hp} {Q : VK} (h : rdE K mg W G (.bin o a b) σ H Q) : tOp r (rdE K mg W G a) (rdE K mg W G b) σ H Q := by
  obtain ⟨env, F, fp, w, h⟩ := h
  refine rd_two w ?_
  rw [ev] at h
  cases ea : ev G a env with
  | no => rw [ea] at h; exact h
  | ex n => rw [ea] at h; exact h
  | ok x =>
    cases eb : ev G b env with
    | no => rw [ea, Res.bind_ok, eb] at h; exact h
    | ex n => rw [ea, Res.bind_ok, eb] at h; exact h
    | ok y =>
      rw [ea, Res.bind_ok, eb, Res.bind_ok] at h
      intro v u H' F' f1 f2 eH eF sub new r1 r2 nd off fr
      cases ed : bopD o x y with
      | none => rw [ed] at h; exact h.elim
      | some d =>
        rw [ed] at h
        exact hr F' H' x y v u f1 f2 d Q sub r1 r2 nd off ed fun z H2 F2 g o2 => h z H2 F2 g (o2.comp eH eF sub new fr)
end L3

set_option maxRecDepth 100000
set_option maxHeartbeats 2000000
/-! L3.Ops: each operator keeps what the small language says. -/
namespace L3
open PySem PySem.Spec PyProof.Rows L2
variable [TbC]

section
variable {K : Kx} {F H : Hp} {v : V} {fr : List Addr}
theorem R.int' {i : Int} (h : R K F H (.int i) v fr) : v = .int i ∧ fr = [] := by cases h; exact ⟨rfl, rfl⟩
theorem R.bl' {i : Bool} (h : R K F H (.bl i) v fr) : v = .bl i ∧ fr = [] := by cases h; exact ⟨rfl, rfl⟩
theorem R.str' {i : Str} (h : R K F H (.str i) v fr) : v = .str i ∧ fr = [] := by cases h; exact ⟨rfl, rfl⟩
theorem R.non' (h : R K F H .non v fr) : v = .non ∧ fr = [] := by cases h; exact ⟨rfl, rfl⟩
theorem R.flat {d : D} (h : R K F H d v fr) (hd : flatD d = true) : fr = [] := by
  cases h <;> first | rfl | cases hd
theorem Rs.rep {d : D} (h : R K F H d v []) : ∀ n : Nat, Rs K F H (List.replicate n d) (List.replicate n v) []
  | 0 => .nil
  | n + 1 => .cons (f1 := []) h (Rs.rep h n)
theorem Rs.flats : ∀ {ds : List D} {vs : List V} {g : List Addr}, Rs K F H ds vs g → ds.all flatD = true → g = []
  | _, _, _, .nil, _ => rfl
  | _, _, _, .cons h t, a => by
    rw [List.all_cons, Bool.and_eq_true] at a
    rw [h.flat a.1, Rs.flats t a.2]
    rfl
/-- a list's cell, its items -/
theorem R.lst' {f : Fl} {ds : List D} (s : Ex F H) (h : R K F H (.lst f ds) v fr) : ∃ a vs g, v = .ref a ∧ H a = some (.lst vs) ∧ Rs K F H ds vs g ∧ g.Sublist fr := by
  cases h with
  | @lst f ds a vs g fp r l =>
    cases f with
    | own => obtain ⟨l1, rfl⟩ := l; exact ⟨a, vs, g, rfl, l1, r, List.sublist_cons_self _ _⟩
    | lk => obtain ⟨l1, rfl⟩ := l; exact ⟨a, vs, g, rfl, l1, r, List.sublist_cons_self _ _⟩
    | fz => obtain ⟨l1, rfl, rfl⟩ := l; exact ⟨a, vs, [], rfl, s.lst l1, r, List.Sublist.refl _⟩
    | pk => obtain ⟨l1, rfl, rfl⟩ := l; exact ⟨a, vs, [], rfl, l1, r, List.Sublist.refl _⟩
theorem R.tup' {ds : List D} (h : R K F H (.tup ds) v fr) : ∃ a vs, v = .ref a ∧ SqT K.K H a vs ∧ Rs K F H ds vs fr := by
  cases h with
  | tup t r => exact ⟨_, _, rfl, t, r⟩
theorem R.scr' {ns : List Int} (h : R K F H (.scr ns) v fr) : ∃ a, v = .ref a ∧ SqL K.K F a (ns.map V.int) ∧ fr = [] := by
  cases h with
  | scr t => exact ⟨_, rfl, t, rfl⟩
theorem Rs.app : ∀ {xs ys : List D} {vs ws : List V} {f g : List Addr}, Rs K F H xs vs f → Rs K F H ys ws g → Rs K F H (xs ++ ys) (vs ++ ws) (f ++ g)
  | _, _, _, _, _, _, .nil, r => r
  | _, _, _, _, _, g, .cons (f1 := f1) (f2 := f2) h t, r => by
    rw [List.append_assoc]
    exact .cons h (Rs.app t r)
theorem Rs.reps {xs : List D} {vs : List V} (h : Rs K F H xs vs []) : ∀ n : Nat, Rs K F H (List.replicate n xs).flatten (List.replicate n vs).flatten []
  | 0 => .nil
  | n + 1 => by
    rw [List.replicate_succ, List.replicate_succ, List.flatten_cons, List.flatten_cons]
    exact Rs.app h (Rs.reps h n)
theorem Rs.get : ∀ {xs : List D} {vs : List V} {f : List Addr} {i : Nat} {d : D}, Rs K F H xs vs f → xs[i]? = some d → ∃ v g, vs[i]? = some v ∧ R K F H d v g ∧ g.Sublist f
  | _, _, _, i, d, .nil, e => by simp at e
  | _, _, _, 0, d, .cons h t, e => by
    simp at e
    subst e
    exact ⟨_, _, rfl, h, List.sublist_append_left _ _⟩
  | _, _, _, i + 1, d, .cons h t, e => by
    obtain ⟨v, g, h1, h2, h3⟩ := Rs.get (i := i) t (by simpa using e)
    exact ⟨v, g, by simpa using h1, h2, h3.trans (List.sublist_append_right _ _)⟩
theorem Rs.drop : ∀ {xs : List D} {vs : List V} {f : List Addr} (n : Nat), Rs K F H xs vs f → ∃ g, Rs K F H (xs.drop n) (vs.drop n) g ∧ g.Sublist f
  | _, _, _, 0, r => ⟨_, r, List.Sublist.refl _⟩
  | _, _, _, n + 1, .nil => ⟨[], .nil, List.Sublist.refl _⟩
  | _, _, _, n + 1, .cons h t => by
    obtain ⟨g, r, s⟩ := Rs.drop n t
    exact ⟨g, r, s.trans (List.sublist_append_right _ _)⟩
theorem Rs.take : ∀ {xs : List D} {vs : List V} {f : List Addr} (n : Nat), Rs K F H xs vs f → ∃ g, Rs K F H (xs.take n) (vs.take n) g ∧ g.Sublist f
  | _, _, _, 0, r => ⟨[], .nil, List.nil_sublist _⟩
  | _, _, _, n + 1, .nil => ⟨[], .nil, List.Sublist.refl _⟩
  | _, _, _, n + 1, .cons h t => by
    obtain ⟨g, r, s⟩ := Rs.take n t
    exact ⟨_, .cons h r, (List.Sublist.refl _).append s⟩
theorem Rs.at {xs : List D} {vs : List V} {f : List Addr} {i : Int} {d : D} (r : Rs K F H xs vs f) (e : atI xs i = some d) : ∃ v g, atI vs i = some v ∧ R K F H d v g ∧ g.Sublist f := by
  unfold atI at e ⊢
  rw [r.length] at e
  cases h : ixN vs.length i with
  | none => rw [h] at e; cases e
  | some j =>
    rw [h] at e
    exact r.get e
theorem Rs.ints : ∀ {ns : List Int} {vs : List V} {f : List Addr}, Rs K F H (ns.map D.int) vs f → vs = ns.map V.int ∧ f = []
  | [], _, _, .nil => ⟨rfl, rfl⟩
  | n :: ns, _, _, .cons h t => by
    obtain ⟨rfl, rfl⟩ := h.int'
    obtain ⟨rfl, rfl⟩ := Rs.ints t
    exact ⟨rfl, rfl⟩
theorem Rs.of_ints : ∀ (ns : List Int), Rs K F H (ns.map D.int) (ns.map V.int) []
  | [] => .nil
  | n :: ns => .cons (f1 := []) (.int n) (Rs.of_ints ns)
/-! ### comparing -/
mutual
theorem R.dp (s : Ex F H) : ∀ {d : D} {v : V} {fr : List Addr} {n : Nat}, R K F H d v fr → cmpOk n d = true → Dp K.K H v (py d)
  | _, _, _, _, .non, _ => .non
  | _, _, _, _, .bl b, _ => .bl b
  | _, _, _, _, .int i, _ => .int i
  | _, _, _, _, .str x, _ => .str x
  | _, _, _, 0, .tup h r, c => absurd (show false = true from c) Bool.false_ne_true
  | _, _, _, n + 1, .tup h r, c => .tup h (Rs.dp s r (n := n) c)
  | _, _, _, 0, .lst r l, c => absurd (show false = true from c) Bool.false_ne_true
  | .lst f ds, .ref a, _, n + 1, .lst (vs := vs) r l, c => .lst (xs := vs) (.inl (.inl (by
      cases f with
      | own => exact l.1
      | lk => exact l.1
      | fz => exact s.lst l.1
      | pk => exact l.1))) (Rs.dp s r (n := n) c)
  | _, _, _, _, .scr h, c => absurd (show false = true from c) Bool.false_ne_true
  | _, _, _, _, .exc h, c => absurd (show false = true from c) Bool.false_ne_true
  | _, _, _, _, .clo h, c => absurd (show false = true from c) Bool.false_ne_true
theorem Rs.dp (s : Ex F H) : ∀ {ds : List D} {vs : List V} {fr : List Addr} {n : Nat}, Rs K F H ds vs fr → cmpOks n ds = true → DpAll K.K H vs (pys ds)
  | _, _, _, _, .nil, _ => .nil
  | _, _, _, n, .cons h r, c => by
    rw [cmpOks, Bool.and_eq_true] at c
    exact .cons (R.dp s h c.1) (Rs.dp s r c.2)
end
mutual
theorem cmpOk_lay : ∀ (n : Nat) (d : D), cmpOk n d = true → (py d).canLay0 = true ∧ (py d).depth ≤ n
  | n, .non, _ => ⟨rfl, Nat.zero_le _⟩
  | n, .bl b, _ => ⟨rfl, Nat.zero_le _⟩
  | n, .int i, _ => ⟨rfl, Nat.zero_le _⟩
  | n, .str x, h => ⟨h, Nat.zero_le _⟩
  | 0, .tup ds, h => absurd (show false = true from h) Bool.false_ne_true
  | n + 1, .tup ds, h => by
    obtain ⟨h1, h2⟩ := cmpOks_lay n ds h
    exact ⟨h1, Nat.succ_le_succ h2⟩
  | 0, .lst f ds, h => absurd (show false = true from h) Bool.false_ne_true
  | n + 1, .lst f ds, h => by
    obtain ⟨h1, h2⟩ := cmpOks_lay n ds h
    exact ⟨h1, Nat.succ_le_succ h2⟩
  | n, .scr _, h => absurd (show false = true from h) Bool.false_ne_true
  | n, .exc _, h => absurd (show false = true from h) Bool.false_ne_true
  | n, .clo _, h => absurd (show false = true from h) Bool.false_ne_true
theorem cmpOks_lay : ∀ (n : Nat) (ds : List D), cmpOks n ds = true → PyData.canLayAll0 (pys ds) = true ∧ PyData.depthAll (pys ds) ≤ n
  | n, [], _ => ⟨rfl, Nat.zero_le _⟩
  | n, d :: ds, h => by
    rw [cmpOks, Bool.and_eq_true] at h
    obtain ⟨h1, h2⟩ := cmpOk_lay n d h.1
    obtain ⟨h3, h4⟩ := cmpOks_lay n ds h.2
    refine ⟨?_, Nat.max_le.mpr ⟨h2, h4⟩⟩
    show ((py d).canLay0 && PyData.canLayAll0 (pys ds)) = true
    rw [h1, h3]
    rfl
end
theorem cmpOk_shaped {d : D} (h : cmpOk 60 d = true) : SeqAt.shaped (py d) = true := by
  obtain ⟨h1, h2⟩ := cmpOk_lay 60 d h
  unfold SeqAt.shaped
  rw [h1, decide_eq_true (by omega)]
  rfl
end
section
variable {K : Kx} {X : Cx}
/-! ### ints -/
theorem bin_I {C : Int → Int → Prop} {g : Int → Int → V} {h : Int → Int → D} {f : D → D → Option D} (hf : ∀ x y d, f x y = some d → ∃ i j, x = .int i ∧ y = .int j ∧ C i j ∧ d = h i j) (hr : ∀ (F H : Hp) i j, R K F H (h i j) (g i j) []) : BinS K (rI C g) f := by
  intro F H x y v w f1 f2 d Q s r1 r2 nd off e k
  obtain ⟨i, j, rfl, rfl, c, rfl⟩ := hf x y d e
  obtain ⟨rfl, rfl⟩ := r1.int'
  obtain ⟨rfl, rfl⟩ := r2.int'
  exact ⟨i, j, rfl, rfl, c, k _ _ _ _ (.flat s (hr F H i j))⟩
theorem bin_I0 {g : Int → Int → V} {h : Int → Int → D} {f : D → D → Option D} (hf : ∀ x y d, f x y = some d → ∃ i j, x = .int i ∧ y = .int j ∧ d = h i j) (hr : ∀ (F H : Hp) i j, R K F H (h i j) (g i j) []) : BinS K (rI0 g) f := by
  intro F H x y v w f1 f2 d Q s r1 r2 nd off e k
  obtain ⟨i, j, rfl, rfl, rfl⟩ := hf x y d e
  obtain ⟨rfl, rfl⟩ := r1.int'
  obtain ⟨rfl, rfl⟩ := r2.int'
  exact ⟨i, j, rfl, rfl, k _ _ _ _ (.flat s (hr F H i j))⟩
theorem mulX {i j : Int} (h : MulOk i j) : IntMulOk i j := CMulW.ok h
theorem op_mulX : OpR X (binaryOp .Mult) (rI MulOk fun i j => .int (i * j)) := opI fun _ _ _ _ _ _ _ hc q => mul_int q (mulX hc)
theorem op_fdivX : OpR X (binaryOp .FloorDiv) (rI (fun _ j => DivOk j) fun i j => .int (i.fdiv j)) := opI fun i j _ _ _ _ _ hc q => floordiv_int hc.1 q (.inl (PyProof.noPylong_of_log2 hc.2))
theorem op_powX : OpR X (binaryOp .Pow) (rI PowOk fun i j => .int (i ^ j.toNat)) := opI fun i j _ _ _ _ _ hc q => by
  refine pow_int hc.1 ?_ q
  have h1 : Builtin.Int.intBits i ≤ i.natAbs.log2 + 1 := by
    unfold Builtin.Int.intBits
    split <;> omega
  obtain ⟨n, rfl⟩ := Int.eq_ofNat_of_zero_le hc.1
  have h3 : Builtin.Int.intBits i * n ≤ 134217728 := Nat.le_trans (Nat.mul_le_mul_right _ h1) hc.2
  have h5 : (2 : Int) ^ 27 = ((134217728 : Nat) : Int) := by decide
  rw [h5, ← Int.natCast_mul]
  exact Int.ofNat_le.mpr h3
/-- x < y of two data that can be compared place by place -/
def rLtD (K : PySem.W.Frag) : R2 := fun x y H Q => ∃ da db, Dp K H x da ∧ Dp K H y db ∧ SeqAt.shaped da = true ∧ PySem.W.alike da db = true ∧ da ≠ .none ∧ Q (.bl (PySem.W.dataLt da db)) H
theorem op_ltD (hu : X.A.units + 64 < cLine) : OpR X (compareOp .Lt) (rLtD X.K) := by
  intro pins s σ H x y v u Q I rx ry h
  obtain ⟨d, e, hd, he, sd, al, nn, q⟩ := h
  obtain ⟨as, r1⟩ := Dp.reads I d x v hd rx
  obtain ⟨bs, r2⟩ := Dp.reads I e y u he ry
  have hdp : d.depth ≤ 64 := by
    unfold SeqAt.shaped at sd
    rw [Bool.and_eq_true] at sd
    exact of_decide_eq_true sd.2
  have R := PySem.W.rcLt_alike d e X.A s v u as bs r1 r2 al nn (Nat.lt_of_le_of_lt (Nat.add_le_add_left (Nat.le_trans (Nat.min_le_left _ _) hdp) _) hu)
  have z : wpAny (model X.prog X.w) X.A (compareOp .Lt v u) (EP X pins σ Q) X.xe s := R X.prog X.w X.xe (EP X pins σ Q) ⟨.bl _, H, I, rfl, q⟩
  exact z
/-- what each operator asks, by values -/
def rB (K : PySem.W.Frag) : BOp → R2
  | .add => fun x y H Q => (rI0 (fun i j => .int (i + j)) x y H Q ∨ (∃ i j, x = .str i ∧ y = .str j ∧ i.length + j.length ≤ sizeLine ∧ Q (.str (i ++ j)) H)) ∨ rCat x y H Q
  | .sub => rI0 fun i j => .int (i - j)
  | .mul => fun x y H Q => rI MulOk (fun i j => .int (i * j)) x y H Q ∨ rRep x y H Q
  | .fdiv => rI (fun _ j => DivOk j) fun i j => .int (i.fdiv j)
  | .mod => rI (fun _ j => j ≠ 0) fun i j => .int (i.fmod j)
  | .pow => rI PowOk fun i j => .int (i ^ j.toNat)
  | .shr => rI (fun _ j => 0 ≤ j) fun i j => .int (i / 2 ^ j.toNat)
  | .band => rI0 fun i j => .int (Builtin.bitAnd i j)
  | .eq => rEqD K
  | .ne => rNeD K
  | .lt => fun x y H Q => rI0 (fun i j => .bl (decide (i < j))) x y H Q ∨ rLtD K x y H Q
  | .le => rI0 fun i j => .bl (decide (i ≤ j))
  | .gt => rI0 fun i j => .bl (decide (j < i))
  | .ge => rI0 fun i j => .bl (decide (j ≤ i))
  | .is => fun x y H Q => y = .non ∧ Q (.bl (decide (x = .non))) H
  | .isnot => fun x y H Q => y = .non ∧ Q (.bl (!decide (x = .non))) H
  | .isin => fun x y H Q => rInD K x y H Q ∨ ∃ (c : Nat) (z : Str), x = .str ⟨#[c]⟩ ∧ y = .str z ∧ Q (.bl (decide (c ∈ z.cps.toList))) H
  | .notin => fun x y H Q => rNotInD K x y H Q ∨ ∃ (c : Nat) (z : Str), x = .str ⟨#[c]⟩ ∧ y = .str z ∧ Q (.bl (!decide (c ∈ z.cps.toList))) H
  | .ix => fun x y H Q => (rIxT K x y H Q ∨ rIxL K x y H Q) ∨ rIxS x y H Q
theorem op_bin {o : BOp} {op : Operator} (h : opIs o op = true) : OpR X (binaryOp op) (rB X.K o) := by
  cases o <;> cases op <;> first
    | exact absurd (show false = true from h) Bool.false_ne_true
    | exact (op_add.or op_add_str).or op_cat
    | exact op_sub
    | exact op_mulX.or op_rep
    | exact op_fdivX
    | exact op_modN
    | exact op_powX
    | exact op_shr
    | exact op_and
theorem op_cmp {o : BOp} {op : CmpOp} (hu : X.A.units + 65 < cLine) (h : cmpIs o op = true) : OpR X (compareOp op) (rB X.K o) := by
  cases o <;> cases op <;> first
    | exact absurd (show false = true from h) Bool.false_ne_true
    | exact op_eqD (by omega)
    | exact op_neD (by omega)
    | exact op_lt.or (op_ltD (by omega))
    | exact (op_inD hu).or op_in_sign
    | exact (op_notInD hu).or op_notIn_sign
    | exact op_le
    | exact op_gt
    | exact op_ge
    | exact op_isN
    | exact op_notN
    | exact fun _ _ _ _ _ _ _ _ _ _ _ _ z => z.elim
theorem ix_all : IxR X (rB X.K .ix) := (ix_tup.or ix_list).or ix_str
theorem line16 : (16000000 : Nat) ≤ sizeLine := by rw [sizeLine_eq]; decide
theorem nd_sub {α : Type} {a b : List α} (h : a.Sublist b) (n : b.Nodup) : a.Nodup := n.sublist h
theorem any_pys (u : D) : ∀ ds : List D, (pys ds).any (fun z => PyData.eqv z (py u)) = ds.any fun z => eqD z u
  | [] => rfl
  | d :: ds => by
    rw [show pys (d :: ds) = py d :: pys ds from rfl, List.any_cons, List.any_cons, any_pys u ds]
    rfl
theorem bin_s (o : BOp) : BinS K (rB K.K o) (bopD o) := by
  cases o with
  | add =>
    intro F H x y v w f1 f2 d Q s r1 r2 nd off e k
    cases x <;> cases y <;> try (exact absurd (show (none : Option D) = some d from e) (fun z => nomatch z))
    · cases e
      obtain ⟨rfl, rfl⟩ := r1.int'
      obtain ⟨rfl, rfl⟩ := r2.int'
      exact .inl (.inl ⟨_, _, rfl, rfl, k _ _ _ _ (.flat s (.int _))⟩)
    · obtain ⟨c, e⟩ := chkO_some (show chkO _ _ = some d from e)
      cases e
      obtain ⟨rfl, rfl⟩ := r1.str'
      obtain ⟨rfl, rfl⟩ := r2.str'
      exact .inl (.inr ⟨_, _, rfl, rfl, Nat.le_trans c line16, k _ _ _ _ (.flat s (.str _))⟩)
    · obtain ⟨c, e⟩ := chkO_some (show chkO _ _ = some d from e)
      cases e
      have hs1 := r1.has
      have hs2 := r2.has
      obtain ⟨a, vs, g, rfl, ha, q1, sb1⟩ := r1.lst' s
      obtain ⟨b, ws, g2, rfl, hb, q2, sb2⟩ := r2.lst' s
      refine .inr ⟨a, b, vs, ws, rfl, rfl, ha, hb, ?_, fun p hp => k _ _ _ _ (Out1.list s hp (q1.app q2) (nd_sub (sb1.append sb2) nd) (fun c m => (sb1.append sb2).subset m) off fun c m z => ?_)⟩
      · rw [← q1.length, ← q2.length]
        exact Nat.le_trans c line16
      · rcases List.mem_append.mp m with m | m
        · obtain ⟨xs, h⟩ := hs1 c m; rw [h] at z; cases z
        · obtain ⟨xs, h⟩ := hs2 c m; rw [h] at z; cases z
  | sub => exact bin_I0 (h := fun i j => .int (i - j)) (fun x y d e => by cases x <;> cases y <;> first | (cases e; exact ⟨_, _, rfl, rfl, rfl⟩) | cases e) fun _ _ _ _ => .int _
  | mul =>
    intro F H x y v w f1 f2 d Q s r1 r2 nd off e k
    cases x with
    | int i =>
      cases y <;> try (exact absurd (show (none : Option D) = some d from e) (fun z => nomatch z))
      obtain ⟨c, e⟩ := chkO_some (show chkO _ _ = some d from e)
      cases e
      obtain ⟨rfl, rfl⟩ := r1.int'
      obtain ⟨rfl, rfl⟩ := r2.int'
      exact .inl ⟨_, _, rfl, rfl, c, k _ _ _ _ (.flat s (.int _))⟩
    | lst f xs =>
      cases y <;> try (exact absurd (show (none : Option D) = some d from e) (fun z => nomatch z))
      rename_i j
      obtain ⟨⟨c, cf, cl⟩, e⟩ := chkO_some (show chkO ((0 ≤ j ∧ j ≤ 1000) ∧ (xs.all flatD = true ∧ xs.length ≤ 1000)) _ = some d from e)
      cases e
      have hs1 := r1.has
      obtain ⟨rfl, rfl⟩ := r2.int'
      obtain ⟨a, vs, g, rfl, ha, q1, sb1⟩ := r1.lst' s
      have hg := q1.flats cf
      subst hg
      have hlv : vs.length ≤ 1000 := by rw [← q1.length]; exact cl
      have hn : j.toNat ≤ 1000 := by omega
      refine .inr ⟨a, j, _, rfl, rfl, ha, by omega, by omega, ?_, fun p hp => ?_⟩
      · exact Nat.le_trans (Nat.le_trans (Nat.mul_le_mul hlv hn) (show 1000 * 1000 ≤ 16000000 by decide)) line16
      · have o := Out1.list (K := K) (g := f1 ++ []) s hp (Rs.reps q1 j.toNat) List.nodup_nil (fun c m => absurd m List.not_mem_nil) off fun c m z => by
          rcases List.mem_append.mp m with m | m
          · obtain ⟨xs, h⟩ := hs1 c m; rw [h] at z; cases z
          · cases m
        exact k _ _ _ _ o
    | _ => cases y <;> exact absurd (show (none : Option D) = some d from e) (fun z => nomatch z)
  | fdiv => exact bin_I (h := fun i j => .int (i.fdiv j)) (fun x y d e => by cases x <;> cases y <;> first | (obtain ⟨c, e⟩ := chkO_some (show chkO _ _ = some d from e); cases e; exact ⟨_, _, rfl, rfl, c, rfl⟩) | cases e) fun _ _ _ _ => .int _
  | mod => exact bin_I (h := fun i j => .int (i.fmod j)) (fun x y d e => by cases x <;> cases y <;> first | (obtain ⟨c, e⟩ := chkO_some (show chkO _ _ = some d from e); cases e; exact ⟨_, _, rfl, rfl, c, rfl⟩) | cases e) fun _ _ _ _ => .int _
  | pow => exact bin_I (h := fun i j => .int (i ^ j.toNat)) (fun x y d e => by cases x <;> cases y <;> first | (obtain ⟨c, e⟩ := chkO_some (show chkO _ _ = some d from e); cases e; exact ⟨_, _, rfl, rfl, c, rfl⟩) | cases e) fun _ _ _ _ => .int _
  | shr => exact bin_I (h := fun i j => .int (i / 2 ^ j.toNat)) (fun x y d e => by cases x <;> cases y <;> first | (obtain ⟨c, e⟩ := chkO_some (show chkO _ _ = some d from e); cases e; exact ⟨_, _, rfl, rfl, c, rfl⟩) | cases e) fun _ _ _ _ => .int _
  | band => exact bin_I0 (h := fun i j => .int (Builtin.bitAnd i j)) (fun x y d e => by cases x <;> cases y <;> first | (cases e; exact ⟨_, _, rfl, rfl, rfl⟩) | cases e) fun _ _ _ _ => .int _
  | lt =>
    intro F H x y v w f1 f2 d Q s r1 r2 nd off e k
    cases x <;> cases y <;> try (exact absurd (show (none : Option D) = some d from e) (fun z => nomatch z))
    · cases e
      obtain ⟨rfl, rfl⟩ := r1.int'
      obtain ⟨rfl, rfl⟩ := r2.int'
      exact .inl ⟨_, _, rfl, rfl, k _ _ _ _ (.flat s (.bl _))⟩
    · rename_i xs ys
      obtain ⟨⟨⟨c1, c2⟩, c3⟩, e⟩ := chkO_some (show chkO _ _ = some d from e)
      cases e
      have h1 : cmpOk 60 (.tup xs) = true := c1
      have h2 : cmpOk 60 (.tup ys) = true := c2
      refine .inr ⟨_, _, r1.dp s h1, r2.dp s h2, cmpOk_shaped h1, ?_, (fun z => nomatch z), k _ _ _ _ (.flat s (.bl _))⟩
      show PySem.W.alike (.tuple (pys xs)) (.tuple (pys ys)) = true
      rw [PySem.W.alike]
      exact c3
  | le => exact bin_I0 (h := fun i j => .bl (decide (i ≤ j))) (fun x y d e => by cases x <;> cases y <;> first | (cases e; exact ⟨_, _, rfl, rfl, rfl⟩) | cases e) fun _ _ _ _ => .bl _
  | gt => exact bin_I0 (h := fun i j => .bl (decide (j < i))) (fun x y d e => by cases x <;> cases y <;> first | (cases e; exact ⟨_, _, rfl, rfl, rfl⟩) | cases e) fun _ _ _ _ => .bl _
  | ge => exact bin_I0 (h := fun i j => .bl (decide (j ≤ i))) (fun x y d e => by cases x <;> cases y <;> first | (cases e; exact ⟨_, _, rfl, rfl, rfl⟩) | cases e) fun _ _ _ _ => .bl _
  | eq =>
    intro F H x y v w f1 f2 d Q s r1 r2 nd off e k
    obtain ⟨c, e⟩ := chkO_some (show chkO _ _ = some d from by revert e; unfold bopD; exact id)
    cases e
    exact ⟨_, _, r1.dp s c.1, r2.dp s c.2, cmpOk_shaped c.1, cmpOk_shaped c.2, k _ _ _ _ (.flat s (.bl _))⟩
  | ne =>
    intro F H x y v w f1 f2 d Q s r1 r2 nd off e k
    obtain ⟨c, e⟩ := chkO_some (show chkO _ _ = some d from by revert e; unfold bopD; exact id)
    cases e
    exact ⟨_, _, r1.dp s c.1, r2.dp s c.2, cmpOk_shaped c.1, cmpOk_shaped c.2, k _ _ _ _ (.flat s (.bl _))⟩
  | is =>
    intro F H x y v w f1 f2 d Q s r1 r2 nd off e k
    have hy : y = .non := by cases y <;> first | rfl | (cases x <;> cases e)
    subst hy
    obtain ⟨rfl, rfl⟩ := r2.non'
    have hd : d = .bl (decide (v = .non)) := by cases r1 <;> (cases e; rfl)
    subst hd
    exact ⟨rfl, k _ _ _ _ (.flat s (.bl _))⟩
  | isnot =>
    intro F H x y v w f1 f2 d Q s r1 r2 nd off e k
    have hy : y = .non := by cases y <;> first | rfl | (cases x <;> cases e)
    subst hy
    obtain ⟨rfl, rfl⟩ := r2.non'
    have hd : d = .bl (!decide (v = .non)) := by cases r1 <;> (cases e; rfl)
    subst hd
    exact ⟨rfl, k _ _ _ _ (.flat s (.bl _))⟩
  | ix =>
    intro F H x y v w f1 f2 d Q s r1 r2 nd off e k
    cases x <;> cases y <;> try (exact absurd (show (none : Option D) = some d from e) (fun z => nomatch z))
    · rename_i x i
      obtain ⟨c, e⟩ := chkO_some (show chkO _ _ = some d from e)
      obtain ⟨rfl, rfl⟩ := r1.str'
      obtain ⟨rfl, rfl⟩ := r2.int'
      cases h : atI x.cps.toList i with
      | none => rw [h] at e; cases e
      | some c' =>
        rw [h] at e
        cases e
        exact .inr ⟨_, _, c', rfl, rfl, Nat.le_trans c line16, h, k _ _ _ _ (.flat s (.str _))⟩
    · rename_i ds i
      obtain ⟨a, vs, rfl, ht, q⟩ := r1.tup'
      obtain ⟨rfl, rfl⟩ := r2.int'
      obtain ⟨z, g, e1, rz, sb⟩ := q.at (show atI ds i = some d from e)
      rw [List.append_nil] at nd off k
      exact .inl (.inl ⟨a, vs, i, z, rfl, rfl, ht, e1, k _ _ _ _ (.same s rz (nd_sub sb nd) (fun c m => sb.subset m) off)⟩)
    · rename_i f ds i
      obtain ⟨a, vs, g0, rfl, ht, q, sb0⟩ := r1.lst' s
      obtain ⟨rfl, rfl⟩ := r2.int'
      obtain ⟨z, g, e1, rz, sb⟩ := q.at (show atI ds i = some d from e)
      rw [List.append_nil] at nd off k
      exact .inl (.inr ⟨a, vs, i, z, rfl, rfl, .inl (.inl ht), e1, k _ _ _ _ (.same s rz (nd_sub (sb.trans sb0) nd) (fun c m => (sb.trans sb0).subset m) off)⟩)
    · rename_i ns i
      obtain ⟨a, rfl, ht, rfl⟩ := r1.scr'
      obtain ⟨rfl, rfl⟩ := r2.int'
      have e' : (atI ns i).bind (fun n => some (D.int n)) = some d := e
      cases h : atI ns i with
      | none => rw [h] at e'; cases e'
      | some n =>
        rw [h] at e'
        cases e'
        refine .inl (.inr ⟨a, _, i, .int n, rfl, rfl, Ex.seq s ht, ?_, k _ _ _ _ (.flat s (.int _))⟩)
        unfold atI at h ⊢
        rw [List.length_map]
        cases h2 : ixN ns.length i with
        | none => rw [h2] at h; cases h
        | some j =>
          rw [h2] at h
          show (ns.map V.int)[j]? = _
          rw [List.getElem?_map, show ns[j]? = some n from h]
          rfl
  | isin =>
    intro F H x y v w f1 f2 d Q s r1 r2 nd off e k
    have lstCase : ∀ (f : Fl) (ds : List D), R K F H (.lst f ds) w f2 → chkO (cmpOk 60 x = true ∧ cmpOks 59 ds = true) (some (.bl (ds.any fun z => eqD z x))) = some d → rB K.K .isin v w H Q := fun f ds r2 e => by
      obtain ⟨c, e⟩ := chkO_some e
      cases e
      have h2 : cmpOk 60 (.lst f ds) = true := c.2
      refine .inl ⟨py x, pys ds, r1.dp s c.1, r2.dp s h2, cmpOk_shaped c.1, cmpOk_shaped h2, ?_⟩
      have ec : (pys ds).any (fun z => PyData.eqv z (py x)) = ds.any fun z => eqD z x := any_pys x ds
      rw [ec]
      exact k _ _ _ _ (.flat s (.bl _))
    cases y with
    | lst f ds => exact lstCase f ds r2 (by revert e; cases x <;> exact id)
    | str z =>
      cases x <;> try (exact absurd (show (none : Option D) = some d from e) (fun z => nomatch z))
      rename_i x
      obtain ⟨c, e⟩ := chkO_some (show chkO _ _ = some d from e)
      cases e
      obtain ⟨rfl, rfl⟩ := r1.str'
      obtain ⟨rfl, rfl⟩ := r2.str'
      refine .inr ⟨x.cps.getD 0 0, z, ?_, rfl, k _ _ _ _ (.flat s (.bl _))⟩
      obtain ⟨cs⟩ := x
      obtain ⟨l⟩ := cs
      match l, c with
      | [a], _ => rfl
    | _ => cases x <;> cases e
  | notin =>
    intro F H x y v w f1 f2 d Q s r1 r2 nd off e k
    have lstCase : ∀ (f : Fl) (ds : List D), R K F H (.lst f ds) w f2 → chkO (cmpOk 60 x = true ∧ cmpOks 59 ds = true) (some (.bl (!ds.any fun z => eqD z x))) = some d → rB K.K .notin v w H Q := fun f ds r2 e => by
      obtain ⟨c, e⟩ := chkO_some e
      cases e
      have h2 : cmpOk 60 (.lst f ds) = true := c.2
      refine .inl ⟨py x, pys ds, r1.dp s c.1, r2.dp s h2, cmpOk_shaped c.1, cmpOk_shaped h2, ?_⟩
      have ec : (pys ds).any (fun z => PyData.eqv z (py x)) = ds.any fun z => eqD z x := any_pys x ds
      rw [ec]
      exact k _ _ _ _ (.flat s (.bl _))
    cases y with
    | lst f ds => exact lstCase f ds r2 (by revert e; cases x <;> exact id)
    | str z =>
      cases x <;> try (exact absurd (show (none : Option D) = some d from e) (fun z => nomatch z))
      rename_i x
      obtain ⟨c, e⟩ := chkO_some (show chkO _ _ = some d from e)
      cases e
      obtain ⟨rfl, rfl⟩ := r1.str'
      obtain ⟨rfl, rfl⟩ := r2.str'
      refine .inr ⟨x.cps.getD 0 0, z, ?_, rfl, k _ _ _ _ (.flat s (.bl _))⟩
      obtain ⟨cs⟩ := x
      obtain ⟨l⟩ := cs
      match l, c with
      | [a], _ => rfl
    | _ => cases x <;> cases e
end
end L3

set_option maxRecDepth 100000
set_option maxHeartbeats 2000000
/-! L3.Walk: what a for walks. -/
namespace L3
open PySem PySem.Spec PyProof.Rows L2
variable [TbC]

theorem _root_.L2.PI.imp3 {X : Cx} {tg e : Expr} {t t' : TI} (h : PI X tg e t) (i : ∀ σ H R, t' σ H R → t σ H R) : PI X tg e t' := ⟨fun pins s σ H R I w => h.run pins s σ H R I (i σ H R w)⟩
theorem _root_.L2.PI.or3 {X : Cx} {tg e : Expr} {t t' : TI} (h : PI X tg e t) (h' : PI X tg e t') : PI X tg e (fun σ H R => t σ H R ∨ t' σ H R) :=
  ⟨fun pins s σ H R I w => w.elim (h.run pins s σ H R I) (h'.run pins s σ H R I)⟩
/-- J hands out the items xs while the containers ds stand as vs -/
structure Wk (K : Kx) (ds : List D) (vs : List V) (J : It) (xs : List D) : Prop where
  go : ∀ (F H : Hp) (i : Nat), Ex F H → Rs K F H ds vs [] → i < xs.length → J.go i H
  yld : ∀ (F H : Hp) (i : Nat) (d : D) (x : V) (H' : Hp), Ex F H → Rs K F H ds vs [] → xs[i]? = some d → J.yld i H x H' → Ex H H' ∧ R K F H' d x []
  stop : ∀ (F H : Hp) (i : Nat), Ex F H → Rs K F H ds vs [] → xs.length ≤ i → J.stop i H
section
variable {K : Kx}
theorem Rs.one {F H : Hp} {d : D} {vs : List V} (r : Rs K F H [d] vs []) : ∃ v, vs = [v] ∧ R K F H d v [] := by
  cases hv : vs with
  | nil => rw [hv] at r; cases r
  | cons v t =>
    rw [hv] at r
    generalize hf : ([] : List Addr) = f at r
    cases r with
    | cons h1 h2 =>
      obtain ⟨e1, e2⟩ := List.append_eq_nil_iff.mp hf.symm
      subst e1
      cases h2
      exact ⟨v, rfl, h1⟩
theorem Rs.uncons {F H : Hp} {d : D} {ds : List D} {vs : List V} (r : Rs K F H (d :: ds) vs []) : ∃ v t, vs = v :: t ∧ R K F H d v [] ∧ Rs K F H ds t [] := by
  cases hv : vs with
  | nil => rw [hv] at r; cases r
  | cons v t =>
    rw [hv] at r
    generalize hf : ([] : List Addr) = f at r
    cases r with
    | cons h1 h2 =>
      obtain ⟨e1, e2⟩ := List.append_eq_nil_iff.mp hf.symm
      subst e1
      subst e2
      exact ⟨v, t, rfl, h1, h2⟩
theorem R.lst0 {F H : Hp} {f : Fl} {ds : List D} {v : V} (s : Ex F H) (h : R K F H (.lst f ds) v []) : ∃ a vs, v = .ref a ∧ H a = some (.lst vs) ∧ Rs K F H ds vs [] := by
  obtain ⟨a, vs, g, e, ha, r, sb⟩ := R.lst' s h
  rw [List.sublist_nil.mp sb] at r
  exact ⟨a, vs, e, ha, r⟩
theorem Rs.get0 {F H : Hp} {xs : List D} {vs : List V} {i : Nat} {d : D} (r : Rs K F H xs vs []) (e : xs[i]? = some d) : ∃ v, vs[i]? = some v ∧ R K F H d v [] := by
  obtain ⟨v, g, h1, h2, h3⟩ := r.get e
  rw [List.sublist_nil.mp h3] at h2
  exact ⟨v, h1, h2⟩
theorem getE_lt {α : Type} {xs : List α} {i : Nat} {d : α} (h : xs[i]? = some d) : i < xs.length := (List.getElem?_eq_some_iff.mp h).1
/-- over a list -/
theorem wk_list {F0 H0 : Hp} {f : Fl} {ds : List D} {a : Addr} (s0 : Ex F0 H0) (r0 : R K F0 H0 (.lst f ds) (.ref a) []) : Wk K [.lst f ds] [.ref a] (Itl K.K a) ds := by
  have get : ∀ (F H : Hp), Ex F H → Rs K F H [.lst f ds] [.ref a] [] → ∃ vs, H a = some (.lst vs) ∧ Rs K F H ds vs [] := fun F H s r => by
    obtain ⟨v, e, r⟩ := r.one
    cases e
    obtain ⟨b, vs, e, h1, h2⟩ := R.lst0 s r
    cases e
    exact ⟨vs, h1, h2⟩
  refine ⟨fun F H i s r hi => ?_, fun F H i d x H' s r hd y => ?_, fun F H i s r hi => ?_⟩
  · obtain ⟨vs, h1, h2⟩ := get F H s r
    obtain ⟨v, e, _⟩ := h2.get0 (List.getElem?_eq_getElem hi)
    exact ⟨vs, v, .inl (.inl h1), e⟩
  · obtain ⟨vs, h1, h2⟩ := get F H s r
    obtain ⟨v, e, rv⟩ := h2.get0 hd
    obtain ⟨rfl, y⟩ := y
    have q := y vs (.inl (.inl h1))
    rw [e] at q
    cases q
    exact ⟨Ex.refl _, rv⟩
  · obtain ⟨vs, h1, h2⟩ := get F H s r
    exact ⟨vs, .inl (.inl h1), by rw [← h2.length]; exact hi⟩
theorem R.tup0 {F H : Hp} {ds : List D} {a : Addr} (h : R K F H (.tup ds) (.ref a) []) : ∃ vs, SqT K.K H a vs ∧ Rs K F H ds vs [] := by
  obtain ⟨b, vs, e, t, r⟩ := h.tup'
  cases e
  exact ⟨vs, t, r⟩
theorem wk_tup {ds : List D} {a : Addr} : Wk K [.tup ds] [.ref a] (Itt K.K a) ds := by
  have get : ∀ (F H : Hp), Rs K F H [.tup ds] [.ref a] [] → ∃ vs, SqT K.K H a vs ∧ Rs K F H ds vs [] := fun F H r => by
    obtain ⟨v, e, r⟩ := r.one
    cases e
    exact r.tup0
  refine ⟨fun F H i s r hi => ?_, fun F H i d x H' s r hd y => ?_, fun F H i s r hi => ?_⟩
  · obtain ⟨vs, h1, h2⟩ := get F H r
    obtain ⟨v, e, _⟩ := h2.get0 (List.getElem?_eq_getElem hi)
    exact ⟨vs, v, h1, e⟩
  · obtain ⟨vs, h1, h2⟩ := get F H r
    obtain ⟨v, e, rv⟩ := h2.get0 hd
    obtain ⟨rfl, y⟩ := y
    have q := y vs h1
    rw [e] at q
    cases q
    exact ⟨Ex.refl _, rv⟩
  · obtain ⟨vs, h1, h2⟩ := get F H r
    exact ⟨vs, h1, by rw [← h2.length]; exact hi⟩
theorem wk_str {x : Str} {vs : List V} : Wk K [.str x] vs (Its x) (x.cps.toList.map fun c => .str ⟨#[c]⟩) := by
  refine ⟨fun F H i s r hi => ?_, fun F H i d v H' s r hd y => ?_, fun F H i s r hi => ?_⟩
  · show i < x.cps.size
    simpa using hi
  · obtain ⟨rfl, c, hc, rfl⟩ := y
    rw [List.getElem?_map, Array.getElem?_toList, hc] at hd
    cases hd
    exact ⟨Ex.refl _, .str _⟩
  · show x.cps.size ≤ i
    simpa using hi
theorem wk_rng {ds : List D} {vs : List V} {lo : Int} {n : Nat} : Wk K ds vs (Itr lo n) ((List.range n).map fun (k : Nat) => .int (lo + (k : Int))) := by
  refine ⟨fun F H i s r hi => ?_, fun F H i d v H' s r hd y => ?_, fun F H i s r hi => ?_⟩
  · show i < n
    simpa using hi
  · obtain ⟨rfl, rfl⟩ := y
    have hi : i < n := by simpa using getE_lt hd
    rw [List.getElem?_map, List.getElem?_range hi] at hd
    cases hd
    exact ⟨Ex.refl _, .int _⟩
  · show n ≤ i
    simpa using hi
theorem wk_rng0 {ds : List D} {vs : List V} {n : Nat} : Wk K ds vs (Itr 0 n) ((List.range n).map fun (k : Nat) => .int (k : Int)) := by
  have h := wk_rng (K := K) (ds := ds) (vs := vs) (lo := 0) (n := n)
  have e : (fun (k : Nat) => D.int (0 + (k : Int))) = fun (k : Nat) => D.int (k : Int) := by funext k; rw [Int.zero_add]
  rw [e] at h
  exact h
theorem wk_rngC {ds : List D} {vs : List V} {lo c : Int} {n : Nat} : Wk K ds vs (Itc lo c n) ((List.range n).map fun (k : Nat) => .int (lo + (k : Int) * c)) := by
  refine ⟨fun F H i s r hi => ?_, fun F H i d v H' s r hd y => ?_, fun F H i s r hi => ?_⟩
  · show i < n
    simpa using hi
  · obtain ⟨rfl, rfl⟩ := y
    have hi : i < n := by simpa using getE_lt hd
    rw [List.getElem?_map, List.getElem?_range hi] at hd
    cases hd
    exact ⟨Ex.refl _, .int _⟩
  · show n ≤ i
    simpa using hi
theorem enmD_get : ∀ (ds : List D) (k i : Nat), (enmD k ds)[i]? = (ds[i]?).map fun d => .tup [.int ((k + i : Nat) : Int), d]
  | [], k, i => by simp [enmD]
  | d :: ds, k, 0 => by simp [enmD]
  | d :: ds, k, i + 1 => by
    show (enmD (k + 1) ds)[i]? = (ds[i]?).map _
    rw [enmD_get ds (k + 1) i, show k + 1 + i = k + (i + 1) by omega]
theorem enmD_length : ∀ (ds : List D) (k : Nat), (enmD k ds).length = ds.length
  | [], _ => rfl
  | d :: ds, k => by simp [enmD, enmD_length ds]
theorem wk_enm {f : Fl} {ds : List D} {a : Addr} : Wk K [.lst f ds] [.ref a] (Ite K.K a) (enmD 0 ds) := by
  have get : ∀ (F H : Hp), Ex F H → Rs K F H [.lst f ds] [.ref a] [] → ∃ vs, H a = some (.lst vs) ∧ Rs K F H ds vs [] := fun F H s r => by
    obtain ⟨v, e, r⟩ := r.one
    cases e
    obtain ⟨b, vs, e, h1, h2⟩ := R.lst0 s r
    cases e
    exact ⟨vs, h1, h2⟩
  refine ⟨fun F H i s r hi => ?_, fun F H i d x H' s r hd y => ?_, fun F H i s r hi => ?_⟩
  · rw [enmD_length] at hi
    obtain ⟨vs, h1, h2⟩ := get F H s r
    obtain ⟨v, e, _⟩ := h2.get0 (List.getElem?_eq_getElem hi)
    exact ⟨vs, v, .inl (.inl h1), e⟩
  · obtain ⟨vs, h1, h2⟩ := get F H s r
    rw [enmD_get] at hd
    cases hz : ds[i]? with
    | none => rw [hz] at hd; cases hd
    | some z =>
      rw [hz] at hd
      cases hd
      obtain ⟨v, e, rv⟩ := h2.get0 hz
      obtain ⟨T, w, rfl, hT, rfl, y⟩ := y
      have q := y vs (.inl (.inl h1))
      rw [e] at q
      cases q
      refine ⟨Ex.new hT, .tup (.inl (.inl upd_same)) ?_⟩
      rw [Nat.zero_add]
      exact .cons (f1 := []) (.int _) (.cons (f1 := []) (f2 := []) (rv.mono (Ex.refl _) (Ex.new hT)) .nil)
  · rw [enmD_length] at hi
    obtain ⟨vs, h1, h2⟩ := get F H s r
    exact ⟨vs, .inl (.inl h1), by rw [← h2.length]; exact hi⟩
theorem zipD_get : ∀ (xs ys : List D) (i : Nat) (d : D), (zipD xs ys)[i]? = some d → ∃ x y, xs[i]? = some x ∧ ys[i]? = some y ∧ d = .tup [x, y]
  | [], _, i, d, h => by simp [zipD] at h
  | x :: xs, [], i, d, h => by simp [zipD] at h
  | x :: xs, y :: ys, 0, d, h => by
    simp [zipD] at h
    exact ⟨x, y, rfl, rfl, h.symm⟩
  | x :: xs, y :: ys, i + 1, d, h => by
    obtain ⟨a, b, h1, h2, h3⟩ := zipD_get xs ys i d (by simpa [zipD] using h)
    exact ⟨a, b, by simpa using h1, by simpa using h2, h3⟩
theorem zipD_length : ∀ (xs ys : List D), (zipD xs ys).length = min xs.length ys.length
  | [], _ => by simp [zipD]
  | x :: xs, [] => by simp [zipD]
  | x :: xs, y :: ys => by simp only [zipD, List.length_cons, zipD_length xs ys]; omega
theorem wk_zip {f g : Fl} {ds es : List D} {a b : Addr} : Wk K [.lst f ds, .lst g es] [.ref a, .ref b] (Itz K.K a b) (zipD ds es) := by
  have get : ∀ (F H : Hp), Ex F H → Rs K F H [.lst f ds, .lst g es] [.ref a, .ref b] [] → ∃ vs ws, H a = some (.lst vs) ∧ Rs K F H ds vs [] ∧ H b = some (.lst ws) ∧ Rs K F H es ws [] := fun F H s r => by
    obtain ⟨v, t, e, r1, r2⟩ := r.uncons
    cases e
    obtain ⟨v, e, r2⟩ := r2.one
    cases e
    obtain ⟨_, vs, e, h1, h2⟩ := R.lst0 s r1
    cases e
    obtain ⟨_, ws, e, h3, h4⟩ := R.lst0 s r2
    cases e
    exact ⟨vs, ws, h1, h2, h3, h4⟩
  refine ⟨fun F H i s r hi => ?_, fun F H i d x H' s r hd y => ?_, fun F H i s r hi => ?_⟩
  · rw [zipD_length] at hi
    obtain ⟨vs, ws, h1, h2, h3, h4⟩ := get F H s r
    obtain ⟨v, e, _⟩ := h2.get0 (List.getElem?_eq_getElem (show i < ds.length by omega))
    obtain ⟨w, e', _⟩ := h4.get0 (List.getElem?_eq_getElem (show i < es.length by omega))
    exact ⟨vs, ws, v, w, .inl (.inl h1), .inl (.inl h3), e, e'⟩
  · obtain ⟨vs, ws, h1, h2, h3, h4⟩ := get F H s r
    obtain ⟨p, q, hp, hq, rfl⟩ := zipD_get _ _ _ _ hd
    obtain ⟨v, e, rv⟩ := h2.get0 hp
    obtain ⟨w, e', rw'⟩ := h4.get0 hq
    obtain ⟨T, u1, u2, rfl, hT, rfl, y1, y2⟩ := y
    have q1 := y1 vs (.inl (.inl h1))
    rw [e] at q1
    cases q1
    have q2 := y2 ws (.inl (.inl h3))
    rw [e'] at q2
    cases q2
    refine ⟨Ex.new hT, .tup (.inl (.inl upd_same)) ?_⟩
    exact .cons (f1 := []) (rv.mono (Ex.refl _) (Ex.new hT)) (.cons (f1 := []) (f2 := []) (rw'.mono (Ex.refl _) (Ex.new hT)) .nil)
  · rw [zipD_length] at hi
    obtain ⟨vs, ws, h1, h2, h3, h4⟩ := get F H s r
    exact ⟨vs, ws, .inl (.inl h1), .inl (.inl h3), by rw [← h2.length, ← h4.length]; omega⟩
end
/-- behind the containers' evaluation -/
def rIt (K : PySem.W.Frag) (k : ItK) (vs : List V) (H : Hp) (R : It → Hp → Prop) : Prop := match k with
  | .sql => ∃ a, vs = [.ref a] ∧ (∃ xs, SqL K H a xs) ∧ R (Itl K a) H
  | .sqt => ∃ a, vs = [.ref a] ∧ (∃ xs, SqT K H a xs) ∧ R (Itt K a) H
  | .sqs => ∃ x, vs = [.str x] ∧ R (Its x) H
  | .rng1 => ∃ j : Int, vs = [.int j] ∧ -(2 ^ 62) ≤ j ∧ j < 2 ^ 62 ∧ R (Itr 0 j.toNat) H
  | .rng2 => ∃ i j : Int, vs = [.int i, .int j] ∧ (-(2 ^ 62) ≤ i ∧ i < 2 ^ 62 ∧ -(2 ^ 62) ≤ j ∧ j < 2 ^ 62) ∧ R (Itr i (j - i).toNat) H
  | .rng3 => ∃ (i j c : Int) (n : Nat), vs = [.int i, .int j, .int c] ∧ RgC i j c n ∧ R (Itc i c n) H
  | .enm => ∃ a xs, vs = [.ref a] ∧ SqL K H a xs ∧ R (Ite K a) H
  | .zip => ∃ a b xs ys, vs = [.ref a, .ref b] ∧ SqL K H a xs ∧ SqL K H b ys ∧ R (Itz K a b) H
theorem rgC_of {a b c : Int} (h : c ≠ 0 ∧ c.natAbs < 1073741824 ∧ Builtin.Range.small a b c = true) : RgC a b c (Builtin.Range.rangeSize a b c).toNat := by
  refine ⟨h.1, h.2.1, h.2.2, ?_⟩
  have z : 0 ≤ Builtin.Range.rangeSize a b c := by
    unfold Builtin.Range.rangeSize
    split
    · split
      · have := Int.ediv_nonneg (show 0 ≤ b - a - 1 by omega) (show 0 ≤ c by omega)
        omega
      · omega
    · split
      · have := Int.ediv_nonneg (show 0 ≤ a - b - 1 by omega) (show 0 ≤ -c by omega)
        omega
      · omega
  exact (Int.toNat_of_nonneg z).symm
/-- the items are what is handed out -/
theorem rIt_of {K : Kx} {F H : Hp} {k : ItK} {ds xs : List D} {vs : List V} {R' : It → Hp → Prop} (s : Ex F H) (r : Rs K F H ds vs []) (e : items k ds = some xs) (h : ∀ J, Wk K ds vs J xs → R' J H) : rIt K.K k vs H R' := by
  cases k with
  | sql =>
    rcases ds with _ | ⟨d, _ | ⟨d2, t⟩⟩
    · cases e
    · obtain ⟨v, rfl, r1⟩ := r.one
      cases d <;> try (exact absurd (show (none : Option (List D)) = some xs from e) (fun z => nomatch z))
      rename_i f ds
      cases (show some ds = some xs from e)
      obtain ⟨a, ws, rfl, h1, h2⟩ := R.lst0 s r1
      exact ⟨a, rfl, ⟨ws, .inl (.inl h1)⟩, h _ (wk_list s r1)⟩
    · cases d <;> cases e
  | sqt =>
    rcases ds with _ | ⟨d, _ | ⟨d2, t⟩⟩
    · cases e
    · obtain ⟨v, rfl, r1⟩ := r.one
      cases d <;> try (exact absurd (show (none : Option (List D)) = some xs from e) (fun z => nomatch z))
      rename_i ds
      cases (show some ds = some xs from e)
      obtain ⟨a, ws, rfl, h1, h2⟩ := r1.tup'
      exact ⟨a, rfl, ⟨ws, h1⟩, h _ wk_tup⟩
    · cases d <;> cases e
  | sqs =>
    rcases ds with _ | ⟨d, _ | ⟨d2, t⟩⟩
    · cases e
    · obtain ⟨v, rfl, r1⟩ := r.one
      cases d <;> try (exact absurd (show (none : Option (List D)) = some xs from e) (fun z => nomatch z))
      rename_i x
      obtain ⟨c, e⟩ := chkO_some (show chkO _ _ = some xs from e)
      cases e
      obtain ⟨rfl, _⟩ := r1.str'
      exact ⟨x, rfl, h _ wk_str⟩
    · cases d <;> cases e
  | rng1 =>
    rcases ds with _ | ⟨d, _ | ⟨d2, t⟩⟩
    · cases e
    · cases d <;> try (exact absurd (show (none : Option (List D)) = some xs from e) (fun z => nomatch z))
      obtain ⟨v, rfl, r1⟩ := r.one
      obtain ⟨c, e⟩ := chkO_some (show chkO _ _ = some xs from e)
      cases e
      obtain ⟨rfl, _⟩ := r1.int'
      exact ⟨_, rfl, c.1, c.2, h _ wk_rng0⟩
    · cases d <;> cases e
  | rng2 =>
    rcases ds with _ | ⟨d, _ | ⟨d2, _ | ⟨d3, t⟩⟩⟩
    · cases e
    · cases d <;> cases e
    · cases d <;> cases d2 <;> try (exact absurd (show (none : Option (List D)) = some xs from e) (fun z => nomatch z))
      obtain ⟨v, t, rfl, r1, r2⟩ := r.uncons
      obtain ⟨v2, rfl, q2⟩ := r2.one
      obtain ⟨c, e⟩ := chkO_some (show chkO _ _ = some xs from e)
      cases e
      obtain ⟨rfl, _⟩ := r1.int'
      obtain ⟨rfl, _⟩ := q2.int'
      exact ⟨_, _, rfl, c, h _ wk_rng⟩
    · cases d <;> cases d2 <;> cases e
  | rng3 =>
    rcases ds with _ | ⟨d, _ | ⟨d2, _ | ⟨d3, _ | ⟨d4, t⟩⟩⟩⟩
    · cases e
    · cases d <;> cases e
    · cases d <;> cases d2 <;> cases e
    · cases d <;> cases d2 <;> cases d3 <;> try (exact absurd (show (none : Option (List D)) = some xs from e) (fun z => nomatch z))
      obtain ⟨v, t, rfl, r1, r2⟩ := r.uncons
      obtain ⟨v2, t, rfl, q2, r3⟩ := r2.uncons
      obtain ⟨v3, rfl, q3⟩ := r3.one
      obtain ⟨c, e⟩ := chkO_some (show chkO _ _ = some xs from e)
      cases e
      obtain ⟨rfl, _⟩ := r1.int'
      obtain ⟨rfl, _⟩ := q2.int'
      obtain ⟨rfl, _⟩ := q3.int'
      exact ⟨_, _, _, _, rfl, rgC_of c, h _ wk_rngC⟩
    · cases d <;> cases d2 <;> cases d3 <;> cases e
  | enm =>
    rcases ds with _ | ⟨d, _ | ⟨d2, t⟩⟩
    · cases e
    · cases d <;> try (exact absurd (show (none : Option (List D)) = some xs from e) (fun z => nomatch z))
      obtain ⟨v, rfl, r1⟩ := r.one
      cases e
      obtain ⟨a, ws, rfl, h1, h2⟩ := R.lst0 s r1
      exact ⟨a, ws, rfl, .inl (.inl h1), h _ wk_enm⟩
    · cases d <;> cases e
  | zip =>
    rcases ds with _ | ⟨d, _ | ⟨d2, _ | ⟨d3, t⟩⟩⟩
    · cases e
    · cases d <;> cases e
    · cases d <;> cases d2 <;> try (exact absurd (show (none : Option (List D)) = some xs from e) (fun z => nomatch z))
      obtain ⟨v, t, rfl, r1, r2⟩ := r.uncons
      obtain ⟨v2, rfl, q2⟩ := r2.one
      obtain ⟨c, e⟩ := chkO_some (show chkO _ _ = some xs from e)
      cases e
      obtain ⟨a, ws, rfl, h1, h2⟩ := R.lst0 s r1
      obtain ⟨b, us, rfl, h3, h4⟩ := R.lst0 s q2
      exact ⟨a, b, ws, us, rfl, .inl (.inl h1), .inl (.inl h3), h _ wk_zip⟩
    · cases d <;> cases d2 <;> cases e
end L3

set_option maxRecDepth 100000
set_option maxHeartbeats 2000000
/-! L3.Sound: an expression of the text does what the small language says. -/
namespace L3
open PySem PySem.Spec PyProof.Rows L2
variable [TbC]

/-- a built-in type's name -/
def tyS (c : Str) : String := if c = "int" then "int" else if c = "bool" then "bool" else if c = "str" then "str" else if c = "tuple" then "tuple" else "list"
/-- no error is held -/
def xi0 : Xi := ⟨fun _ _ => False, fun _ _ _ => False, fun _ h => h, [], fun p m => absurd m List.not_mem_nil⟩
/-- a def's promise: it looks at its arguments alone; what it hands back is new, or shared with what stands still -/
def spP (K : PySem.W.Frag) (mg : Str → Option Value) (ar : Nat) (g : List D → Res D) : Sp := fun vs H Q E => vs.length = ar ∧ NdefX.TabsN TbC.T H ∧ ∃ F ds, Ex F H ∧ Rs ⟨K, xi0⟩ F H ds vs [] ∧ allfzs ds = true ∧
  match g ds with
  | .ok d => ∀ v H' F' fr, Out1 ⟨K, xi0⟩ F H [] F' H' d v fr → nopk d = true → Q v H'
  | .ex n => ∀ C H', mg n = some (.ref C) → Ex H H' → E (.ref C) none H'
  | .no => False
structure CallOk (X : Cx) (c : Callee) : Prop where
  ex : ∃ k f fd ps, FnOk X.prog X.w X.K X.mg X.base (L2.CX X.prog X.w) k f fd ps (spP X.K X.mg c.ar c.g) ∧ Room k X.A ∧ X.mg c.name = some (.ref f) ∧ PySem.W.keepIn X.K (.ref f) = true ∧ Binds X.K fd ps []
def bltL : List Str := ["len", "sum", "max", "min", "abs", "int", "list", "sorted", "str", "all", "range", "enumerate", "zip", "isinstance", "bool", "tuple", "reversed", "set"]
/-- a class by its name -/
def IsCls (xs : List Str) (X : Cx) (x : Str) (v : V) : Prop := (tyNames.contains x = true ∧ v = .ty (tyS x)) ∨ (tyNames.contains x = false ∧ x = "ValueError" ∧ v = .ty "ValueError") ∨ (tyNames.contains x = false ∧ x ≠ "ValueError" ∧ x ∈ xs ∧ ∃ C, v = .ref C ∧ X.mg x = some (.ref C))
/-- isinstance of a caught error -/
def rIsX (es : List Str) (X : Cx) (n : Str) (a : Addr) : List V → Hp → VK → Prop := fun xs H Q => (∃ w cv, xs = [.ref a, cv] ∧ IsCls es X w cv ∧ Q (.bl (subX n w)) H) ∨
  ∃ tp ws cvs, xs = [.ref a, .ref tp] ∧ H tp = some (.tup cvs) ∧ Paired (fun v w => IsCls es X w v) cvs ws ∧ Q (.bl (ws.any (subX n))) H
/-- the names of the functions made in a def, by their places -/
def nmOf (l : List ((Nat × Nat) × Str)) (a b : Nat) : Str := (l.lookup (a, b)).getD ""
/-- a function handed over, called -/
def rClo (g : Int → Int → Option Bool) (F : Hp) : List V → Hp → VK → Prop := fun vs H Q => Ex F H ∧ ∃ i j b, vs = [.int i, .int j] ∧ g i j = some b ∧ ∀ H', Ex H H' → Q (.bl b) H'
/-- the functions made in X, called by what X calls from the state s -/
def CloAt (X : Cx) (s : Shared) (H : Hp) (xi : Xi) (lf : Nat → Int → Int → Option Bool) : Prop :=
  ∀ n a F, xi.fo n a F → (∃ N, H a = some (NdefX.FnO a N)) ∧ ∀ (N : List Str) (q : Str) (sc : Scope) (g : Addr) (cdv : Value) (E : XK), CallR (cxOf (L2.CX X.prog X.w) X.prog X.w X.K X.mg X.base N q sc g cdv X.A X.stack s H E) (.ref a) (rClo (lf n) H)
/-- the promise of a def that is handed functions, told of the very state -/
def spV (K : PySem.W.Frag) (xi : Xi) (mg : Str → Option Value) (ar : Nat) (g : List D → Res D) : Sp := fun vs H Q E => vs.length = ar ∧ NdefX.TabsN TbC.T H ∧ ∃ ds, Rs ⟨K, xi⟩ H H ds vs [] ∧ allfzs ds = true ∧
  match g ds with
  | .ok d => ownD d = true ∧ ∀ v H' fr, Ex H H' → (∀ x F, R ⟨K, x⟩ F H' d v fr) → fr.Nodup → (∀ a ∈ fr, H a = none) → nopk d = true → Q v H'
  | .ex n => ∀ C H', mg n = some (.ref C) → Ex H H' → E (.ref C) none H'
  | .no => False
def VisAt (X : Cx) (vi : Visit) : Prop := ∃ f, X.mg vi.name = some (.ref f) ∧ PySem.W.keepIn X.K (.ref f) = true ∧
  ∀ (pins : List (Addr × Obj)) (σ : L2.St) (H : Hp) (s : Shared) (us : List Value) (vs : List V) (xi : Xi) (lf : Nat → Int → Int → Option Bool) (Q : VK) (E : XK), Inv X pins σ H s → Vals vs us → CloAt X s H xi lf → (∀ a n, ¬ xi.ex a n) → spV X.K xi X.mg vi.ar (vi.g lf) vs H Q E →
    codeAny (model X.prog X.w) X.A (.call (.ref f) ⟨us, []⟩) (CR (L2.CX X.prog X.w) X.stack X.prog X.w H s Q E) s
/-- a thing that stands for itself, and its value -/
def FlatV (d : D) (v : V) : Prop := flatD d = true ∧ ∀ (Kx : Kx) (F H : Hp), R Kx F H d v []
/-- what a dict holds: m tells it by two numbers -/
def DicAt (K : PySem.W.Frag) (F : Hp) (kvs : List (List Key × V)) (m : Int → Int → Option D) : Prop := ∀ i j, match m i j with
  | none => valV kvs [.inl i, .inl j] = none
  | some d => ∃ x y vx vy t, d = .tup [x, y] ∧ FlatV x vx ∧ FlatV y vy ∧ valV kvs [.inl i, .inl j] = some (.ref t) ∧ SqT K F t [vx, vy]
/-- a place of the text -/
structure Good (c : Cc) (G : Tab) (xi : Xi) (W : WX) (X : Cx) : Prop where
  N : X.N = c.N
  sc : X.env.scope = c.sc
  nd : X.N.Nodup
  cm : c.cm = true → X.calm = true
  hu : X.A.units + 70 < cLine
  blt : ∀ x ∈ bltL, X.mg x = none
  fns : c.fns = G.fns.map (·.name)
  csts : c.csts = G.cst.map (·.1)
  calls : ∀ cl ∈ G.fns, xi = xi0 ∧ CallOk X cl
  glo : ∀ p ∈ G.cst, ∃ u v, X.mg p.1 = some u ∧ RelV v u ∧ ∀ F H, R ⟨X.K, xi⟩ F H p.2 v []
  tk : Takes X W
  exs : ∀ x ∈ c.exs, ∃ C, X.mg x = some (.ref C)
  vae : X.mg "ValueError" = none
  isx : ∀ a n, xi.ex a n → CallR X (.builtin "isinstance") (rIsX c.exs X n a)
  xno : c.cm = true → ∀ a n, ¬ xi.ex a n
  clo : c.clo = true → ∀ n a F, xi.fo n a F → (∃ N, F a = some (NdefX.FnO a N)) ∧ CallR X (.ref a) (rClo (G.lf n) F)
  vst : ∀ x, c.vis = some x → ∃ vi, G.vis = some vi ∧ vi.name = x ∧ VisAt X vi
  xnv : c.vis ≠ none → ∀ a n, ¬ xi.ex a n
  mkc : c.vis ≠ none → ∀ pins σ H s env F fp, Inv X pins σ H s → Wd ⟨X.K, xi⟩ F H env σ fp → CloAt X s H xi fun n => G.cl n env
  fnc : ∀ x, (c.cel || c.own x) = true → X.fn x = true
  dik : c.dic = true → ∀ n a F, xi.fo n a F → ∃ kvs, (a, HO.dT kvs) ∈ xi.obs ∧ DicAt X.K F kvs G.dk
  z : c.z = true → xi = xi0
section
variable {c : Cc} {G : Tab} {xi : Xi} {W : WX} {X : Cx}
theorem Good.vis (g : Good c G xi W X) {i : Nat} {x : Str} (h : visC c i x = true) : X.N[i]? = some x ∧ Vis X.env.scope x ∧ (x == ("__debug__" : Str)) = false ∧ (x == ("__classdict__" : Str)) = false := by
  unfold visC at h
  simp only [Bool.and_eq_true, beq_iff_eq, Bool.not_eq_true'] at h
  obtain ⟨⟨⟨h1, h2⟩, h3⟩, h4⟩ := h
  refine ⟨by rw [g.N]; exact h1, ?_, h3, h4⟩
  unfold Vis
  rw [g.sc]
  unfold isVis at h2
  split at h2 <;> first
    | (rename_i e; exact .inl e)
    | (rename_i e; exact .inr (.inl e))
    | (rename_i e; exact .inr (.inr e))
    | cases h2
theorem Good.gl (g : Good c G xi W X) {x : Str} (h : glbC c x = true) : Gl X x ∧ (x == ("__debug__" : Str)) = false ∧ x ≠ "__name__" := by
  unfold glbC at h
  simp only [Bool.and_eq_true, beq_iff_eq, Bool.not_eq_true'] at h
  obtain ⟨⟨h1, h2⟩, h3⟩ := h
  refine ⟨?_, h2, fun e => ?_⟩
  · show X.env.scope.names.lookup x = some .globalImplicit
    rw [g.sc]
    exact h1
  · rw [e] at h3
    simp at h3
theorem Good.blt' (g : Good c G xi W X) {x : Str} (h : x ∈ bltL) : X.mg x = none := g.blt x h

/-! ### evaluated lists -/
theorem Outs.comp {K : Kx} {F H F1 H1 F2 H2 : Hp} {fr : List Addr} {ds : List D} {vs : List V} (eH : Ex H H1) (eF : Ex F F1) (new : ∀ a, F a = none → F1 a ≠ none → H a = none)
    (o : Outs K F1 H1 [] F2 H2 ds vs fr) : Outs K F H [] F2 H2 ds vs fr := by
  refine ⟨eH.trans o.eH, eF.trans o.eF, o.sub, fun a h1 h2 => ?_, o.r, o.nd, fun a m => .inr ?_, o.off⟩
  · cases e : F1 a with
    | none => exact Ex.free eH (o.new a e h2)
    | some u => exact new a h1 (by rw [e]; exact fun q => nomatch q)
  · exact Ex.free eH ((o.fresh a m).resolve_left List.not_mem_nil)
theorem rd_cons {mg : Str → Option Value} {K : Kx} {a : Exp} {r : Exps} {σ : L2.St} {H : Hp} {Q : List V → Hp → Prop} (h : rdA K mg W G (.cons a r) σ H Q) : tCons (rdE K mg W G a) (rdA K mg W G r) σ H Q := by
  obtain ⟨env, F, fp, w, h⟩ := h
  rw [evs] at h
  refine ⟨env, F, fp, w, ?_⟩
  cases ea : ev G a env with
  | no => rw [ea] at h; exact h
  | ex n => rw [ea] at h; exact h
  | ok x =>
    intro v H1 F1 f1 o1
    refine ⟨env, F1, fp, w.next o1.eH o1.eF o1.sub o1.new, ?_⟩
    rw [ea] at h
    cases eb : evs G r env with
    | no => rw [Res.bind_ok, eb] at h; exact h
    | ex n => rw [Res.bind_ok, eb] at h; exact Rai.mono h o1.eH
    | ok ys =>
      intro us H2 F2 f2 o2
      rw [Res.bind_ok, eb] at h
      have fr1 : ∀ a ∈ f1, H a = none := fun a m => (o1.fresh a m).resolve_left List.not_mem_nil
      have fr2 : ∀ a ∈ f2, H1 a = none := fun a m => (o2.fresh a m).resolve_left List.not_mem_nil
      have has1 := o1.r.has
      refine h (v :: us) H2 F2 (f1 ++ f2) ⟨o1.eH.trans o2.eH, o1.eF.trans o2.eF, o2.sub, fun a h1 h2 => ?_, .cons (o1.r.mono o2.eF o2.eH) o2.r, ?_, fun a m => .inr ?_, fun a m => ?_⟩
      · cases e : F1 a with
        | none => exact Ex.free o1.eH (o2.new a e h2)
        | some u => exact o1.new a h1 (by rw [e]; exact fun q => nomatch q)
      · refine List.nodup_append.mpr ⟨o1.nd, o2.nd, fun a m b m2 e => ?_⟩
        subst e
        obtain ⟨xs, q⟩ := has1 a m
        rw [fr2 a m2] at q
        cases q
      · rcases List.mem_append.mp m with m | m
        · exact fr1 a m
        · exact Ex.free o1.eH (fr2 a m)
      · rcases List.mem_append.mp m with m | m
        · cases e : F2 a with
          | none => rfl
          | some o =>
            obtain ⟨xs, q⟩ := has1 a m
            have z := o2.new a (o1.off a m) (by rw [e]; exact fun q => nomatch q)
            rw [q] at z
            cases z
        · exact o2.off a m
theorem rd_nil {mg : Str → Option Value} {K : Kx} {σ : L2.St} {H : Hp} {Q : List V → Hp → Prop} (h : rdA K mg W G .nil σ H Q) : tNil σ H Q := by
  obtain ⟨env, F, fp, w, h⟩ := h
  exact h [] H F [] ⟨Ex.refl _, Ex.refl _, w.sub, fun a h1 h2 => absurd h1 h2, .nil, List.nodup_nil, fun a m => absurd m List.not_mem_nil, fun a m => absurd m List.not_mem_nil⟩
/-- something made of an evaluated list -/
theorem rd_args {mg : Str → Option Value} {K : Kx} {es : Exps} {f : List D → Res D} {σ : L2.St} {H : Hp} {Q : VK} {P : List V → Hp → Prop} {env : Env} {F : Hp} {fp : List Addr} (w : Wd K F H env σ fp)
    (h : match (evs G es env).bind f with
      | .ok d => ∀ v H' F' fr, Out1 K F H [] F' H' d v fr → Q v H'
      | .ex n => Rai mg W n σ H
      | .no => False)
    (k : ∀ ds vs H1 F1 f1, Outs K F H [] F1 H1 ds vs f1 → (match f ds with
      | .ok d => ∀ v H' F' fr, Out1 K F1 H1 f1 F' H' d v fr → Q v H'
      | .ex n => Rai mg W n σ H1
      | .no => False) → P vs H1) : rdA K mg W G es σ H P := by
  refine ⟨env, F, fp, w, ?_⟩
  cases ea : evs G es env with
  | no => rw [ea] at h; exact h
  | ex n => rw [ea] at h; exact h
  | ok ds =>
    intro vs H1 F1 f1 o
    rw [ea, Res.bind_ok] at h
    refine k ds vs H1 F1 f1 o ?_
    cases ef : f ds with
    | no => rw [ef] at h; exact h
    | ex n => rw [ef] at h; exact Rai.mono h o.eH
    | ok d =>
      rw [ef] at h
      exact fun v H' F' fr q => h v H' F' fr (q.comp o.eH o.eF o.sub o.new fun a m => (o.fresh a m).resolve_left List.not_mem_nil)
mutual
theorem allfz_of_frz : ∀ d : D, allfz (frz d) = true
  | .non => rfl
  | .bl _ => rfl
  | .int _ => rfl
  | .str _ => rfl
  | .tup ds => allfzs_of_frz ds
  | .lst _ ds => by rw [frz, allfz, allfzs_of_frz ds]; rfl
  | .scr _ => rfl
  | .exc _ => rfl
  | .clo _ => rfl
theorem allfzs_of_frz : ∀ ds : List D, allfzs (frzs ds) = true
  | [] => rfl
  | d :: ds => by rw [frzs, allfzs, allfz_of_frz d, allfzs_of_frz ds]; rfl
end
mutual
theorem noown_of_allfz : ∀ d : D, allfz d = true → noown d = true
  | .non, _ => rfl
  | .bl _, _ => rfl
  | .int _, _ => rfl
  | .str _, _ => rfl
  | .tup ds, h => noowns_of_allfz ds h
  | .lst f ds, h => by
    rw [allfz, Bool.and_eq_true] at h
    rw [noown, h.1, noowns_of_allfz ds h.2]
    rfl
  | .scr _, _ => rfl
  | .exc _, _ => rfl
  | .clo _, _ => rfl
theorem noowns_of_allfz : ∀ ds : List D, allfzs ds = true → noowns ds = true
  | [], _ => rfl
  | d :: ds, h => by
    rw [allfzs, Bool.and_eq_true] at h
    rw [noowns, noown_of_allfz d h.1, noowns_of_allfz ds h.2]
    rfl
end
/-- a call, by its arguments -/
theorem call_of {mg : Str → Option Value} {K : PySem.W.Frag} {cl : Callee} {ds : List D} {vs : List V} {F H F1 H1 : Hp} {f1 : List Addr} {σ : L2.St} {Q : VK} (o : Outs ⟨K, xi0⟩ F H [] F1 H1 ds vs f1) (hT : NdefX.TabsN TbC.T H1)
    (h : match chkR (ds.length = cl.ar) (callD cl.g ds) with
      | .ok d => ∀ v H' F' fr, Out1 ⟨K, xi0⟩ F1 H1 f1 F' H' d v fr → Q v H'
      | .ex n => Rai mg W n σ H1
      | .no => False) : spP K mg cl.ar cl.g vs H1 Q (WE W σ) := by
  unfold chkR at h
  by_cases hl : ds.length = cl.ar
  · rw [if_pos hl] at h
    refine ⟨by rw [← o.r.length]; exact hl, hT, ?_⟩
    unfold callD at h
    cases hg : cl.g (frzs ds) with
    | no => rw [hg] at h; exact h.elim
    | ex n =>
      rw [hg] at h
      exact ⟨H1, frzs ds, Ex.refl _, Rs.all o.sub o.r, allfzs_of_frz ds, by rw [hg]; exact h⟩
    | ok d =>
      rw [hg, Res.bind_ok] at h
      unfold chkR at h
      by_cases hc : (nofz d || allfzs ds) = true
      · rw [if_pos hc] at h
        rcases Bool.or_eq_true_iff.mp hc with hn | ha
        · refine ⟨H1, frzs ds, Ex.refl _, Rs.all o.sub o.r, allfzs_of_frz ds, ?_⟩
          rw [hg]
          intro v H2 F2 fr q _
          have fresh : ∀ a ∈ fr, H1 a = none := fun a m => (q.fresh a m).resolve_left List.not_mem_nil
          exact h v H2 F1 fr ⟨q.eH, Ex.refl _, o.sub.trans q.eH, fun a h1 h2 => absurd h1 h2, q.r.anyF hn, q.nd, fun a m => .inr (fresh a m), fun a m => Ex.free o.sub (fresh a m)⟩
        · have e0 : frzs ds = ds := allfzs_frzs ds ha
          have r0 := o.r
          rw [Rs.noown r0 (noowns_of_allfz ds ha)] at r0
          refine ⟨F1, ds, o.sub, r0, ha, ?_⟩
          rw [← e0, hg]
          intro v H2 F2 fr q _
          exact h v H2 F2 fr ⟨q.eH, q.eF, q.sub, q.new, q.r, q.nd, fun a m => .inr ((q.fresh a m).resolve_left List.not_mem_nil), q.off⟩
      · rw [if_neg hc] at h
        exact h.elim
  · rw [if_neg hl] at h
    exact h.elim
end
end L3

set_option maxRecDepth 100000
set_option maxHeartbeats 2000000
/-! L3.Fns: built-in functions, isinstance, slices. -/
namespace L3
open PySem PySem.Spec PyProof.Rows L2
variable [TbC]

def Fn.val : Fn → Value
  | .len => .builtin "len" | .sum => .builtin "sum" | .max1 => .builtin "max" | .min1 => .builtin "min" | .max2 => .builtin "max" | .min2 => .builtin "min" | .max3 => .builtin "max"
  | .abs => .builtin "abs" | .int => .type "int" | .list => .type "list" | .sorted => .builtin "sorted" | .str => .type "str" | .all => .builtin "all"
def rF (K : PySem.W.Frag) : Fn → List V → Hp → VK → Prop
  | .len => fun xs H Q => (∃ p ys, xs = [.ref p] ∧ (SqL K H p ys ∨ SqT K H p ys) ∧ Q (.int ys.length) H) ∨ ∃ z, xs = [.str z] ∧ z.length ≤ sizeLine ∧ Q (.int z.length) H
  | .abs => fun xs H Q => ∃ i, xs = [.int i] ∧ Q (.int (if i < 0 then -i else i)) H
  | .max2 => fun xs H Q => ∃ i j, xs = [.int i, .int j] ∧ Q (.int (if j > i then j else i)) H
  | .min2 => fun xs H Q => ∃ i j, xs = [.int i, .int j] ∧ Q (.int (if j < i then j else i)) H
  | .max3 => fun xs H Q => ∃ i j k, xs = [.int i, .int j, .int k] ∧ Q (.int (max (max i j) k)) H
  | .int => fun xs H Q => ((∃ i, xs = [.int i] ∧ Q (.int i) H) ∨ ∃ k, xs = [.bl k] ∧ Q (.int (if k then 1 else 0)) H) ∨ ∃ a n, xs = [.str a] ∧ PySem.intText? a = some n ∧ a.length ≤ 640 ∧ Q (.int n) H
  | .str => fun xs H Q => ∃ i, xs = [.int i] ∧ i.natAbs.log2 < 1920 ∧ Q (.str (toString i)) H
  | .sum => rSum K
  | .max1 => rMax K
  | .min1 => rMin K
  | .all => rAll K
  | .list => fun xs H Q => ∃ p ys, xs = [.ref p] ∧ (SqL K H p ys ∨ SqT K H p ys) ∧ ∀ l, H l = none → Q (.ref l) (upd H l (.lst ys))
  | _ => fun _ _ _ => False
theorem nu_max3 (i j k : Int) : nuMax3 (.int i) (.int j) (.int k) = some (.int (max (max i j) k)) := by
  have two : ∀ a b : Int, nuMax2 (.int a) (.int b) = some (.int (max a b)) := fun a b => by
    show some (if decide (a < b) = true then V.int b else V.int a) = _
    by_cases h : a < b
    · rw [decide_eq_true h, if_pos rfl, Int.max_eq_right (by omega)]
    · rw [decide_eq_false h, if_neg Bool.false_ne_true, Int.max_eq_left (by omega)]
  show (nuMax2 (.int i) (.int j)).bind (fun m => nuMax2 m (.int k)) = _
  rw [two]
  exact two _ _
theorem fn_call {X : Cx} (f : Fn) (hc : f.calm = true → X.calm = true) : CallR X f.val (rF X.K f) := by
  cases f with
  | len => exact call_len_seq.or call_len_str
  | abs => exact call_abs
  | max2 => exact call_max2 (hc rfl)
  | min2 => exact call_min2 (hc rfl)
  | int => exact call_int1.or call_int_str
  | str => exact call_str_int
  | max3 => exact fun pins s σ H xs us Q I r ⟨i, j, k, e, q⟩ => call_max3Nu (hc rfl) pins s σ H xs us Q I r ⟨_, _, _, _, e, nu_max3 i j k, q⟩
  | sum => exact cr_sum (hc rfl)
  | max1 => exact cr_max (hc rfl)
  | min1 => exact cr_min (hc rfl)
  | all => exact cr_all (hc rfl)
  | list => exact call_list_of
  | _ => exact fun _ _ _ _ _ _ _ _ _ z => z.elim
theorem rs1 {K : Kx} {F H : Hp} {d : D} {vs : List V} {fr : List Addr} (r : Rs K F H [d] vs fr) : ∃ v, vs = [v] ∧ R K F H d v fr := by
  cases r with
  | cons h t =>
    cases t
    rw [List.append_nil]
    exact ⟨_, rfl, h⟩
theorem rs3 {K : Kx} {F H : Hp} {d e g : D} {vs : List V} {fr : List Addr} (r : Rs K F H [d, e, g] vs fr) : ∃ u v w f1 f2 f3, vs = [u, v, w] ∧ R K F H d u f1 ∧ R K F H e v f2 ∧ R K F H g w f3 := by
  cases r with
  | cons h t =>
    cases t with
    | cons h2 t2 =>
      obtain ⟨w, rfl, t'⟩ := rs1 t2
      exact ⟨_, _, w, _, _, _, rfl, h, h2, t'⟩
theorem rs2 {K : Kx} {F H : Hp} {d e : D} {vs : List V} {fr : List Addr} (r : Rs K F H [d, e] vs fr) : ∃ v w f g, vs = [v, w] ∧ R K F H d v f ∧ R K F H e w g ∧ fr = f ++ g := by
  cases r with
  | cons h t =>
    obtain ⟨w, rfl, t'⟩ := rs1 t
    exact ⟨_, w, _, _, rfl, h, t', rfl⟩
theorem ints_of {K : Kx} {F H : Hp} : ∀ {ds : List D} {ns : List Int} {vs : List V} {fr : List Addr}, intsD ds = some ns → Rs K F H ds vs fr → vs = ns.map V.int
  | [], _, _, _, e, .nil => by cases e; rfl
  | .int i :: r, ns, _, _, e, .cons h t => by
    have e : (intsD r).map (i :: ·) = some ns := e
    cases e1 : intsD r with
    | none => rw [e1] at e; cases e
    | some ms =>
      rw [e1] at e
      cases e
      cases h
      rw [ints_of e1 t]
      rfl
  | .non :: _, _, _, _, e, .cons _ _ | .bl _ :: _, _, _, _, e, .cons _ _ | .str _ :: _, _, _, _, e, .cons _ _ | .tup _ :: _, _, _, _, e, .cons _ _ | .lst _ _ :: _, _, _, _, e, .cons _ _ | .scr _ :: _, _, _, _, e, .cons _ _ | .exc _ :: _, _, _, _, e, .cons _ _ | .clo _ :: _, _, _, _, e, .cons _ _ => by cases e
theorem bls_of {K : Kx} {F H : Hp} : ∀ {ds : List D} {ns : List Bool} {vs : List V} {fr : List Addr}, blsD ds = some ns → Rs K F H ds vs fr → vs = ns.map V.bl
  | [], _, _, _, e, .nil => by cases e; rfl
  | .bl i :: r, ns, _, _, e, .cons h t => by
    have e : (blsD r).map (i :: ·) = some ns := e
    cases e1 : blsD r with
    | none => rw [e1] at e; cases e
    | some ms =>
      rw [e1] at e
      cases e
      cases h
      rw [bls_of e1 t]
      rfl
  | .non :: _, _, _, _, e, .cons _ _ | .int _ :: _, _, _, _, e, .cons _ _ | .str _ :: _, _, _, _, e, .cons _ _ | .tup _ :: _, _, _, _, e, .cons _ _ | .lst _ _ :: _, _, _, _, e, .cons _ _ | .scr _ :: _, _, _, _, e, .cons _ _ | .exc _ :: _, _, _, _, e, .cons _ _ | .clo _ :: _, _, _, _, e, .cons _ _ => by cases e
/-- a function of one list -/
theorem fn_lst {K : Kx} {F H : Hp} {f : Fl} {ds : List D} {vs : List V} {fr : List Addr} (s : Ex F H) (r : Rs K F H [.lst f ds] vs fr) : ∃ a ws g, vs = [.ref a] ∧ SqL K.K H a ws ∧ Rs K F H ds ws g ∧ g.Sublist fr := by
  obtain ⟨v, rfl, r1⟩ := rs1 r
  obtain ⟨a, ws, g, rfl, h1, h2, h3⟩ := R.lst' s r1
  exact ⟨a, ws, g, rfl, .inl (.inl h1), h2, h3⟩
theorem fn_s {K : Kx} (f : Fn) {F H : Hp} {ds : List D} {vs : List V} {fr : List Addr} {d : D} {Q : VK} (s : Ex F H) (r : Rs K F H ds vs fr) (nd : fr.Nodup) (off : ∀ a ∈ fr, F a = none) (e : fnD f ds = some d)
    (k : ∀ v H' F' g, Out1 K F H fr F' H' d v g → Q v H') : rF K.K f vs H Q := by
  cases f with
  | len =>
    rcases ds with _ | ⟨x, _ | ⟨y, t⟩⟩
    · cases e
    · obtain ⟨v, rfl, r1⟩ := rs1 r
      cases x with
      | tup ds =>
        cases e
        obtain ⟨a, ws, rfl, h1, h2⟩ := r1.tup'
        exact .inl ⟨a, ws, rfl, .inr h1, k _ _ _ _ (by rw [h2.length]; exact .flat s (.int _))⟩
      | lst f ds =>
        cases e
        obtain ⟨a, ws, g, rfl, h1, h2, _⟩ := R.lst' s r1
        exact .inl ⟨a, ws, rfl, .inl (.inl (.inl h1)), k _ _ _ _ (by rw [h2.length]; exact .flat s (.int _))⟩
      | scr ns =>
        cases e
        obtain ⟨a, rfl, h1, rfl⟩ := r1.scr'
        exact .inl ⟨a, _, rfl, .inl (Ex.seq s h1), k _ _ _ _ (by rw [List.length_map]; exact .flat s (.int _))⟩
      | str z =>
        obtain ⟨c, e⟩ := chkO_some (show chkO _ _ = some d from e)
        cases e
        obtain ⟨rfl, rfl⟩ := r1.str'
        exact .inr ⟨z, rfl, Nat.le_trans c line16, k _ _ _ _ (.flat s (.int _))⟩
      | non => cases e
      | bl b => cases e
      | int i => cases e
      | exc n => cases e
      | clo n => cases e
    · cases x <;> cases e
  | abs =>
    rcases ds with _ | ⟨x, _ | ⟨y, t⟩⟩
    · cases e
    · obtain ⟨v, rfl, r1⟩ := rs1 r
      cases x <;> cases e
      obtain ⟨rfl, rfl⟩ := r1.int'
      exact ⟨_, rfl, k _ _ _ _ (.flat s (.int _))⟩
    · cases x <;> cases e
  | max2 =>
    rcases ds with _ | ⟨x, _ | ⟨y, _ | ⟨z, t⟩⟩⟩
    · cases e
    · cases x <;> cases e
    · obtain ⟨v, w, f, g, rfl, r1, r2, rfl⟩ := rs2 r
      cases x <;> cases y <;> cases e
      obtain ⟨rfl, rfl⟩ := r1.int'
      obtain ⟨rfl, rfl⟩ := r2.int'
      exact ⟨_, _, rfl, k _ _ _ _ (.flat s (.int _))⟩
    · cases x <;> cases y <;> cases e
  | max3 =>
    rcases ds with _ | ⟨x, _ | ⟨y, _ | ⟨z, _ | ⟨z2, t⟩⟩⟩⟩
    · cases e
    · cases x <;> cases e
    · cases x <;> cases y <;> cases e
    · obtain ⟨v, w, u, f1, f2, f3, rfl, r1, r2, r3⟩ := rs3 r
      cases x <;> cases y <;> cases z <;> cases e
      obtain ⟨rfl, _⟩ := r1.int'
      obtain ⟨rfl, _⟩ := r2.int'
      obtain ⟨rfl, _⟩ := r3.int'
      exact ⟨_, _, _, rfl, k _ _ _ _ (.flat s (.int _))⟩
    · cases x <;> cases y <;> cases z <;> cases e
  | min2 =>
    rcases ds with _ | ⟨x, _ | ⟨y, _ | ⟨z, t⟩⟩⟩
    · cases e
    · cases x <;> cases e
    · obtain ⟨v, w, f, g, rfl, r1, r2, rfl⟩ := rs2 r
      cases x <;> cases y <;> cases e
      obtain ⟨rfl, rfl⟩ := r1.int'
      obtain ⟨rfl, rfl⟩ := r2.int'
      exact ⟨_, _, rfl, k _ _ _ _ (.flat s (.int _))⟩
    · cases x <;> cases y <;> cases e
  | int =>
    rcases ds with _ | ⟨x, _ | ⟨y, t⟩⟩
    · cases e
    · obtain ⟨v, rfl, r1⟩ := rs1 r
      cases x with
      | bl b =>
        cases e
        obtain ⟨rfl, rfl⟩ := r1.bl'
        exact .inl (.inr ⟨_, rfl, k _ _ _ _ (.flat s (.int _))⟩)
      | int i =>
        cases e
        obtain ⟨rfl, rfl⟩ := r1.int'
        exact .inl (.inl ⟨_, rfl, k _ _ _ _ (.flat s (.int _))⟩)
      | str a =>
        obtain ⟨c, e⟩ := chkO_some (show chkO (a.length ≤ 640) ((PySem.intText? a).bind fun n => some (D.int n)) = some d from e)
        obtain ⟨rfl, rfl⟩ := r1.str'
        cases hn : PySem.intText? a with
        | none => rw [hn] at e; cases e
        | some n =>
          rw [hn] at e
          cases e
          exact .inr ⟨a, n, rfl, hn, c, k _ _ _ _ (.flat s (.int _))⟩
      | _ => cases e
    · cases x <;> cases e
  | str =>
    rcases ds with _ | ⟨x, _ | ⟨y, t⟩⟩
    · cases e
    · obtain ⟨v, rfl, r1⟩ := rs1 r
      cases x with
      | int i =>
        obtain ⟨c, e⟩ := chkO_some (show chkO (i.natAbs.log2 < 1920) (some (D.str (toString i))) = some d from e)
        cases e
        obtain ⟨rfl, rfl⟩ := r1.int'
        exact ⟨i, rfl, c, k _ _ _ _ (.flat s (.str _))⟩
      | _ => cases e
    · cases x <;> cases e
  | sum =>
    rcases ds with _ | ⟨x, _ | ⟨y, t⟩⟩
    · cases e
    · cases x with
      | lst f ds =>
        obtain ⟨a, ws, g, rfl, h1, h2, _⟩ := fn_lst s r
        have e : ((intsD ds).bind fun ns => some (.int ns.sum)) = some d := e
        cases ei : intsD ds with
        | none => rw [ei] at e; cases e
        | some ns =>
          rw [ei] at e
          cases e
          rw [ints_of ei h2] at h1
          exact ⟨a, ns, rfl, h1, k _ _ _ _ (.flat s (.int _))⟩
      | _ => cases e
    · cases x <;> cases e
  | all =>
    rcases ds with _ | ⟨x, _ | ⟨y, t⟩⟩
    · cases e
    · cases x with
      | lst f ds =>
        obtain ⟨a, ws, g, rfl, h1, h2, _⟩ := fn_lst s r
        have e : ((blsD ds).bind fun ns => some (.bl (ns.all id))) = some d := e
        cases ei : blsD ds with
        | none => rw [ei] at e; cases e
        | some ns =>
          rw [ei] at e
          cases e
          rw [bls_of ei h2] at h1
          exact ⟨a, ns, rfl, h1, k _ _ _ _ (.flat s (.bl _))⟩
      | _ => cases e
    · cases x <;> cases e
  | max1 =>
    rcases ds with _ | ⟨x, _ | ⟨y, t⟩⟩
    · cases e
    · cases x with
      | lst f ds =>
        obtain ⟨a, ws, g, rfl, h1, h2, _⟩ := fn_lst s r
        have e : ((intsD ds).bind fun ns => chkO (ns ≠ []) (some (.int (maxL ns)))) = some d := e
        cases ei : intsD ds with
        | none => rw [ei] at e; cases e
        | some ns =>
          rw [ei] at e
          obtain ⟨c, e⟩ := chkO_some e
          cases e
          rw [ints_of ei h2] at h1
          obtain ⟨m1, m2⟩ := maxL_mem c
          refine ⟨a, ns, rfl, h1, List.length_pos_iff.mpr c, fun m hm hy => ?_⟩
          have e : m = maxL ns := Int.le_antisymm (m2 m hm) (hy _ m1)
          rw [e]
          exact k _ _ _ _ (.flat s (.int _))
      | _ => cases e
    · cases x <;> cases e
  | min1 =>
    rcases ds with _ | ⟨x, _ | ⟨y, t⟩⟩
    · cases e
    · cases x with
      | lst f ds =>
        obtain ⟨a, ws, g, rfl, h1, h2, _⟩ := fn_lst s r
        have e : ((intsD ds).bind fun ns => chkO (ns ≠ []) (some (.int (minL ns)))) = some d := e
        cases ei : intsD ds with
        | none => rw [ei] at e; cases e
        | some ns =>
          rw [ei] at e
          obtain ⟨c, e⟩ := chkO_some e
          cases e
          rw [ints_of ei h2] at h1
          obtain ⟨m1, m2⟩ := minL_mem c
          refine ⟨a, ns, rfl, h1, List.length_pos_iff.mpr c, fun m hm hy => ?_⟩
          have e : m = minL ns := Int.le_antisymm (hy _ m1) (m2 m hm)
          rw [e]
          exact k _ _ _ _ (.flat s (.int _))
      | _ => cases e
    · cases x <;> cases e
  | list =>
    rcases ds with _ | ⟨x, _ | ⟨y, t⟩⟩
    · cases e
    · cases x with
      | lst f ds =>
        have hh := r.has
        obtain ⟨a, ws, g, rfl, h1, h2, h3⟩ := fn_lst s r
        cases e
        refine ⟨a, ws, rfl, .inl h1, fun l hl => k _ _ _ _ (.list s hl h2 (nd.sublist h3) (fun b m => h3.subset m) off fun b m => ?_)⟩
        obtain ⟨xs, q⟩ := hh b m
        rw [q]
        exact fun z => nomatch z
      | tup ds =>
        have hh := r.has
        obtain ⟨v, rfl, r1⟩ := rs1 r
        obtain ⟨a, ws, rfl, h1, h2⟩ := r1.tup'
        cases e
        refine ⟨a, ws, rfl, .inr h1, fun l hl => k _ _ _ _ (.list s hl h2 nd (fun b m => m) off fun b m => ?_)⟩
        obtain ⟨xs, q⟩ := hh b m
        rw [q]
        exact fun z => nomatch z
      | _ => cases e
    · cases x <;> cases e
  | _ => cases e
/-! ### the call of a built-in -/
theorem fn_boot (f : Fn) (h : f = .len ∨ f = .abs ∨ f = .max2 ∨ f = .min2 ∨ f = .int ∨ f = .sum ∨ f = .max1 ∨ f = .min1 ∨ f = .list ∨ f = .sorted ∨ f = .str ∨ f = .all ∨ f = .max3) : bootBuiltins f.nm = some f.val := by
  cases f <;> decide +kernel
theorem fn_mem (f : Fn) : f.nm ∈ bltL := by cases f <;> decide +kernel
/-! ### isinstance -/
theorem ty_of {K : Kx} {F H : Hp} {d : D} {v : V} {fr : List Addr} {n : String} (s : Ex F H) (r : R K F H d v fr) (e : (match d with | .non => some "NoneType" | .bl _ => some "bool" | .int _ => some "int" | .str _ => some "str" | .tup _ => some "tuple" | .lst _ _ => some "list" | _ => none) = some n) : TyX K.K H v (.type n) := by
  cases d with
  | non => cases e; obtain ⟨rfl, _⟩ := r.non'; exact .base .non
  | bl b => cases e; obtain ⟨rfl, _⟩ := r.bl'; exact .base (.bl _)
  | int i => cases e; obtain ⟨rfl, _⟩ := r.int'; exact .base (.int _)
  | str x => cases e; obtain ⟨rfl, _⟩ := r.str'; exact .base (.str _)
  | tup ds =>
    cases e
    obtain ⟨a, vs, rfl, h, _⟩ := r.tup'
    rcases h with (h | ⟨o, h⟩) | ⟨o, its, k, h, hc, _⟩
    · exact .base (.tup h)
    · exact .fTuple h
    · exact .kTuple h hc
  | lst f ds =>
    cases e
    obtain ⟨a, vs, g, rfl, h, _⟩ := R.lst' s r
    exact .base (.lst h)
  | scr ns => cases e
  | exc n => cases e
  | clo n => cases e
theorem ty_boot {c : Str} (h : tyNames.contains c = true) : bootBuiltins c = some (.type (tyS c)) ∧ c ∈ bltL := by
  have h : c ∈ tyNames := by simpa using h
  unfold tyNames at h
  simp only [List.mem_cons, List.mem_nil_iff, or_false] at h
  rcases h with rfl | rfl | rfl | rfl | rfl <;> exact ⟨by decide +kernel, by decide +kernel⟩
def kitQ (n : String) (c : Str) : Bool := match n with
  | "bool" => c == "bool" || c == "int"
  | "int" => c == "int"
  | "str" => c == "str"
  | "tuple" => c == "tuple"
  | "list" => c == "list"
  | _ => false
theorem kit_q {K : PySem.W.Frag} {n : String} {c : Str} (hn : n ∈ ["NoneType", "bool", "int", "str", "tuple", "list"]) (h : tyNames.contains c = true) : PySem.W.kitOne K (.type n) (.type (tyS c)) = some (kitQ n c) := by
  have h : c ∈ tyNames := by simpa using h
  unfold tyNames at h
  simp only [List.mem_cons, List.mem_nil_iff, or_false] at h hn
  rcases hn with rfl | rfl | rfl | rfl | rfl | rfl <;> rcases h with rfl | rfl | rfl | rfl | rfl <;> exact kit_ty (by decide +kernel)
end L3

set_option maxRecDepth 100000
set_option maxHeartbeats 4000000
/-! L3.Snd: the text's expressions do what the small language says. -/
namespace L3
open PySem PySem.Spec PyProof.Rows L2
variable [TbC]

section
variable {G : Tab} {xi : Xi} {W : WX} {X : Cx} {mg : Str → Option Value} {K : Kx}
theorem rd_one {a : Exp} {f : D → Res D} {σ : L2.St} {H : Hp} {Q : VK} {P : V → Hp → Prop} {env : Env} {F : Hp} {fp : List Addr} (w : Wd K F H env σ fp)
    (h : match (ev G a env).bind f with
      | .ok d => ∀ v H' F' fr, Out1 K F H [] F' H' d v fr → Q v H'
      | .ex n => Rai mg W n σ H
      | .no => False)
    (k : ∀ d v H1 F1 f1, Out1 K F H [] F1 H1 d v f1 → Wd K F1 H1 env σ fp → (match f d with
      | .ok d' => ∀ v H' F' fr, Out1 K F1 H1 f1 F' H' d' v fr → Q v H'
      | .ex n => Rai mg W n σ H1
      | .no => False) → P v H1) : rdE K mg W G a σ H P := by
  refine ⟨env, F, fp, w, ?_⟩
  cases ea : ev G a env with
  | no => rw [ea] at h; exact h
  | ex n => rw [ea] at h; exact h
  | ok x =>
    intro v H1 F1 f1 o
    rw [ea, Res.bind_ok] at h
    refine k x v H1 F1 f1 o (w.next o.eH o.eF o.sub o.new) ?_
    cases ef : f x with
    | no => rw [ef] at h; exact h
    | ex n => rw [ef] at h; exact Rai.mono h o.eH
    | ok d =>
      rw [ef] at h
      exact fun v H' F' fr q => h v H' F' fr (q.comp o.eH o.eF o.sub o.new fun a m => (o.fresh a m).resolve_left List.not_mem_nil)
/-- a test, then what follows -/
theorem rd_test {a : Exp} {f : Bool → Res D} {σ : L2.St} {H : Hp} {Q : VK} {P : Bool → Hp → Prop} {env : Env} {F : Hp} {fp : List Addr} (w : Wd K F H env σ fp)
    (h : match (ev G a env).bind fun x => (asB x).bind f with
      | .ok d => ∀ v H' F' fr, Out1 K F H [] F' H' d v fr → Q v H'
      | .ex n => Rai mg W n σ H
      | .no => False)
    (k : ∀ b H1 F1, Wd K F1 H1 env σ fp → (match f b with
      | .ok d' => ∀ v H' F' fr, Out1 K F1 H1 [] F' H' d' v fr → Q v H'
      | .ex n => Rai mg W n σ H1
      | .no => False) → P b H1) : rdT K mg W G a σ H P := by
  refine ⟨env, F, fp, w, ?_⟩
  cases ea : ev G a env with
  | no => rw [ea] at h; exact h
  | ex n => rw [ea] at h; exact h
  | ok x =>
    rw [ea, Res.bind_ok] at h
    rw [Res.bind_ok]
    cases eb : asB x with
    | no => rw [eb] at h; exact h
    | ex n => rw [eb] at h; exact h
    | ok b =>
      rw [eb, Res.bind_ok] at h
      intro H1 F1 eH eF sub new
      refine k b H1 F1 (w.next eH eF sub new) ?_
      cases ef : f b with
      | no => rw [ef] at h; exact h
      | ex n => rw [ef] at h; exact Rai.mono h eH
      | ok d =>
        rw [ef] at h
        exact fun v H' F' fr q => h v H' F' fr (q.comp eH eF sub new fun a m => absurd m List.not_mem_nil)
/-- as a value that is a bool -/
theorem rd_bool {a : Exp} {f : Bool → Res D} {σ : L2.St} {H : Hp} {Q : VK} {P : V → Hp → Prop} {env : Env} {F : Hp} {fp : List Addr} (w : Wd K F H env σ fp)
    (h : match (ev G a env).bind fun x => (asB x).bind f with
      | .ok d => ∀ v H' F' fr, Out1 K F H [] F' H' d v fr → Q v H'
      | .ex n => Rai mg W n σ H
      | .no => False)
    (k : ∀ b H1 F1, Wd K F1 H1 env σ fp → (match f b with
      | .ok d' => ∀ v H' F' fr, Out1 K F1 H1 [] F' H' d' v fr → Q v H'
      | .ex n => Rai mg W n σ H1
      | .no => False) → P (.bl b) H1) : rdE K mg W G a σ H P := by
  refine rd_one w h fun d v H1 F1 f1 o w1 q => ?_
  cases d with
  | bl b =>
    obtain ⟨rfl, rfl⟩ := o.r.bl'
    exact k b H1 F1 w1 q
  | _ => exact q.elim
theorem rdT_of {a : Exp} {σ : L2.St} {H : Hp} {Q : Bool → Hp → Prop} (h : rdT K mg W G a σ H Q) : tB (rdE K mg W G a) σ H Q := by
  obtain ⟨env, F, fp, w, h⟩ := h
  refine ⟨env, F, fp, w, ?_⟩
  cases ea : ev G a env with
  | no => rw [ea] at h; exact h
  | ex n => rw [ea] at h; exact h
  | ok x =>
    intro v H1 F1 f1 o
    rw [ea, Res.bind_ok] at h
    cases x with
    | bl b =>
      obtain ⟨rfl, rfl⟩ := o.r.bl'
      exact ⟨b, rfl, h H1 F1 o.eH o.eF o.sub o.new⟩
    | _ => exact h.elim
theorem PE.never {e : Expr} {t : TE} (h : ∀ σ H Q, t σ H Q → False) : PE X e t := ⟨fun pins s σ H Q I w => (h σ H Q w).elim⟩
theorem Wd.flat {F H : Hp} {env : Env} {σ : L2.St} {fp : List Addr} {g : List Addr} {d : D} {v : V} (w : Wd K F H env σ fp) (r : R K F H d v []) : Out1 K F H g F H d v [] := .flat w.sub r
end
section
variable (G : Tab) (xi : Xi)
/-- what is shown of an expression -/
def SE (x : Exp) : Prop := ∀ ⦃c : Cc⦄ ⦃W : WX⦄ ⦃X : Cx⦄ ⦃e : Expr⦄, Good c G xi W X → chkE c x e = true → PE X e (rdE ⟨X.K, xi⟩ X.mg W G x)
def ST (x : Exp) : Prop := ∀ ⦃c : Cc⦄ ⦃W : WX⦄ ⦃X : Cx⦄ ⦃e : Expr⦄, Good c G xi W X → chkE c x e = true → PT X e (rdT ⟨X.K, xi⟩ X.mg W G x)
def SW (x : Exp) : Prop := ∀ ⦃c : Cc⦄ ⦃W : WX⦄ ⦃X : Cx⦄ ⦃op : PySem.BoolOp⦄ ⦃vs : List Expr⦄ ⦃pos : Pos⦄, Good c G xi W X → chkE c x (.BoolOp op vs pos) = true → PW X (.BoolOp op vs pos) (rdT ⟨X.K, xi⟩ X.mg W G x)
def SA (xs : Exps) : Prop := ∀ ⦃c : Cc⦄ ⦃W : WX⦄ ⦃X : Cx⦄ ⦃es : List Expr⦄, Good c G xi W X → chkEs c xs es = true → PA X es (rdA ⟨X.K, xi⟩ X.mg W G xs)
end
section
variable {G : Tab} {xi : Xi}
theorem se_var (i : Nat) : SE G xi (.var i) := by
  intro c W X e g h
  rw [chkE.eq_def] at h
  dsimp only at h
  split at h
  · obtain ⟨h1, h2, h3, h4⟩ := g.vis h
    refine (pe_var (i := i) h1 h2 h3 h4).imp3 fun σ H Q hq => ?_
    obtain ⟨env, F, fp, w, hq⟩ := hq
    rw [ev] at hq
    cases he : (env[i]?).bind id with
    | none => rw [he] at hq; exact hq.elim
    | some d =>
      rw [he] at hq
      have he' : env[i]? = some (some d) := by
        cases hz : env[i]? with
        | none => rw [hz] at he; cases he
        | some o => rw [hz] at he; exact congrArg some he
      obtain ⟨v, f, k1, k2, k3⟩ := w.es.get he'
      exact ⟨v, k1, hq v H F [] (w.flat (k2.peek w.sub))⟩
  · cases h
theorem se_int (i : Int) : SE G xi (.int i) := by
  intro c W X e g h
  rw [chkE.eq_def] at h
  dsimp only at h
  split at h
  · have e := of_decide_eq_true h
    subst e
    refine pe_int.imp3 fun σ H Q hq => ?_
    obtain ⟨env, F, fp, w, hq⟩ := hq
    exact hq _ H F [] (w.flat (.int _))
  · cases h
theorem se_bl (i : Bool) : SE G xi (.bl i) := by
  intro c W X e g h
  rw [chkE.eq_def] at h
  dsimp only at h
  split at h
  · rename_i j _ _
    have e : i = j := by simpa using h
    subst e
    refine pe_bl.imp3 fun σ H Q hq => ?_
    obtain ⟨env, F, fp, w, hq⟩ := hq
    exact hq _ H F [] (w.flat (.bl _))
  · cases h
theorem se_str (i : Str) : SE G xi (.str i) := by
  intro c W X e g h
  rw [chkE.eq_def] at h
  dsimp only at h
  split at h
  · rename_i j _ _
    have e : i = j := by simpa using h
    subst e
    refine pe_str.imp3 fun σ H Q hq => ?_
    obtain ⟨env, F, fp, w, hq⟩ := hq
    exact hq _ H F [] (w.flat (.str _))
  · cases h
theorem se_non : SE G xi .non := by
  intro c W X e g h
  rw [chkE.eq_def] at h
  dsimp only at h
  split at h
  · refine pe_non.imp3 fun σ H Q hq => ?_
    obtain ⟨env, F, fp, w, hq⟩ := hq
    exact hq _ H F [] (w.flat .non)
  · cases h
theorem se_hole : SE G xi .hole := by
  intro c W X e g h
  rw [chkE.eq_def] at h
  dsimp only at h
  cases h
theorem se_glo (j : Nat) : SE G xi (.glo j) := by
  intro c W X e g h
  rw [chkE.eq_def] at h
  dsimp only at h
  split at h
  · rename_i y pos
    rw [Bool.and_eq_true] at h
    obtain ⟨h1, h2⟩ := h
    obtain ⟨k1, k2, k3⟩ := g.gl h2
    have h1 : c.csts[j]? = some y := by simpa using h1
    rw [g.csts, List.getElem?_map] at h1
    cases hp : G.cst[j]? with
    | none => rw [hp] at h1; cases h1
    | some p =>
      rw [hp] at h1
      have hy : p.1 = y := Option.some.inj h1
      obtain ⟨u, v, m, r, q⟩ := g.glo p (List.mem_of_getElem? hp)
      rw [hy] at m
      refine (pe_glob k1 m r k2).imp3 fun σ H Q hq => ?_
      obtain ⟨env, F, fp, w, hq⟩ := hq
      rw [ev, hp] at hq
      exact hq v H F [] (w.flat (q F H))
  · cases h
theorem se_un (o : UOp) (a : Exp) (ih : SE G xi a) : SE G xi (.un o a) := by
  intro c W X e g h
  rw [chkE.eq_def] at h
  dsimp only at h
  split at h
  · rw [Bool.and_eq_true] at h
    obtain ⟨h1, h2⟩ := h
    have ho : o = .neg := by simpa using h1
    subst ho
    refine (pe_un un_neg (ih g h2)).imp3 fun σ H Q hq => ?_
    obtain ⟨env, F, fp, w, hq⟩ := hq
    rw [ev] at hq
    refine rd_one w hq fun d v H1 F1 f1 o1 w1 q => ?_
    cases d with
    | int i =>
      obtain ⟨rfl, rfl⟩ := o1.r.int'
      exact ⟨i, rfl, q _ H1 F1 [] (w1.flat (.int _))⟩
    | _ => exact q.elim
  · rw [Bool.and_eq_true] at h
    obtain ⟨h1, h2⟩ := h
    have ho : o = .not := by simpa using h1
    subst ho
    refine (pe_not (ih g h2)).imp3 fun σ H Q hq => ?_
    obtain ⟨env, F, fp, w, hq⟩ := hq
    rw [ev] at hq
    refine rd_one w hq fun d v H1 F1 f1 o1 w1 q => ?_
    cases d with
    | bl i =>
      obtain ⟨rfl, rfl⟩ := o1.r.bl'
      exact ⟨i, rfl, q _ H1 F1 [] (w1.flat (.bl _))⟩
    | _ => exact q.elim
  · cases h
theorem se_bin (o : BOp) (a b : Exp) (iha : SE G xi a) (ihb : SE G xi b) : SE G xi (.bin o a b) := by
  intro c W X e g h
  rw [chkE.eq_def] at h
  dsimp only at h
  split at h
  · simp only [Bool.and_eq_true] at h
    obtain ⟨⟨h1, h2⟩, h3⟩ := h
    exact (pe_op (op_bin h1) (iha g h2) (ihb g h3)).imp3 fun σ H Q hq => rd_bin (bin_s (K := ⟨X.K, xi⟩) o) hq
  · simp only [Bool.and_eq_true, Bool.not_eq_true'] at h
    obtain ⟨⟨⟨h1, h2⟩, h3⟩, h4⟩ := h
    exact (pe_cmpR (op_cmp (by have := g.hu; omega) h1) (iha g h2) (ihb g h3) h4).imp3 fun σ H Q hq => rd_bin (bin_s (K := ⟨X.K, xi⟩) o) hq
  · simp only [Bool.and_eq_true, Bool.not_eq_true'] at h
    obtain ⟨⟨⟨h1, h2⟩, h3⟩, h4⟩ := h
    have ho : o = .ix := by simpa using h1
    subst ho
    exact (pe_ix ix_all (iha g h2) (ihb g h3) (plainIx h4)).imp3 fun σ H Q hq => rd_bin (bin_s (K := ⟨X.K, xi⟩) .ix) hq
  · cases h
theorem se_and (a b : Exp) (iha : SE G xi a) (ihb : SE G xi b) : SE G xi (.and a b) := by
  intro c W X e g h
  have key : ∀ {σ : L2.St} {H : Hp} {Q : VK}, rdE ⟨X.K, xi⟩ X.mg W G (.and a b) σ H Q → tAndV (rdE ⟨X.K, xi⟩ X.mg W G a) (rdE ⟨X.K, xi⟩ X.mg W G b) σ H Q := by
    intro σ H Q hq
    obtain ⟨env, F, fp, w, hq⟩ := hq
    rw [ev] at hq
    refine rd_bool w hq fun k H1 F1 w1 q => ?_
    refine ⟨k, rfl, ?_⟩
    cases k with
    | true =>
      rw [if_pos rfl] at q ⊢
      refine ⟨env, F1, fp, w1, ?_⟩
      cases eb : ev G b env with
      | no => rw [eb] at q; exact q
      | ex n => rw [eb] at q; exact q
      | ok y =>
        rw [eb, Res.bind_ok] at q
        cases y with
        | bl l => exact q
        | _ => exact q.elim
    | false =>
      rw [if_neg Bool.false_ne_true] at q ⊢
      exact q _ H1 F1 [] (w1.flat (.bl _))
  rw [chkE.eq_def] at h
  dsimp only at h
  split at h
  · rw [Bool.and_eq_true] at h
    exact (pe_and (iha g h.1) (pe_one (ihb g h.2))).imp3 fun σ H Q hq => key hq
  · rw [Bool.and_eq_true] at h
    exact (pe_and (iha g h.1) (ihb g h.2)).imp3 fun σ H Q hq => key hq
  · cases h
theorem se_or (a b : Exp) (iha : SE G xi a) (ihb : SE G xi b) : SE G xi (.or a b) := by
  intro c W X e g h
  have key : ∀ {σ : L2.St} {H : Hp} {Q : VK}, rdE ⟨X.K, xi⟩ X.mg W G (.or a b) σ H Q → tOrV (rdE ⟨X.K, xi⟩ X.mg W G a) (rdE ⟨X.K, xi⟩ X.mg W G b) σ H Q := by
    intro σ H Q hq
    obtain ⟨env, F, fp, w, hq⟩ := hq
    rw [ev] at hq
    refine rd_bool w hq fun k H1 F1 w1 q => ?_
    refine ⟨k, rfl, ?_⟩
    cases k with
    | false =>
      rw [if_neg Bool.false_ne_true] at q ⊢
      refine ⟨env, F1, fp, w1, ?_⟩
      cases eb : ev G b env with
      | no => rw [eb] at q; exact q
      | ex n => rw [eb] at q; exact q
      | ok y =>
        rw [eb, Res.bind_ok] at q
        cases y with
        | bl l => exact q
        | _ => exact q.elim
    | true =>
      rw [if_pos rfl] at q ⊢
      exact q _ H1 F1 [] (w1.flat (.bl _))
  rw [chkE.eq_def] at h
  dsimp only at h
  split at h
  · rw [Bool.and_eq_true] at h
    exact (pe_or (iha g h.1) (pe_one (ihb g h.2))).imp3 fun σ H Q hq => key hq
  · rw [Bool.and_eq_true] at h
    exact (pe_or (iha g h.1) (ihb g h.2)).imp3 fun σ H Q hq => key hq
  · cases h
theorem se_ife (d a b : Exp) (ihd : tst d = true → ST G xi d) (iha : SE G xi a) (ihb : SE G xi b) : SE G xi (.ife d a b) := by
  intro c W X e g h
  rw [chkE.eq_def] at h
  dsimp only at h
  split at h
  · simp only [Bool.and_eq_true] at h
    obtain ⟨⟨⟨h0, h1⟩, h2⟩, h3⟩ := h
    refine (pe_ifExp (ihd h0 g h1) (iha g h2) (ihb g h3)).imp3 fun σ H Q hq => ?_
    obtain ⟨env, F, fp, w, hq⟩ := hq
    rw [ev] at hq
    refine rd_test w hq fun k H1 F1 w1 q => ?_
    cases k with
    | true => rw [if_pos rfl] at q ⊢; exact ⟨env, F1, fp, w1, q⟩
    | false => rw [if_neg Bool.false_ne_true] at q ⊢; exact ⟨env, F1, fp, w1, q⟩
  · cases h
theorem sa_nil : SA G xi .nil := by
  intro c W X es g h
  rw [chkEs.eq_def] at h
  dsimp only at h
  split at h
  · exact pa_nil.imp3 fun σ H Q hq => rd_nil hq
  · cases h
theorem sa_cons (a : Exp) (r : Exps) (iha : SE G xi a) (ihr : SA G xi r) : SA G xi (.cons a r) := by
  intro c W X es g h
  rw [chkEs.eq_def] at h
  dsimp only at h
  split at h
  · rw [Bool.and_eq_true] at h
    exact (pa_cons (iha g h.1) (ihr g h.2) (star_cons _ _ _ (chk_star a h.1))).imp3 fun σ H Q hq => rd_cons hq
  · cases h
/-- what an evaluated list leaves, seen from behind it -/
theorem Outs.list {K : Kx} {F H F1 H1 : Hp} {ds : List D} {vs : List V} {f1 : List Addr} {p : Addr} (o : Outs K F H [] F1 H1 ds vs f1) (hp : H1 p = none) : Out1 K F1 H1 f1 F1 (upd H1 p (.lst vs)) (.lst .own ds) (.ref p) (p :: f1) :=
  Out1.list o.sub hp o.r o.nd (fun a m => m) o.off fun a m z => by
    obtain ⟨xs, q⟩ := o.r.has a m
    rw [q] at z
    cases z
theorem len_ok {n : Nat} (h : n ≤ 16000000) : n ≤ sizeLine := Nat.le_trans h line16
theorem se_tup (es : Exps) (ih : SA G xi es) : SE G xi (.tup es) := by
  intro c W X e g h
  rw [chkE.eq_def] at h
  dsimp only at h
  split at h
  · refine (pe_tup (ih g h)).imp3 fun σ H Q hq => ?_
    obtain ⟨env, F, fp, w, hq⟩ := hq
    rw [ev] at hq
    refine rd_args w hq fun ds vs H1 F1 f1 o q => ?_
    by_cases hl : ds.length ≤ 16000000
    · rw [chkR_pos hl] at q
      exact ⟨by rw [← o.r.length]; exact len_ok hl, fun p hp => q _ _ _ _ (Out1.tuple o.sub hp o.r o.nd (fun a m => m) o.off)⟩
    · unfold chkR at q
      rw [if_neg hl] at q
      exact q.elim
  · cases h
theorem se_lst (es : Exps) (ih : SA G xi es) : SE G xi (.lst es) := by
  intro c W X e g h
  rw [chkE.eq_def] at h
  dsimp only at h
  split at h
  · refine (pe_lst (ih g h)).imp3 fun σ H Q hq => ?_
    obtain ⟨env, F, fp, w, hq⟩ := hq
    rw [ev] at hq
    refine rd_args w hq fun ds vs H1 F1 f1 o q => ?_
    by_cases hl : ds.length ≤ 16000000
    · rw [chkR_pos hl] at q
      exact ⟨by rw [← o.r.length]; exact len_ok hl, fun p hp => q _ _ _ _ (o.list hp)⟩
    · unfold chkR at q
      rw [if_neg hl] at q
      exact q.elim
  · cases h
theorem se_call (j : Nat) (es : Exps) (ih : SA G xi es) : SE G xi (.call j es) := by
  intro c W X e g h
  rw [chkE.eq_def] at h
  dsimp only at h
  split at h
  · rename_i x p y ys pos
    simp only [Bool.and_eq_true] at h
    obtain ⟨⟨h1, h2⟩, h3⟩ := h
    obtain ⟨k1, k2, k3⟩ := g.gl h2
    have h1 : c.fns[j]? = some x := by simpa using h1
    rw [g.fns, List.getElem?_map] at h1
    cases hj : G.fns[j]? with
    | none => rw [hj] at h1; cases h1
    | some cl =>
      rw [hj] at h1
      have hx : cl.name = x := Option.some.inj h1
      obtain ⟨hxi, ⟨k, f, fd, ps, FO, hr, hm, hk, hb⟩⟩ := g.calls cl (List.mem_of_getElem? hj)
      subst hxi
      rw [hx] at hm
      have st := chks_star es h3
      refine (pe_callS FO hr k1 hm hk hb (fun σ => passAt g.tk σ) (ih g h3) k2 (star_cons _ _ _ (by
        rw [List.all_cons, Bool.and_eq_true] at st
        simpa using st.1)) (star_any _ _ _ (by
        rw [List.all_cons, Bool.and_eq_true] at st
        exact st.2))).imp3 fun σ H Q hq => ?_
      obtain ⟨env, F, fp, w, hq⟩ := hq
      rw [ev, hj] at hq
      exact rd_args w hq fun ds vs H1 F1 f1 o q => call_of o (o.eH.t w.hi.t) q
  · cases h
/-! ### functions made here and handed over -/
/-- a def that is handed functions, called -/
def tVis (X : Cx) (W : WX) (f : Addr) (t : TA) : TE := fun σ H Q => t σ H fun vs H1 => ∀ (pins : List (Addr × Obj)) (s : Shared) (us : List Value), Inv X pins σ H1 s → Vals vs us → codeAny (model X.prog X.w) X.A (.call (.ref f) ⟨us, []⟩) (CR (L2.CX X.prog X.w) X.stack X.prog X.w H1 s Q (WE W σ)) s
theorem pe_vis {X : Cx} {W : WX} {f : Addr} {x : Str} {y : Expr} {ys : List Expr} {t : TA} {p pos : Pos} (tk : Takes X W) (gx : Gl X x) (mx : X.mg x = some (.ref f)) (kx : PySem.W.keepIn X.K (.ref f) = true) (pa : PA X (y :: ys) t) (dx : (x == ("__debug__" : Str)) = false)
    (s1 : starEach (y :: ys) X.env = (false, eval y X.env) :: starEach ys X.env) (s2 : (backTo pos (starEach ys X.env)).any (·.1) = false) : PE X (.Call (.Name x p) (y :: ys) [] pos) (tVis X W f t) := by
  refine ⟨fun pins s σ H Q J h => wpAny_Call_Name_kw (ld_glob J gx mx (PySem.W.callWith_K (h₀ := X.base) J.ok.mod.kin kx (thn (pa.run pos pins s σ H _ J h) fun us s1 ⟨vs, H1, J1, rv, q⟩ => ⟨J1.kIn, wpAny_call (codeAny_mono (q pins s1 us J1 rv) fun r s2 hr => ?_)⟩) s1 s2) dx)⟩
  cases r with
  | error e => exact passAt tk σ pins H1 s1 e s2 J1 hr
  | ok fl => cases fl with
    | ret u => exact J1.after hr
    | _ => exact hr.elim
/-- a function by its slot, called -/
def tCv (i : Nat) (rr : Addr → List V → Hp → VK → Prop) (t : TA) : TE := fun σ H Q => ∃ a N, σ[i]? = some (some (.ref a)) ∧ H a = some (NdefX.FnO a N) ∧ t σ H fun vs H1 => H1 a = some (NdefX.FnO a N) ∧ rr a vs H1 Q
theorem pe_cv {X : Cx} {i : Nat} {x : Str} {rr : Addr → List V → Hp → VK → Prop} {y : Expr} {ys : List Expr} {t : TA} {p pos : Pos} (hc : ∀ a, CallR X (.ref a) (rr a)) (nx : X.N[i]? = some x) (vx : Vis X.env.scope x) (pa : PA X (y :: ys) t) (d1 : (x == ("__debug__" : Str)) = false) (d2 : (x == ("__classdict__" : Str)) = false)
    (s1 : starEach (y :: ys) X.env = (false, eval y X.env) :: starEach ys X.env) (s2 : (backTo pos (starEach ys X.env)).any (·.1) = false) : PE X (.Call (.Name x p) (y :: ys) [] pos) (tCv i rr t) := by
  refine ⟨fun pins s σ H Q J ⟨a, N, ha, hf, h⟩ => wpAny_Call_Name_kw (thn ((pe_var (pos := p) nx vx d1 d2).run pins s σ H (fun v H1 => v = .ref a ∧ H1 = H) J ⟨.ref a, ha, rfl, rfl⟩) fun u s1' ⟨v, H1, J1, rv, e1, e2⟩ => ?_)⟩
  subst e1 e2
  cases rv
  exact PySem.W.callWith_F (first := []) (NdefX.fnAt_of J1 hf) (thn (pa.run pos pins s1' σ _ _ J1 h) fun us s2' ⟨vs, H2, J2, rs, hf2, q⟩ => ⟨NdefX.fnAt_of J2 hf2, hc a pins s2' σ H2 vs us Q J2 rs q⟩) s1 s2
theorem cloD_some {g : Int → Int → Option Bool} {ds : List D} {d : D} (h : cloD g ds = some d) : ∃ a b c, ds = [.int a, .int b] ∧ g a b = some c ∧ d = .bl c := by
  unfold cloD at h
  split at h
  · rename_i a b
    cases e : g a b with
    | none => rw [e] at h; cases h
    | some c => rw [e] at h; cases h; exact ⟨a, b, c, rfl, e, rfl⟩
  · cases h
theorem se_callv (i : Nat) (es : Exps) (ih : SA G xi es) : SE G xi (.callv i es) := by
  intro c W X e g h
  rw [chkE.eq_def] at h
  dsimp only at h
  split at h
  · rename_i x p y ys pos
    simp only [Bool.and_eq_true] at h
    obtain ⟨⟨h1, h2⟩, h3⟩ := h
    obtain ⟨k1, k2, k3, k4⟩ := g.vis h2
    have st := chks_star es h3
    rw [List.all_cons, Bool.and_eq_true] at st
    refine (pe_cv (i := i) (rr := fun a vs H Q => ∃ n F, xi.fo n a F ∧ rClo (G.lf n) F vs H Q) (fun a pins s σ H vs us Q J rv ⟨n, F, hf, q⟩ => (g.clo h1 n a F hf).2 pins s σ H vs us Q J rv q) k1 k2 (ih g h3) k3 k4 (star_cons _ _ _ (by simpa using st.1)) (star_any _ _ _ st.2)).imp3 fun σ H Q hq => ?_
    obtain ⟨env, F, fp, w, hq⟩ := hq
    rw [ev] at hq
    cases he : (env[i]?).bind id with
    | none => rw [he] at hq; exact hq.elim
    | some d =>
      rw [he] at hq
      cases d <;> try exact hq.elim
      rename_i n
      have he1 : env[i]? = some (some (.clo n)) := by
        cases hz : env[i]? with
        | none => rw [hz] at he; cases he
        | some o => rw [hz] at he; rw [show o = some (.clo n) from he]
      obtain ⟨v, gg, q1, q2, q3⟩ := w.es.get he1
      cases q2 with
      | @clo _ a hfo =>
        obtain ⟨⟨N, hN⟩, _⟩ := g.clo h1 n a F hfo
        have hq' : match (evs G es env).bind fun ds => someOk (cloD (G.lf n) ds) with
          | .ok d => ∀ v H' F' fr, Out1 ⟨X.K, xi⟩ F H [] F' H' d v fr → Q v H'
          | .ex m => Rai X.mg W m σ H
          | .no => False := hq
        refine ⟨a, N, q1, w.sub.k _ _ rfl hN, rd_args w hq' fun ds vs H1 F1 f1 o q => ?_⟩
        refine ⟨o.eH.k _ _ rfl (w.sub.k _ _ rfl hN), n, F, hfo, w.sub.trans o.eH, ?_⟩
        cases ec : cloD (G.lf n) ds with
        | none => rw [ec] at q; exact q.elim
        | some d =>
          rw [ec] at q
          obtain ⟨i1, j1, b, rfl, hg, rfl⟩ := cloD_some ec
          obtain ⟨vs1, hv1⟩ : ∃ z, z = vs := ⟨vs, rfl⟩
          have r := o.r
          have lists : vs = [.int i1, .int j1] := by
            cases r with
            | cons ra rb =>
              cases rb with
              | cons rc rd =>
                cases rd
                obtain ⟨rfl, _⟩ := ra.int'
                obtain ⟨rfl, _⟩ := rc.int'
                rfl
          refine ⟨i1, j1, b, lists, hg, fun H2 e2 => q _ H2 F1 [] ⟨e2, Ex.refl _, o.sub.trans e2, fun a h1 h2 => absurd h1 h2, .bl b, List.nodup_nil, fun a m => absurd m List.not_mem_nil, fun a m => absurd m List.not_mem_nil⟩⟩
  · cases h
theorem se_callc (es : Exps) (ih : SA G xi es) : SE G xi (.callc es) := by
  intro c W X e g h
  rw [chkE.eq_def] at h
  dsimp only at h
  split at h
  · rename_i x p y ys pos
    simp only [Bool.and_eq_true] at h
    obtain ⟨⟨h1, h2⟩, h3⟩ := h
    have h1 : c.vis = some x := by simpa using h1
    obtain ⟨vi, hv, hx, f, hm, hk, hrun⟩ := g.vst x h1
    rw [hx] at hm
    obtain ⟨k1, k2, k3⟩ := g.gl h2
    have st := chks_star es h3
    rw [List.all_cons, Bool.and_eq_true] at st
    refine (pe_vis g.tk k1 hm hk (ih g h3) k2 (star_cons _ _ _ (by simpa using st.1)) (star_any _ _ _ st.2)).imp3 fun σ H Q hq => ?_
    obtain ⟨env, F, fp, w, hq⟩ := hq
    rw [ev, hv] at hq
    have hq' : match (evs G es env).bind fun ds => chkR (ds.length = vi.ar) ((vi.g (fun n => G.cl n env) (frzs ds)).bind fun d => chkR (ownD d = true) (.ok d)) with
      | .ok d => ∀ v H' F' fr, Out1 ⟨X.K, xi⟩ F H [] F' H' d v fr → Q v H'
      | .ex m => Rai X.mg W m σ H
      | .no => False := hq
    refine rd_args w hq' fun ds vs H1 F1 f1 o q => fun pins s us J rv => ?_
    have w1 := w.next o.eH o.eF o.sub o.new
    refine hrun pins σ H1 s us vs xi (fun n => G.cl n env) Q (WE W σ) J rv (g.mkc (by rw [h1]; exact fun z => nomatch z) pins σ H1 s env F1 fp J w1) (g.xnv (by rw [h1]; exact fun z => nomatch z)) ?_
    unfold chkR at q
    by_cases hl : ds.length = vi.ar
    · rw [if_pos hl] at q
      refine ⟨by rw [← o.r.length]; exact hl, w1.hi.t, frzs ds, Rs.all o.sub o.r, allfzs_of_frz ds, ?_⟩
      cases hg : vi.g (fun n => G.cl n env) (frzs ds) with
      | no => rw [hg] at q; exact q.elim
      | ex m => rw [hg] at q; exact q
      | ok d =>
        rw [hg, Res.bind_ok] at q
        by_cases hc : ownD d = true
        · rw [if_pos hc] at q
          exact ⟨hc, fun v H' fr e1 r1 n1 f1' np => q v H' F1 fr ⟨e1, Ex.refl _, o.sub.trans e1, fun a h1 h2 => absurd h1 h2, r1 xi F1, n1, fun a m => .inr (f1' a m), fun a m => o.sub.f a (f1' a m)⟩⟩
        · rw [if_neg hc] at q
          exact q.elim
    · rw [if_neg hl] at q
      exact q.elim
  · cases h
theorem se_blt (f : Fn) (es : Exps) (ih : SA G xi es) : SE G xi (.blt f es) := by
  intro c W X e g h
  rw [chkE.eq_def] at h
  dsimp only at h
  split at h
  · rename_i x p y ys pos
    simp only [Bool.and_eq_true] at h
    obtain ⟨⟨⟨⟨h0, h1⟩, h2⟩, h3⟩, h4⟩ := h
    obtain ⟨k1, k2, k3⟩ := g.gl h2
    have hx : f.nm = x := by simpa using h1
    have hm : X.mg x = none := by rw [← hx]; exact g.blt _ (fn_mem f)
    have hc : f.calm = true → X.calm = true := fun z => g.cm (by
      rw [z] at h0
      simpa using h0)
    have st := chks_star es h3
    have s1 : starEach (y :: ys) X.env = (false, eval y X.env) :: starEach ys X.env := star_cons _ _ _ (by
        rw [List.all_cons, Bool.and_eq_true] at st
        simpa using st.1)
    have s2 : ∀ pos, (backTo pos (starEach ys X.env)).any (·.1) = false := fun pos => star_any _ _ _ (by
        rw [List.all_cons, Bool.and_eq_true] at st
        exact st.2)
    have hv : bootBuiltins x = some f.val := by rw [← hx]; exact fn_boot f (by cases f <;> simp)
    have key : ∀ {σ : L2.St} {H : Hp} {Q : VK}, rdE ⟨X.K, xi⟩ X.mg W G (.blt f es) σ H Q → tCB (rF X.K f) (rdA ⟨X.K, xi⟩ X.mg W G es) σ H Q := by
      intro σ H Q hq
      obtain ⟨env, F, fp, w, hq⟩ := hq
      rw [ev] at hq
      refine rd_args w hq fun ds vs H1 F1 f1 o q => ?_
      cases ef : fnD f ds with
      | none => rw [ef] at q; exact q.elim
      | some d =>
        rw [ef] at q
        exact fn_s (K := ⟨X.K, xi⟩) f o.sub o.r o.nd o.off ef q
    have hcall := fn_call (X := X) f hc
    cases hval : f.val with
    | builtin id =>
      rw [hval] at hv hcall
      exact (pe_callB hcall k1 hm hv (ih g h3) k3 k2 s1 (s2 _)).imp3 fun σ H Q hq => key hq
    | type T =>
      rw [hval] at hv hcall
      exact (pe_callTy hcall k1 hm hv (ih g h3) k3 k2 s1 (s2 _)).imp3 fun σ H Q hq => key hq
    | _ => cases f <;> cases hval
  · cases h
/-- evaluate d while y is held -/
theorem rd_snd {K : Kx} {mg : Str → Option Value} {W : WX} {d : Exp} {σ : L2.St} {H : Hp} {P : V → Hp → Prop} {env : Env} {F : Hp} {fp f2 : List Addr} {y : D} {u : V} (w : Wd K F H env σ fp) (ry : R K F H y u f2) (nd : f2.Nodup) (off : ∀ a ∈ f2, F a = none)
    (h : match ev G d env with
      | .ok z => ∀ v H' F' g, Ex H H' → Ex F F' → Ex F' H' → (∀ a, F a = none → F' a ≠ none → H a = none) → R K F' H' y u f2 → R K F' H' z v g → (f2 ++ g).Nodup → (∀ a ∈ f2 ++ g, F' a = none) → (∀ a ∈ g, H a = none) → P v H'
      | .ex n => Rai mg W n σ H
      | .no => False) : rdE K mg W G d σ H P := by
  refine ⟨env, F, fp, w, ?_⟩
  cases ed : ev G d env with
  | no => rw [ed] at h; exact h
  | ex n => rw [ed] at h; exact h
  | ok z =>
    rw [ed] at h
    intro v H2 F2 g o
    have fr2 : ∀ a ∈ g, H a = none := fun a m => (o.fresh a m).resolve_left List.not_mem_nil
    have has := ry.has
    refine h v H2 F2 g o.eH o.eF o.sub o.new (ry.mono o.eF o.eH) o.r ?_ ?_ fr2
    · refine List.nodup_append.mpr ⟨nd, o.nd, fun a m b m2 e => ?_⟩
      subst e
      obtain ⟨xs, q⟩ := has a m
      rw [fr2 a m2] at q
      cases q
    · intro a m
      rcases List.mem_append.mp m with m | m
      · cases e : F2 a with
        | none => rfl
        | some o' =>
          obtain ⟨xs, q⟩ := has a m
          have z := o.new a (off a m) (by rw [e]; exact fun q => nomatch q)
          rw [q] at z
          cases z
      · exact o.off a m
theorem rd_chain {K : Kx} {mg : Str → Option Value} {W : WX} {o p : BOp} {a b d : Exp} {σ : L2.St} {H : Hp} {Q : VK} (hq : rdE K mg W G (.chain o p a b d) σ H Q) : tChain (rB K.K o) (rB K.K p) (rdE K mg W G a) (rdE K mg W G b) (rdE K mg W G d) σ H Q := by
  obtain ⟨env, F, fp, w, hq⟩ := hq
  rw [ev] at hq
  refine rd_two w ?_
  cases ea : ev G a env with
  | no => rw [ea] at hq; exact hq
  | ex n => rw [ea] at hq; exact hq
  | ok x =>
    rw [ea, Res.bind_ok] at hq
    rw [Res.bind_ok]
    cases eb : ev G b env with
    | no => rw [eb] at hq; exact hq
    | ex n => rw [eb] at hq; exact hq
    | ok y =>
      rw [eb, Res.bind_ok] at hq
      rw [Res.bind_ok]
      intro v u H1 F1 f1 f2 eH eF sub new r1 r2 nd off fr
      have w1 := w.next eH eF sub new
      cases ez : bopD o x y with
      | none => rw [ez] at hq; exact hq.elim
      | some z =>
        rw [ez, someOk_some, Res.bind_ok] at hq
        refine bin_s (K := K) o F1 H1 x y v u f1 f2 z _ sub r1 r2 nd off ez fun zv H3 F3 f3 o3 => ?_
        cases z with
        | bl k =>
          obtain ⟨rfl, rfl⟩ := o3.r.bl'
          refine ⟨k, rfl, ?_⟩
          rw [asB_bl, Res.bind_ok] at hq
          have new3 : ∀ a, F a = none → F3 a ≠ none → H a = none := fun a h1 h2 => by
            cases e : F1 a with
            | none => exact Ex.free eH (o3.new a e h2)
            | some u => exact new a h1 (by rw [e]; exact fun q => nomatch q)
          cases k with
          | false =>
            rw [if_neg Bool.false_ne_true] at hq ⊢
            exact hq _ H3 F3 [] ⟨eH.trans o3.eH, eF.trans o3.eF, o3.sub, new3, .bl _, List.nodup_nil, fun a m => absurd m List.not_mem_nil, fun a m => absurd m List.not_mem_nil⟩
          | true =>
            rw [if_pos rfl] at hq ⊢
            have off2 : ∀ a ∈ f2, F3 a = none := fun a m => by
              cases e : F3 a with
              | none => rfl
              | some o' =>
                obtain ⟨xs, q⟩ := r2.has a m
                have z := o3.new a (off a (List.mem_append_right _ m)) (by rw [e]; exact fun q => nomatch q)
                rw [q] at z
                cases z
            refine rd_snd (w1.next o3.eH o3.eF o3.sub o3.new) (r2.mono o3.eF o3.eH) (List.nodup_append.mp nd).2.1 off2 ?_
            cases ed : ev G d env with
            | no => rw [ed] at hq; exact hq
            | ex n => rw [ed] at hq; exact Rai.mono hq (eH.trans o3.eH)
            | ok z' =>
              rw [ed, Res.bind_ok] at hq
              intro v' H4 F4 g4 eH4 eF4 sub4 new4 ry rz nd4 off4 fr4
              cases ez' : bopD p y z' with
              | none => rw [ez'] at hq; exact hq.elim
              | some z2 =>
                rw [ez', someOk_some] at hq
                refine bin_s (K := K) p F4 H4 y z' u v' f2 g4 z2 _ sub4 ry rz nd4 off4 ez' fun zv H5 F5 f5 o5 => hq zv H5 F5 f5 (o5.comp ((eH.trans o3.eH).trans eH4) ((eF.trans o3.eF).trans eF4) sub4 (fun a h1 h2 => ?_) fun a m => ?_)
                · cases e : F3 a with
                  | none => exact Ex.free (eH.trans o3.eH) (new4 a e h2)
                  | some u => exact new3 a h1 (by rw [e]; exact fun q => nomatch q)
                · rcases List.mem_append.mp m with m | m
                  · exact fr a (List.mem_append_right _ m)
                  · exact Ex.free (eH.trans o3.eH) (fr4 a m)
        | _ => exact hq.elim
theorem se_chain (o p : BOp) (a b d : Exp) (iha : SE G xi a) (ihb : SE G xi b) (ihd : SE G xi d) : SE G xi (.chain o p a b d) := by
  intro c W X e g h
  rw [chkE.eq_def] at h
  dsimp only at h
  split at h
  · rename_i l op oq m r pos
    simp only [Bool.and_eq_true, Bool.not_eq_true'] at h
    obtain ⟨⟨⟨⟨⟨h1, h2⟩, h3⟩, h4⟩, h5⟩, h6⟩ := h
    have hu : X.A.units + 65 < cLine := by have := g.hu; omega
    refine (pe_chain (op_cmp hu h1) (op_cmp hu h2) (iha g h3) (ihb g h4) (ihd g h5) (show lastMarks [op, oq] [m, r] = false from h6)).imp3 fun σ H Q hq => rd_chain hq
  · cases h
end
end L3

set_option maxRecDepth 100000
set_option maxHeartbeats 4000000
/-! L3.Tst: isinstance; tests. -/
namespace L3
open PySem PySem.Spec PyProof.Rows L2
variable [TbC]

section
variable {G : Tab} {xi : Xi}
theorem pe_cls {c : Cc} {W : WX} {X : Cx} {x : Str} {pos : Pos} (g : Good c G xi W X) (h : clsC c x = true) : ∃ v, IsCls c.exs X x v ∧ PE X (.Name x pos) (tC v) := by
  unfold clsC at h
  rw [Bool.and_eq_true] at h
  obtain ⟨h1, h2⟩ := h
  obtain ⟨k1, k2, k3⟩ := g.gl h1
  cases ht : tyNames.contains x with
  | true =>
    obtain ⟨b1, b2⟩ := ty_boot ht
    exact ⟨_, .inl ⟨ht, rfl⟩, pe_bltn k1 (g.blt x b2) b1 rfl k3 k2⟩
  | false =>
    rw [ht] at h2
    by_cases hv : x = "ValueError"
    · subst hv
      exact ⟨_, .inr (.inl ⟨ht, rfl, rfl⟩), pe_bltn k1 g.vae (by decide +kernel : bootBuiltins "ValueError" = some (.type "ValueError")) rfl k3 k2⟩
    · have h3 : x ∈ c.exs := by
        have z : (x == ("ValueError" : Str)) = false := by simpa using hv
        rw [z] at h2
        simpa using h2
      obtain ⟨C, hC⟩ := g.exs x h3
      exact ⟨_, .inr (.inr ⟨ht, hv, h3, C, rfl, hC⟩), pe_glob k1 hC rfl k2⟩
theorem pa_cls {c : Cc} {W : WX} {X : Cx} (g : Good c G xi W X) : ∀ (cs : List Str) (es : List Expr), namesP c cs es = true → ∃ vs, Paired (fun v w => IsCls c.exs X w v) vs cs ∧ PA X es (fun _ H Q => Q vs H)
  | [], [], _ => ⟨[], .nil, pa_nil⟩
  | x :: xs, .Name y p :: es, h => by
    rw [namesP, Bool.and_eq_true, Bool.and_eq_true] at h
    obtain ⟨⟨h1, h2⟩, h3⟩ := h
    have e : x = y := by simpa using h1
    subst e
    obtain ⟨v, hv, pv⟩ := pe_cls (pos := p) g h2
    obtain ⟨vs, hvs, pvs⟩ := pa_cls g xs es h3
    exact ⟨v :: vs, .cons hv hvs, pa_cons pv pvs⟩
  | [], e :: es, h => absurd h (by simp [namesP])
  | x :: xs, [], h => absurd h (by simp [namesP])
  | x :: xs, .BoolOp .. :: es, h | x :: xs, .NamedExpr .. :: es, h | x :: xs, .BinOp .. :: es, h | x :: xs, .UnaryOp .. :: es, h | x :: xs, .Lambda .. :: es, h | x :: xs, .IfExp .. :: es, h | x :: xs, .Dict .. :: es, h
  | x :: xs, .Set .. :: es, h | x :: xs, .ListComp .. :: es, h | x :: xs, .SetComp .. :: es, h | x :: xs, .DictComp .. :: es, h | x :: xs, .GeneratorExp .. :: es, h | x :: xs, .Await .. :: es, h | x :: xs, .Yield .. :: es, h | x :: xs, .YieldFrom .. :: es, h
  | x :: xs, .Compare .. :: es, h | x :: xs, .Call .. :: es, h | x :: xs, .FormattedValue .. :: es, h | x :: xs, .JoinedStr .. :: es, h | x :: xs, .Constant .. :: es, h | x :: xs, .Attribute .. :: es, h | x :: xs, .Subscript .. :: es, h
  | x :: xs, .Starred .. :: es, h | x :: xs, .List .. :: es, h | x :: xs, .Tuple .. :: es, h | x :: xs, .Slice .. :: es, h => absurd h (by simp [namesP])
theorem kit_any {K : PySem.W.Frag} {t : Value} : ∀ {us : List Value} {bs : List Bool}, Paired (fun u b => PySem.W.kitOne K t u = some b) us bs → PySem.W.kitAny K t us = some (bs.any id)
  | _, _, .nil => rfl
  | u :: us, b :: bs, .cons h r => kitAny_cons h (fun e => by
      rw [kit_any r]
      subst e
      rfl) (fun e => by
      subst e
      rfl)
/-- the type's name of what is no error -/
def tyN : D → Option String
  | .non => some "NoneType" | .bl _ => some "bool" | .int _ => some "int" | .str _ => some "str" | .tup _ => some "tuple" | .lst _ _ => some "list" | _ => none
theorem isiD_kit {d : D} {c : Str} {b : Bool} {n : String} (hn : tyN d = some n) (e : isiD d c = some b) : tyNames.contains c = true ∧ b = kitQ n c ∧ n ∈ ["NoneType", "bool", "int", "str", "tuple", "list"] := by
  cases d <;> first
    | (cases hn; done)
    | (cases hn
       obtain ⟨h1, h2⟩ := chkO_some (show chkO _ _ = some b from e)
       cases h2
       exact ⟨h1, rfl, by decide⟩)
theorem isiDs_kit {K : PySem.W.Frag} {X : Cx} {d : D} {n : String} {es : List Str} (hn : tyN d = some n) : ∀ {cs : List Str} {vs : List V} {b : Bool}, isiDs d cs = some b → Paired (fun v w => IsCls es X w v) vs cs →
    ∃ us bs, Paired ClsV vs us ∧ Paired (fun u b => PySem.W.kitOne K (.type n) u = some b) us bs ∧ b = bs.any id
  | [], _, b, e, .nil => ⟨[], [], .nil, .nil, by cases e; rfl⟩
  | c :: cs, _, b, e, .cons (a := v) hv r => by
    have e : ((isiD d c).bind fun b => (isiDs d cs).bind fun r => some (b || r)) = some b := e
    cases e1 : isiD d c with
    | none => rw [e1] at e; cases e
    | some b1 =>
      cases e2 : isiDs d cs with
      | none => rw [e1, e2] at e; cases e
      | some b2 =>
        rw [e1, e2] at e
        cases e
        obtain ⟨us, bs, h1, h2, h3⟩ := isiDs_kit hn e2 r
        obtain ⟨k1, k2, k3⟩ := isiD_kit hn e1
        rcases hv with ⟨_, rfl⟩ | ⟨z, _⟩ | ⟨z, _⟩
        · exact ⟨_ :: us, b1 :: bs, .cons (.ty _) h1, .cons (by rw [k2]; exact kit_q k3 k1) h2, by rw [h3]; rfl⟩
        · rw [k1] at z; cases z
        · rw [k1] at z; cases z
theorem isiDs_exc {n : Str} : ∀ {cs : List Str} {b : Bool}, isiDs (.exc n) cs = some b → b = cs.any (subX n)
  | [], b, e => by cases e; rfl
  | c :: cs, b, e => by
    have e : ((isiD (.exc n) c).bind fun b => (isiDs (.exc n) cs).bind fun r => some (b || r)) = some b := e
    cases e2 : isiDs (.exc n) cs with
    | none => rw [e2] at e; cases e
    | some b2 =>
      rw [e2] at e
      cases e
      rw [isiDs_exc e2]
      rfl
/-- isinstance, whatever it is asked -/
def rIs (es : List Str) (X : Cx) (xi : Xi) : List V → Hp → VK → Prop := fun xs H Q => (rIsi X.K xs H Q ∨ rIsiT X.K xs H Q) ∨ ∃ a n, xi.ex a n ∧ rIsX es X n a xs H Q
theorem call_is {c : Cc} {W : WX} {X : Cx} (g : Good c G xi W X) : CallR X (.builtin "isinstance") (rIs c.exs X xi) := (call_isi.or call_isiT).or fun pins s σ H xs us Q I r ⟨a, n, hx, h⟩ => g.isx a n hx pins s σ H xs us Q I r h
theorem se_isi (a : Exp) (one : Bool) (cs : List Str) (ih : SE G xi a) : SE G xi (.isi a one cs) := by
  intro c W X e g h
  rw [chkE.eq_def] at h
  dsimp only at h
  split at h
  · rename_i x p y z pos
    simp only [Bool.and_eq_true] at h
    obtain ⟨⟨⟨⟨h1, h2⟩, h3⟩, h4, h4'⟩, h5⟩ := h
    obtain ⟨k1, k2, k3⟩ := g.gl h2
    have hx : x = "isinstance" := by simpa using h1
    subst hx
    have hm : X.mg "isinstance" = none := g.blt _ (by decide +kernel)
    have hs : starP y = false := chk_star a h3
    have key : ∀ {v : V} {b : Bool} {d : D} {F H F1 H1 : Hp} {f1 : List Addr} {Q : VK}, Out1 ⟨X.K, xi⟩ F H [] F1 H1 d v f1 → isiDs d cs = some b →
        ((∃ n, d = .exc n ∧ ∃ a, v = .ref a ∧ xi.ex a n) ∨ ∃ n, tyN d = some n ∧ TyX X.K H1 v (.type n)) := by
      intro v b d F H F1 H1 f1 Q o e
      cases d with
      | exc n =>
        cases o.r with
        | exc hx => exact .inl ⟨n, rfl, _, rfl, hx⟩
      | scr ns =>
        cases cs with
        | nil => cases h4
        | cons c0 cs0 => cases e
      | clo ns =>
        cases cs with
        | nil => cases h4
        | cons c0 cs0 => cases e
      | non => exact .inr ⟨_, rfl, ty_of o.sub o.r rfl⟩
      | bl b => exact .inr ⟨_, rfl, ty_of o.sub o.r rfl⟩
      | int i => exact .inr ⟨_, rfl, ty_of o.sub o.r rfl⟩
      | str x => exact .inr ⟨_, rfl, ty_of o.sub o.r rfl⟩
      | tup ds => exact .inr ⟨_, rfl, ty_of o.sub o.r rfl⟩
      | lst f ds => exact .inr ⟨_, rfl, ty_of o.sub o.r rfl⟩
    split at h5
    · rename_i w pw
      simp only [Bool.and_eq_true] at h5
      obtain ⟨⟨_, h6⟩, h7⟩ := h5
      have hc : cs = [w] := by simpa using h6
      obtain ⟨cv, hcv, pcv⟩ := pe_cls (pos := pw) g h7
      refine (pe_callB (call_is g) k1 hm boot_isinstance (pa_cons (ih g h3) (pa_cons pcv pa_nil) (star_cons _ _ _ hs)) k3 k2 (star_cons _ _ _ hs) rfl).imp3 fun σ H Q hq => ?_
      obtain ⟨env, F, fp, wd, hq⟩ := hq
      rw [ev] at hq
      refine rd_one wd hq fun d v H1 F1 f1 o w1 q => ?_
      cases ei : isiDs d cs with
      | none => rw [ei] at q; exact q.elim
      | some b =>
        rw [ei, someOk_some, Res.bind_ok] at q
        rcases key (Q := Q) o ei with ⟨n, rfl, a0, rfl, hx⟩ | ⟨n, hn, ht⟩
        · refine .inr ⟨a0, n, hx, .inl ⟨w, cv, rfl, hcv, ?_⟩⟩
          have hb := isiDs_exc ei
          rw [hc] at hb
          have hb : b = subX n w := by rw [hb]; simp
          rw [← hb]
          exact q _ H1 F1 [] (.flat o.sub (.bl _))
        · rw [hc] at ei
          obtain ⟨us, bs, p1, p2, p3⟩ := isiDs_kit (K := X.K) (X := X) hn ei (.cons hcv .nil)
          cases p1 with
          | cons c1 t1 =>
            cases t1
            cases p2 with
            | @cons u0 b0 _ _ c2 t2 =>
              cases t2
              refine .inl (.inl ⟨v, cv, _, _, b0, rfl, c1, ht, c2, ?_⟩)
              have hb : b = b0 := by rw [p3]; exact Bool.or_false _
              rw [← hb]
              exact q _ H1 F1 [] (.flat o.sub (.bl _))
    · rename_i ws k pw
      simp only [Bool.and_eq_true] at h5
      obtain ⟨vs, hvs, pvs⟩ := pa_cls g cs ws h5.2
      refine (pe_callB (call_is g) k1 hm boot_isinstance (pa_cons (ih g h3) (pa_cons (pe_tup pvs) pa_nil) (star_cons _ _ _ hs)) k3 k2 (star_cons _ _ _ hs) rfl).imp3 fun σ H Q hq => ?_
      obtain ⟨env, F, fp, wd, hq⟩ := hq
      rw [ev] at hq
      refine rd_one wd hq fun d v H1 F1 f1 o w1 q => ?_
      cases ei : isiDs d cs with
      | none => rw [ei] at q; exact q.elim
      | some b =>
        rw [ei, someOk_some, Res.bind_ok] at q
        refine ⟨?_, fun tp htp => ?_⟩
        · rw [Paired.length hvs]
          exact Nat.le_trans (of_decide_eq_true h4') (by rw [sizeLine_eq]; decide)
        · have out : Out1 ⟨X.K, xi⟩ F1 H1 f1 F1 (upd H1 tp (.tup vs)) (.bl b) (.bl b) [] :=
            ⟨Ex.new htp, Ex.refl _, o.sub.trans (Ex.new htp), fun a h1 h2 => absurd h1 h2, .bl _, List.nodup_nil, fun a m => absurd m List.not_mem_nil, fun a m => absurd m List.not_mem_nil⟩
          have ql := q _ _ _ _ out
          rcases key (Q := Q) o ei with ⟨n, rfl, a0, rfl, hx⟩ | ⟨n, hn, ht⟩
          · refine .inr ⟨a0, n, hx, .inr ⟨tp, cs, vs, rfl, upd_same, hvs, ?_⟩⟩
            rw [← isiDs_exc ei]
            exact ql
          · obtain ⟨us, bs, p1, p2, p3⟩ := isiDs_kit (K := X.K) (X := X) hn ei hvs
            refine .inl (.inr ⟨v, tp, vs, _, us, b, rfl, upd_same, p1, ty_of (o.sub.trans (Ex.new htp)) (o.r.mono (Ex.refl _) (Ex.new htp)) (by cases d <;> exact hn), ?_, ql⟩)
            rw [p3]
            exact kit_any p2
    · cases h5
  · cases h
end
end L3

set_option maxRecDepth 100000
set_option maxHeartbeats 4000000
/-! L3.All: slices, tests, comprehensions; all expressions at once. -/
namespace L3
open PySem PySem.Spec PyProof.Rows L2
variable [TbC]

section
variable {G : Tab} {xi : Xi}
theorem st_val {x : Exp} {W : WX} {X : Cx} {e : Expr} (h : PE X e (rdE ⟨X.K, xi⟩ X.mg W G x)) (he : ∀ whole, isTrue e X.env whole = (do let v ← whole; standAt e.pos; holding [v] (truthy v))) : PT X e (rdT ⟨X.K, xi⟩ X.mg W G x) :=
  (pt_val h he).imp3 fun σ H Q hq => rdT_of hq
theorem st_bin (o : BOp) (a b : Exp) (iha : SE G xi a) (ihb : SE G xi b) : ST G xi (.bin o a b) := by
  intro c W X e g h
  have hse := se_bin o a b iha ihb g h
  rw [chkE.eq_def] at h
  dsimp only at h
  split at h
  · exact st_val hse fun _ => rfl
  · simp only [Bool.and_eq_true, Bool.not_eq_true'] at h
    obtain ⟨⟨⟨h1, h2⟩, h3⟩, h4⟩ := h
    exact (pt_cmpR (op_cmp (by have := g.hu; omega) h1) (iha g h2) (ihb g h3) h4).imp3 fun σ H Q hq => rd_bin (bin_s (K := ⟨X.K, xi⟩) o) (rdT_of hq)
  · exact st_val hse fun _ => rfl
  · cases h
theorem st_chain (o p : BOp) (a b d : Exp) (iha : SE G xi a) (ihb : SE G xi b) (ihd : SE G xi d) : ST G xi (.chain o p a b d) := by
  intro c W X e g h
  rw [chkE.eq_def] at h
  dsimp only at h
  split at h
  · rename_i l op oq m r pos
    have h0 := h
    simp only [Bool.and_eq_true, Bool.not_eq_true'] at h
    obtain ⟨⟨⟨⟨⟨h1, h2⟩, h3⟩, h4⟩, h5⟩, h6⟩ := h
    have hu : X.A.units + 65 < cLine := by have := g.hu; omega
    exact (pt_chain (op_cmp hu h1) (op_cmp hu h2) (iha g h3) (ihb g h4) (ihd g h5) (show lastMarks [op, oq] [m, r] = false from h6)).imp3 fun σ H Q hq => rd_chain (rdT_of hq)
  · cases h
theorem st_not (a : Exp) (ih : ST G xi a) : ST G xi (.un .not a) := by
  intro c W X e g h
  rw [chkE.eq_def] at h
  dsimp only at h
  split at h
  · rw [Bool.and_eq_true] at h
    cases h.1
  · rw [Bool.and_eq_true] at h
    refine (pt_not (ih g h.2)).imp3 fun σ H Q hq => ?_
    obtain ⟨env, F, fp, w, hq⟩ := hq
    refine ⟨env, F, fp, w, ?_⟩
    rw [ev] at hq
    cases ea : ev G a env with
    | no => rw [ea] at hq; exact hq
    | ex n => rw [ea] at hq; exact hq
    | ok x =>
      rw [ea, Res.bind_ok] at hq
      cases x with
      | bl b => exact hq
      | _ => exact hq.elim
  · cases h
/-- a test's reading in two steps -/
theorem rdT_two {K : Kx} {mg : Str → Option Value} {W : WX} {a x : Exp} {f : Env → Bool → Res D} {σ : L2.St} {H : Hp} {Q : Bool → Hp → Prop} {P : Bool → Hp → Prop} (hx : ∀ env, ev G x env = (ev G a env).bind fun y => (asB y).bind (f env)) (h : rdT K mg W G x σ H Q)
    (k : ∀ b env F1 fp H1, Wd K F1 H1 env σ fp → (match (f env b).bind asB with
      | .ok b' => ∀ H' F', Ex H1 H' → Ex F1 F' → Ex F' H' → (∀ a, F1 a = none → F' a ≠ none → H1 a = none) → Q b' H'
      | .ex n => Rai mg W n σ H1
      | .no => False) → P b H1) : rdT K mg W G a σ H P := by
  obtain ⟨env, F, fp, w, h⟩ := h
  refine ⟨env, F, fp, w, ?_⟩
  rw [hx] at h
  cases ea : ev G a env with
  | no => rw [ea] at h; exact h
  | ex n => rw [ea] at h; exact h
  | ok y =>
    rw [ea, Res.bind_ok] at h
    rw [Res.bind_ok]
    cases y with
    | bl b =>
      rw [asB_bl, Res.bind_ok] at h
      intro H1 F1 eH eF sub new
      refine k b env F1 fp H1 (w.next eH eF sub new) ?_
      cases ef : (f env b).bind asB with
      | no => rw [ef] at h; exact h
      | ex n => rw [ef] at h; exact Rai.mono h eH
      | ok b' =>
        rw [ef] at h
        exact fun H' F' e1 e2 e3 e4 => h H' F' (eH.trans e1) (eF.trans e2) e3 fun a h1 h2 => by
          cases e : F1 a with
          | none => exact Ex.free eH (e4 a e h2)
          | some u => exact new a h1 (by rw [e]; exact fun q => nomatch q)
    | _ => exact h.elim
theorem rdT_here {K : Kx} {mg : Str → Option Value} {W : WX} {b : Exp} {σ : L2.St} {H : Hp} {Q : Bool → Hp → Prop} {env : Env} {F : Hp} {fp : List Addr} (w : Wd K F H env σ fp) (q : match ((ev G b env).bind fun y => (asB y).bind fun l => Res.ok (D.bl l)).bind asB with
      | .ok b' => ∀ H' F', Ex H H' → Ex F F' → Ex F' H' → (∀ a, F a = none → F' a ≠ none → H a = none) → Q b' H'
      | .ex n => Rai mg W n σ H
      | .no => False) : rdT K mg W G b σ H Q := by
  refine ⟨env, F, fp, w, ?_⟩
  cases eb : ev G b env with
  | no => rw [eb] at q; exact q
  | ex n => rw [eb] at q; exact q
  | ok y =>
    rw [eb, Res.bind_ok] at q
    cases y with
    | bl l => exact q
    | _ => exact q.elim
theorem sw_and (a b : Exp) (iha : ST G xi a) (ihb : ST G xi b) (ihw : SW G xi b) : SW G xi (.and a b) := by
  intro c W X op vs pos g h
  have key : ∀ {σ : L2.St} {H : Hp} {Q : Bool → Hp → Prop}, rdT ⟨X.K, xi⟩ X.mg W G (.and a b) σ H Q → tAnd (rdT ⟨X.K, xi⟩ X.mg W G a) (rdT ⟨X.K, xi⟩ X.mg W G b) σ H Q := by
    intro σ H Q hq
    refine rdT_two (x := .and a b) (f := fun env k => if k = true then (ev G b env).bind fun y => (asB y).bind fun l => .ok (.bl l) else .ok (.bl false)) (fun env => by rw [ev]) hq fun k env F1 fp H1 w q => ?_
    cases k with
    | true =>
      rw [if_pos rfl] at q ⊢
      exact rdT_here w q
    | false =>
      rw [if_neg Bool.false_ne_true] at q ⊢
      exact q H1 F1 (Ex.refl _) (Ex.refl _) w.sub fun a h1 h2 => absurd h1 h2
  rw [chkE.eq_def] at h
  dsimp only at h
  split at h
  · rename_i x y p he
    cases he
    rw [Bool.and_eq_true] at h
    exact (pw_and (iha g h.1) (pw_and1 (ihb g h.2))).imp3 fun σ H Q hq => key hq
  · rename_i x y z rest p he
    cases he
    rw [Bool.and_eq_true] at h
    exact (pw_and (iha g h.1) (ihw g h.2)).imp3 fun σ H Q hq => key hq
  · cases h
theorem sw_or (a b : Exp) (iha : ST G xi a) (ihb : ST G xi b) (ihw : SW G xi b) : SW G xi (.or a b) := by
  intro c W X op vs pos g h
  have key : ∀ {σ : L2.St} {H : Hp} {Q : Bool → Hp → Prop}, rdT ⟨X.K, xi⟩ X.mg W G (.or a b) σ H Q → tOr (rdT ⟨X.K, xi⟩ X.mg W G a) (rdT ⟨X.K, xi⟩ X.mg W G b) σ H Q := by
    intro σ H Q hq
    refine rdT_two (x := .or a b) (f := fun env k => if k = true then .ok (.bl true) else (ev G b env).bind fun y => (asB y).bind fun l => .ok (.bl l)) (fun env => by rw [ev]) hq fun k env F1 fp H1 w q => ?_
    cases k with
    | false =>
      rw [if_neg Bool.false_ne_true] at q ⊢
      exact rdT_here w q
    | true =>
      rw [if_pos rfl] at q ⊢
      exact q H1 F1 (Ex.refl _) (Ex.refl _) w.sub fun a h1 h2 => absurd h1 h2
  rw [chkE.eq_def] at h
  dsimp only at h
  split at h
  · rename_i x y p he
    cases he
    rw [Bool.and_eq_true] at h
    exact (pw_or (iha g h.1) (pw_or1 (ihb g h.2))).imp3 fun σ H Q hq => key hq
  · rename_i x y z rest p he
    cases he
    rw [Bool.and_eq_true] at h
    exact (pw_or (iha g h.1) (ihw g h.2)).imp3 fun σ H Q hq => key hq
  · cases h
theorem st_of_sw {x : Exp} (h : SW G xi x) (hb : ∀ {c : Cc} {e : Expr}, chkE c x e = true → ∃ op vs pos, e = .BoolOp op vs pos) : ST G xi x := by
  intro c W X e g hc
  obtain ⟨op, vs, pos, rfl⟩ := hb hc
  exact (h g hc).pt
/-- no other expression stands where and, or stand -/
theorem sw_no {x : Exp} (h : ∀ {c : Cc} {op : PySem.BoolOp} {vs : List Expr} {pos : Pos}, chkE c x (.BoolOp op vs pos) = false) : SW G xi x := by
  intro c W X op vs pos g hc
  rw [h] at hc
  cases hc
theorem bool_and {c : Cc} {a b : Exp} {e : Expr} (h : chkE c (.and a b) e = true) : ∃ op vs pos, e = .BoolOp op vs pos := by
  rw [chkE.eq_def] at h
  dsimp only at h
  split at h
  · exact ⟨_, _, _, rfl⟩
  · exact ⟨_, _, _, rfl⟩
  · cases h
theorem bool_or {c : Cc} {a b : Exp} {e : Expr} (h : chkE c (.or a b) e = true) : ∃ op vs pos, e = .BoolOp op vs pos := by
  rw [chkE.eq_def] at h
  dsimp only at h
  split at h
  · exact ⟨_, _, _, rfl⟩
  · exact ⟨_, _, _, rfl⟩
  · cases h
/-! ### slices -/
def tPrt (G : Tab) (xi : Xi) (W : WX) (X : Cx) (x : Exp) : TO := if isHole x = true then tNoPart else tPart (rdE ⟨X.K, xi⟩ X.mg W G x)
theorem po_prt {c : Cc} {W : WX} {X : Cx} {x : Exp} {e : Option Expr} (g : Good c G xi W X) (ih : SE G xi x) (h : (match e with | none => isHole x | some l => !isHole x && chkE c x l) = true) : PO X e (tPrt G xi W X x) := by
  cases e with
  | none =>
    unfold tPrt
    rw [if_pos (show isHole x = true from h)]
    exact po_none
  | some l =>
    have h : (!isHole x && chkE c x l) = true := h
    simp only [Bool.and_eq_true, Bool.not_eq_true'] at h
    unfold tPrt
    rw [if_neg (by rw [h.1]; exact Bool.false_ne_true)]
    exact po_some (ih g h.2)
theorem sl_str' {X : Cx} : SlR X rSlS := sl_str
theorem SlR.or {X : Cx} {r r' : V → Option Int → Option Int → Hp → VK → Prop} (h : SlR X r) (h' : SlR X r') : SlR X (fun x lo hi H Q => r x lo hi H Q ∨ r' x lo hi H Q) :=
  fun pins s σ H x v vl vu lo hi sl Q I rx hs pl pu q => q.elim (h pins s σ H x v vl vu lo hi sl Q I rx hs pl pu) (h' pins s σ H x v vl vu lo hi sl Q I rx hs pl pu)
theorem cut_rs {K : Kx} {F H : Hp} {ds : List D} {vs : List V} {f : List Addr} (r : Rs K F H ds vs f) (lo hi : Option Int) : ∃ g, Rs K F H (cutD ds lo hi) (cutV vs lo hi) g ∧ g.Sublist f := by
  unfold cutD cutV
  rw [r.length]
  obtain ⟨g, r1, s1⟩ := r.drop (HT.sIx vs.length 0 lo)
  obtain ⟨g2, r2, s2⟩ := r1.take (HT.sIx vs.length vs.length hi - HT.sIx vs.length 0 lo)
  exact ⟨g2, r2, s2.trans s1⟩
/-- a part's value, while x is held -/
def prt (G : Tab) (x : Exp) (env : Env) : Res (Option Int) := if isHole x then .ok none else (ev G x env).bind fun y => (asI y).bind fun i => .ok (some i)
theorem rd_prt {W : WX} {X : Cx} {x : Exp} {σ : L2.St} {H : Hp} {P : Option Int → Hp → Prop} {env : Env} {F : Hp} {fp f2 : List Addr} {y : D} {u : V} (w : Wd ⟨X.K, xi⟩ F H env σ fp) (ry : R ⟨X.K, xi⟩ F H y u f2) (nd : f2.Nodup) (off : ∀ a ∈ f2, F a = none)
    (h : match prt G x env with
      | .ok z => ∀ H' F', Ex H H' → Ex F F' → Wd ⟨X.K, xi⟩ F' H' env σ fp → (∀ a, F a = none → F' a ≠ none → H a = none) → R ⟨X.K, xi⟩ F' H' y u f2 → (∀ a ∈ f2, F' a = none) → P z H'
      | .ex n => Rai X.mg W n σ H
      | .no => False) : tPrt G xi W X x σ H P := by
  unfold tPrt
  unfold prt at h
  by_cases hh : isHole x = true
  · rw [if_pos hh] at h ⊢
    exact h H F (Ex.refl _) (Ex.refl _) w (fun a h1 h2 => absurd h1 h2) ry off
  · rw [if_neg hh] at h ⊢
    refine rd_snd w ry nd off ?_
    cases ex : ev G x env with
    | no => rw [ex] at h; exact h
    | ex n => rw [ex] at h; exact h
    | ok z =>
      rw [ex, Res.bind_ok] at h
      intro v H' F' g eH eF sub new r1 r2 nd2 off2 fr
      cases z with
      | int i =>
        obtain ⟨rfl, rfl⟩ := r2.int'
        exact ⟨i, rfl, h H' F' eH eF (w.next eH eF sub new) new r1 fun a m => off2 a (List.mem_append_left _ m)⟩
      | _ => exact h.elim
theorem se_slc (a lo hi : Exp) (iha : SE G xi a) (ihl : SE G xi lo) (ihh : SE G xi hi) : SE G xi (.slc a lo hi) := by
  intro c W X e g h
  rw [chkE.eq_def] at h
  dsimp only at h
  split at h
  · rename_i x l u p2 pos
    simp only [Bool.and_eq_true] at h
    obtain ⟨⟨h1, h2⟩, h3⟩ := h
    refine (pe_slice (((sl_list (X := X)).or sl_str').or sl_tup) (iha g h1) (po_prt g ihl h2) (po_prt g ihh h3)).imp3 fun σ H Q hq => ?_
    obtain ⟨env, F, fp, w, hq⟩ := hq
    rw [ev] at hq
    refine rd_one (f := fun x => (prt G lo env).bind fun l => (prt G hi env).bind fun h => someOk (slcD x l h)) w hq fun d v H1 F1 f1 o w1 q => ?_
    refine rd_prt w1 o.r o.nd o.off ?_
    cases el : prt G lo env with
    | no => rw [el] at q; exact q
    | ex n => rw [el] at q; exact q
    | ok l0 =>
      rw [el, Res.bind_ok] at q
      intro H2 F2 eH eF w2 new r2 off2
      refine rd_prt w2 r2 o.nd off2 ?_
      cases eu : prt G hi env with
      | no => rw [eu] at q; exact q
      | ex n => rw [eu] at q; exact Rai.mono q eH
      | ok u0 =>
        rw [eu, Res.bind_ok] at q
        intro H3 F3 eH3 eF3 w3 new3 r3 off3
        have new' : ∀ a, F1 a = none → F3 a ≠ none → H1 a = none := fun a h1 h2 => by
          cases e : F2 a with
          | none => exact Ex.free eH (new3 a e h2)
          | some u => exact new a h1 (by rw [e]; exact fun q => nomatch q)
        have back : ∀ {d' : D} {v' : V} {H' F' : Hp} {fr : List Addr}, Out1 ⟨X.K, xi⟩ F3 H3 f1 F' H' d' v' fr → Out1 ⟨X.K, xi⟩ F1 H1 f1 F' H' d' v' fr := fun o3 => by
          refine ⟨(eH.trans eH3).trans o3.eH, (eF.trans eF3).trans o3.eF, o3.sub, fun a h1 h2 => ?_, o3.r, o3.nd, fun a m => ?_, o3.off⟩
          · cases e : F3 a with
            | none => exact Ex.free (eH.trans eH3) (o3.new a e h2)
            | some u => exact new' a h1 (by rw [e]; exact fun q => nomatch q)
          · rcases o3.fresh a m with z | z
            · exact .inl z
            · exact .inr (Ex.free (eH.trans eH3) z)
        cases d with
        | lst f ds =>
          have hs := r3.has
          obtain ⟨a, vs, g0, rfl, ha, rr, sb⟩ := R.lst' w3.sub r3
          obtain ⟨g2, rc, sc⟩ := cut_rs rr l0 u0
          refine .inl (.inl ⟨a, vs, rfl, .inl (.inl ha), fun p hp => q _ _ _ _ (back (Out1.list w3.sub hp rc (nd_sub (sc.trans sb) o.nd) (fun c m => (sc.trans sb).subset m) off3 fun c m z => ?_))⟩)
          obtain ⟨xs, hx⟩ := hs c m
          rw [hx] at z
          cases z
        | str z =>
          obtain ⟨rfl, rfl⟩ := r3.str'
          by_cases hz : z.length ≤ 16000000
          · have e1 : slcD (.str z) l0 u0 = some (.str (cutS z l0 u0)) := chkO_pos hz
            rw [e1] at q
            exact .inl (.inr ⟨z, rfl, Nat.le_trans hz line16, q _ _ _ _ (back (.flat w3.sub (.str _)))⟩)
          · have e1 : slcD (.str z) l0 u0 = none := if_neg hz
            rw [e1] at q
            exact q.elim
        | tup ds =>
          obtain ⟨a, vs, rfl, ht, rr⟩ := R.tup' r3
          by_cases hz : ¬ (HT.sIx ds.length 0 l0 = 0 ∧ HT.sIx ds.length ds.length u0 = ds.length)
          · have e1 : slcD (.tup ds) l0 u0 = some (.tup (cutD ds l0 u0)) := chkO_pos hz
            rw [e1] at q
            obtain ⟨g2, rc, sc⟩ := cut_rs rr l0 u0
            exact .inr ⟨a, vs, rfl, ht, by rw [← rr.length]; exact hz, fun p hp => q _ _ _ _ (back (Out1.tuple w3.sub hp rc (nd_sub sc o.nd) (fun c m => sc.subset m) off3))⟩
          · have e1 : slcD (.tup ds) l0 u0 = none := if_neg hz
            rw [e1] at q
            exact q.elim
        | _ => exact q.elim
  · cases h
end
end L3

set_option maxRecDepth 100000
set_option maxHeartbeats 4000000
/-! L3.Lc: what a for walks, as it is written; comprehensions. -/
namespace L3
open PySem PySem.Spec PyProof.Rows L2
variable [TbC]

section
variable {G : Tab} {xi : Xi}
theorem rdE.mono3 {K : Kx} {mg : Str → Option Value} {W : WX} {a : Exp} {σ : L2.St} {H : Hp} {Q Q' : VK} (h : rdE K mg W G a σ H Q) (k : ∀ v H, Q v H → Q' v H) : rdE K mg W G a σ H Q' := by
  obtain ⟨env, F, fp, w, h⟩ := h
  refine ⟨env, F, fp, w, ?_⟩
  cases ea : ev G a env with
  | no => rw [ea] at h; exact h
  | ex n => rw [ea] at h; exact h
  | ok d => rw [ea] at h; exact fun v H' F' fr o => k _ _ (h v H' F' fr o)
theorem rd_single {K : Kx} {mg : Str → Option Value} {W : WX} {a : Exp} {σ : L2.St} {H : Hp} {P : List V → Hp → Prop} (h : rdA K mg W G (.cons a .nil) σ H P) : rdE K mg W G a σ H fun v H1 => P [v] H1 :=
  rdE.mono3 (rd_cons h) fun v H1 q => rd_nil q
def setP : Expr → Bool
  | .Set .. => true
  | _ => false
theorem fold_none (e : Expr) (env : PySem.Env) (h : setP e = false) : ∀ x, foldedSetIterable e env x = pure x := by
  intro x
  cases e <;> first | rfl | cases h
theorem chk_noset {c : Cc} : ∀ (x : Exp) {e : Expr}, chkE c x e = true → setP e = false
  | .frz a, e, h => chk_noset a (chk_frz h).2
  | .lrng _, e, h | .lrev _, e, h | .callv _ _, e, h | .din _ _ _, e, h | .dget _ _, e, h | .callc _, e, h | .var _, e, h | .int _, e, h | .bl _, e, h | .str _, e, h | .non, e, h | .glo _, e, h | .un _ _, e, h | .bin _ _ _, e, h | .chain _ _ _ _ _, e, h | .and _ _, e, h | .or _ _, e, h | .ife _ _ _, e, h | .slc _ _ _, e, h | .hole, e, h | .tup _, e, h | .lst _, e, h | .call _ _, e, h | .blt _ _, e, h | .mth _ _ _, e, h | .isi _ _ _, e, h | .lc _ _ _ _ _, e, h => by
    cases e <;> first | rfl | exact absurd (show false = true from h) Bool.false_ne_true
/-- what is shown of the containers -/
def ItIH (G : Tab) (xi : Xi) : Exps → Prop
  | .cons a r => SE G xi a ∧ SA G xi r
  | .nil => True
/-- what is walked, as it is written -/
theorem pi_of {c : Cc} {W : WX} {X : Cx} {k : ItK} {its : Exps} {t iter : Expr} (g : Good c G xi W X) (h : chkIt c k its t iter = true) (iha : SA G xi its)
    (ihe : ItIH G xi its) :
    PI X t iter (fun σ H R' => rdA ⟨X.K, xi⟩ X.mg W G its σ H fun vs H1 => rIt X.K k vs H1 R') ∧ ∀ x, foldedSetIterable iter X.env x = pure x := by
  cases its with
  | nil => exact absurd (show false = true from h) Bool.false_ne_true
  | cons a r =>
    rw [chkIt.eq_def] at h
    dsimp only at h
    have one : ∀ {e1 : Expr}, chkE c a e1 = true → chkEs c r [] = true → PA X [e1] (rdA ⟨X.K, xi⟩ X.mg W G (.cons a r)) := fun h1 h2 => iha g (show (chkE c a _ && chkEs c r []) = true by rw [h1, h2]; rfl)
    have rnil : chkEs c r [] = true → r = .nil := fun z => by cases r with
      | nil => rfl
      | cons _ _ => exact absurd (show false = true from z) Bool.false_ne_true
    cases k with
    | sql =>
      dsimp only at h
      rw [Bool.and_eq_true] at h
      obtain ⟨h1, h2⟩ := h
      cases r with
      | cons _ _ => cases h2
      | nil =>
        refine ⟨(pi_list (ihe.1 g h1)).imp3 fun σ H R' hq => rdE.mono3 (rd_single hq) fun v H1 ⟨a', e, q⟩ => ?_, fold_none _ _ (chk_noset a h1)⟩
        cases e
        exact ⟨a', rfl, q⟩
    | sqt =>
      dsimp only at h
      rw [Bool.and_eq_true] at h
      obtain ⟨h1, h2⟩ := h
      cases r with
      | cons _ _ => cases h2
      | nil =>
        refine ⟨(pi_tup (ihe.1 g h1)).imp3 fun σ H R' hq => rdE.mono3 (rd_single hq) fun v H1 ⟨a', e, q⟩ => ?_, fold_none _ _ (chk_noset a h1)⟩
        cases e
        exact ⟨a', rfl, q⟩
    | sqs =>
      dsimp only at h
      rw [Bool.and_eq_true] at h
      obtain ⟨h1, h2⟩ := h
      cases r with
      | cons _ _ => cases h2
      | nil =>
        refine ⟨(pi_str (ihe.1 g h1)).imp3 fun σ H R' hq => rdE.mono3 (rd_single hq) fun v H1 ⟨a', e, q⟩ => ?_, fold_none _ _ (chk_noset a h1)⟩
        cases e
        exact ⟨a', rfl, q⟩
    | rng1 =>
      dsimp only at h
      split at h
      · simp only [Bool.and_eq_true] at h
        obtain ⟨⟨h1, h2⟩, h3, h4⟩ := h
        have e := beq_iff_eq.mp h1
        subst e
        have s1 : ∀ env, starEach [_] env = [(false, eval _ env)] := fun env => star_cons _ [] env (chk_star a h3)
        exact ⟨pi_range1 (g.gl h2).1 (g.blt _ (by decide +kernel)) (one h3 h4) (s1 _), fun _ => rfl⟩
      · cases h
    | rng2 =>
      dsimp only at h
      split at h
      · rename_i x p e1 e2 pos
        simp only [Bool.and_eq_true] at h
        obtain ⟨⟨h1, h2⟩, h3, h4⟩ := h
        have e := beq_iff_eq.mp h1
        subst e
        have st := chks_star r h4
        have z2 : starP e2 = false := by simpa using st
        have s2 : starEach [e2] X.env = [(false, eval e2 X.env)] := star_cons e2 [] X.env z2
        have s1 : starEach [e1, e2] X.env = [(false, eval e1 X.env), (false, eval e2 X.env)] := by rw [star_cons e1 [e2] X.env (chk_star a h3), s2]
        exact ⟨pi_range2 (g.gl h2).1 (g.blt _ (by decide +kernel)) (iha g (show (chkE c a e1 && chkEs c r [e2]) = true by rw [h3, h4]; rfl)) s1 s2, fun _ => rfl⟩
      · cases h
    | rng3 =>
      dsimp only at h
      split at h
      · rename_i x p e1 e2 e3 pos
        simp only [Bool.and_eq_true] at h
        obtain ⟨⟨h1, h2⟩, h3, h4⟩ := h
        have e := beq_iff_eq.mp h1
        subst e
        exact ⟨pi_range3 (g.gl h2).1 (g.blt _ (by decide +kernel)) (iha g (show (chkE c a e1 && chkEs c r [e2, e3]) = true by rw [h3, h4]; rfl)) (star_cons _ _ _ (chk_star a h3)) (star_any _ _ _ (chks_star r h4)), fun _ => rfl⟩
      · cases h
    | enm =>
      dsimp only at h
      split at h
      · rename_i x p e1 pos elts kk tp
        simp only [Bool.and_eq_true] at h
        obtain ⟨⟨h1, h2⟩, h3, h4⟩ := h
        have e := beq_iff_eq.mp h1
        subst e
        exact ⟨pi_enum (g.gl h2).1 (g.blt _ (by decide +kernel)) (one h3 h4) (star_cons _ _ _ (chk_star a h3)), fun _ => rfl⟩
      · cases h
    | zip =>
      dsimp only at h
      split at h
      · rename_i x p e1 e2 pos elts kk tp
        simp only [Bool.and_eq_true] at h
        obtain ⟨⟨h1, h2⟩, h3, h4⟩ := h
        have e := beq_iff_eq.mp h1
        subst e
        exact ⟨pi_zip (g.gl h2).1 (g.blt _ (by decide +kernel)) (iha g (show (chkE c a e1 && chkEs c r [e2]) = true by rw [h3, h4]; rfl)) (star_cons _ _ _ (chk_star a h3)) (star_any _ _ _ (chks_star r h4)), fun _ => rfl⟩
      · cases h
/-! ### slots stored -/
theorem Es.put {K : Kx} {F H : Hp} {d : D} {v : V} {g : List Addr} (r : R K F H d v g) : ∀ {e : Env} {s : L2.St} {fp : List Addr} (i : Nat), Es K F H e s fp → ∃ fp', Es K F H (e.set i (some d)) (s.set i (some v)) fp' ∧ (∀ a ∈ fp', a ∈ g ∨ a ∈ fp) ∧ ((g ++ fp).Nodup → fp'.Nodup)
  | _, _, _, i, .emp => ⟨[], .emp, fun a m => absurd m List.not_mem_nil, fun _ => List.nodup_nil⟩
  | _, _, _, 0, .no o q => ⟨_, .ye r q, fun a m => List.mem_append.mp m, id⟩
  | _, _, _, 0, .ye (f1 := f1) (f2 := f2) h q => ⟨_, .ye r q, fun a m => (List.mem_append.mp m).imp id fun m => List.mem_append_right _ m, fun n => nd_sub ((List.Sublist.refl g).append (List.sublist_append_right f1 f2)) n⟩
  | _, _, _, i + 1, .no o q => by
    obtain ⟨fp', h1, h2, h3⟩ := Es.put r i q
    exact ⟨fp', .no o h1, h2, h3⟩
  | _, _, _, i + 1, .ye (f1 := f1) (f2 := f2) h q => by
    obtain ⟨fp', h1, h2, h3⟩ := Es.put r i q
    refine ⟨_, .ye h h1, fun a m => ?_, fun n => ?_⟩
    · rcases List.mem_append.mp m with m | m
      · exact .inr (List.mem_append_left _ m)
      · exact (h2 a m).imp id fun m => List.mem_append_right _ m
    · have n1 := List.nodup_append.mp n
      have n2 := List.nodup_append.mp n1.2.1
      refine List.nodup_append.mpr ⟨n2.1, h3 (List.nodup_append.mpr ⟨n1.1, n2.2.1, fun a m b m' => n1.2.2 a m b (List.mem_append_right _ m')⟩), fun a m b m' => ?_⟩
      rcases h2 b m' with z | z
      · exact fun e => n1.2.2 b z a (List.mem_append_left _ m) e.symm
      · exact n2.2.2 a m b z
/-- slots forgotten -/
theorem Es.wipe {K : Kx} {F H : Hp} {e : Env} {s : L2.St} {fp : List Addr} : ∀ (vs : List Nat), Es K F H e s fp → ∃ g, Es K F H (wipeE e vs) (L2.wipe s vs) g ∧ g.Sublist fp
  | [], q => ⟨fp, q, List.Sublist.refl _⟩
  | v :: vs, q => by
    obtain ⟨g, h1, h2⟩ := Es.wipe vs q
    obtain ⟨g2, h3, h4⟩ := Es.drop v none h1
    exact ⟨g2, h3, h4.trans h2⟩
theorem wipe_get {s : L2.St} : ∀ {vs : List Nat} {i : Nat}, (L2.wipe s vs)[i]? = if i ∈ vs ∧ i < s.length then some none else s[i]?
  | [], i => by simp [L2.wipe]
  | v :: vs, i => by
    unfold L2.wipe
    rw [List.getElem?_set]
    by_cases h : v = i
    · subst h
      rw [if_pos rfl, wipe_length]
      by_cases hl : v < s.length
      · rw [if_pos hl, if_pos ⟨List.mem_cons_self, hl⟩]
      · rw [if_neg hl, if_neg (fun z => hl z.2)]
        exact (List.getElem?_eq_none_iff.mpr (by omega)).symm
    · rw [if_neg h, wipe_get]
      by_cases hm : i ∈ vs ∧ i < s.length
      · rw [if_pos hm, if_pos ⟨List.mem_cons_of_mem _ hm.1, hm.2⟩]
      · rw [if_neg hm, if_neg (fun z => hm ⟨(List.mem_cons.mp z.1).resolve_left (Ne.symm h), z.2⟩)]
theorem wipe_put {s : L2.St} {vs : List Nat} {i : Nat} {x : Option V} (h : i ∈ vs) : L2.wipe (s.set i x) vs = L2.wipe s vs := by
  apply List.ext_getElem?
  intro j
  rw [wipe_get, wipe_get, List.length_set]
  by_cases hj : j ∈ vs ∧ j < s.length
  · rw [if_pos hj, if_pos hj]
  · rw [if_neg hj, if_neg hj, List.getElem?_set]
    by_cases e : i = j
    · subst e
      have hl : ¬ i < s.length := fun z => hj ⟨h, z⟩
      rw [if_pos rfl, if_neg hl]
      exact (List.getElem?_eq_none_iff.mpr (by omega)).symm
    · rw [if_neg e]
theorem wipe_wipe {s : L2.St} {vs : List Nat} : L2.wipe (L2.wipe s vs) vs = L2.wipe s vs := by
  apply List.ext_getElem?
  intro j
  rw [wipe_get, wipe_length]
  by_cases hj : j ∈ vs ∧ j < s.length
  · rw [if_pos hj, wipe_get, if_pos hj]
  · rw [if_neg hj]
/-! ### targets -/
def gNames : List Nat → TGs
  | [] => gNil
  | i :: is => gCons (gName i) (gNames is)
def gTg (K : PySem.W.Frag) : Tg → TG
  | .one i => gName i
  | .many is => gTup K is.length (gNames is)
theorem asg_len {c : Cc} {env : PySem.Env} : ∀ {is : List Nat} {es : List Expr}, tgsC c is es = true → (assignEach es env).length = is.length ∧ (assignEach es env).findIdx? (·.1) = none ∧ (assignEach es env).all (fun p => !p.1) = true
  | [], [], _ => ⟨rfl, rfl, rfl⟩
  | [], e :: es, h => absurd h (by simp [tgsC])
  | i :: is, [], h => absurd h (by simp [tgsC])
  | i :: is, e :: es, h => by
    cases e <;> first
      | (rw [tgsC, Bool.and_eq_true] at h
         obtain ⟨h1, h2, h3⟩ := asg_len (env := env) h.2
         refine ⟨by show (assignEach es env).length + 1 = _; rw [h1]; rfl, ?_, ?_⟩
         · show List.findIdx? _ ((false, _) :: assignEach es env) = none
           rw [List.findIdx?_cons]
           simp [h2]
         · show ((!false) && (assignEach es env).all fun p => !p.1) = true
           rw [h3]
           rfl)
      | (exact absurd h (by simp [tgsC]))
theorem tlc_ok {c : Cc} {X : Cx} {i : Nat} {x : Str} (hN : X.N = c.N) (hsc : X.env.scope = c.sc) (hf : ∀ x, (c.cel || c.own x) = true → X.fn x = true) (h : tlcC c i x = true) : X.N[i]? = some x ∧ L2.Loc X.env.scope x ∧ (X.fn x = true ∨ X.env.scope.names.lookup x = some .local) := by
  unfold tlcC at h
  rw [Bool.or_eq_true, Bool.and_eq_true] at h
  rcases h with h | ⟨h0, h⟩
  · unfold locC at h
    rw [Bool.and_eq_true, beq_iff_eq, beq_iff_eq] at h
    have hl : X.env.scope.names.lookup x = some NameKind.local := by rw [hsc]; exact h.2
    exact ⟨by rw [hN]; exact h.1, .inl hl, .inr hl⟩
  · unfold lofC at h
    rw [Bool.and_eq_true, beq_iff_eq] at h
    refine ⟨by rw [hN]; exact h.1, ?_, .inl (hf x h0)⟩
    have h2 := h.2
    unfold L2.Loc
    rw [hsc]
    unfold isLoc at h2
    split at h2
    · rename_i e; exact .inl e
    · rename_i e; exact .inr e
    · cases h2
theorem pgs_names {c : Cc} {X : Cx} (hf : ∀ x, (c.cel || c.own x) = true → X.fn x = true) (hN : X.N = c.N) (hsc : X.env.scope = c.sc) (nd : X.N.Nodup) : ∀ {is : List Nat} {es : List Expr}, tgsC c is es = true → PGs X es (gNames is)
  | [], [], _ => pgs_nil
  | [], e :: es, h => absurd h (by simp [tgsC])
  | i :: is, [], h => absurd h (by simp [tgsC])
  | i :: is, e :: es, h => by
    cases e
    case Name x p =>
      rw [tgsC, Bool.and_eq_true] at h
      obtain ⟨q1, q2, q3⟩ := tlc_ok hN hsc hf h.1
      exact pgs_cons (pg_name nd q1 q2 q3) (pgs_names hf hN hsc nd h.2)
    all_goals exact absurd h (by simp [tgsC])
theorem pg_of {c : Cc} {X : Cx} (hf : ∀ x, (c.cel || c.own x) = true → X.fn x = true) (hN : X.N = c.N) (hsc : X.env.scope = c.sc) (nd : X.N.Nodup) (hc : X.calm = true) {tg : Tg} {t : Expr} (h : tgC c tg t = true) : PG X t (gTg X.K tg) := by
  cases tg with
  | one i =>
    cases t
    case Name x p =>
      obtain ⟨q1, q2, q3⟩ := tlc_ok hN hsc hf (show tlcC c i x = true from h)
      exact pg_name nd q1 q2 q3
    all_goals exact absurd (show false = true from h) Bool.false_ne_true
  | many is =>
    cases t <;> first
      | (have h1 : tgsC c is _ = true := h
         obtain ⟨h2, h3, h4⟩ := asg_len (env := X.env) h1
         exact pg_tup hc (pgs_names hf hN hsc nd h1) h2 h3)
      | (exact absurd (show false = true from h) Bool.false_ne_true)
/-- a store into the slots, as the small language tells it -/
theorem gNames_of {K : Kx} {F H : Hp} {vs : List Nat} : ∀ {is : List Nat} {ds : List D} {xs : List V} {env env' : Env} {σ : L2.St} {fp : List Addr} {Q : L2.St → Hp → Prop}, setAll is ds env = some env' → Rs K F H ds xs [] → Es K F H env σ fp → fp.Nodup → (∀ i ∈ is, i ∈ vs) →
    (∀ σ' fp', Es K F H env' σ' fp' → fp'.Nodup → (∀ a ∈ fp', a ∈ fp) → L2.wipe σ' vs = L2.wipe σ vs → Q σ' H) → gNames is xs σ H Q
  | [], [], _, env, env', σ, fp, Q, e, r, w, n, hv, k => by
    cases e
    cases r
    exact ⟨rfl, k σ fp w n (fun a m => m) rfl⟩
  | [], d :: ds, _, env, env', σ, fp, Q, e, r, w, n, hv, k => by cases e
  | i :: is, [], _, env, env', σ, fp, Q, e, r, w, n, hv, k => by cases e
  | i :: is, d :: ds, xs, env, env', σ, fp, Q, e, r, w, n, hv, k => by
    obtain ⟨v, t, rfl, r1, r2⟩ := r.uncons
    obtain ⟨fp', h1, h2, h3⟩ := Es.put r1 i w
    refine ⟨v, t, rfl, gNames_of (vs := vs) (env := env.set i (some d)) e r2 h1 (h3 n) (fun j m => hv j (List.mem_cons_of_mem _ m)) fun σ' fp2 q1 q2 q3 q4 => k σ' fp2 q1 q2 (fun a m => ?_) (q4.trans (wipe_put (hv i List.mem_cons_self)))⟩
    exact (h2 a (q3 a m)).resolve_left List.not_mem_nil
theorem gTg_of {K : Kx} {F H : Hp} {tg : Tg} {d : D} {x : V} {env env' : Env} {σ : L2.St} {fp : List Addr} {Q : L2.St → Hp → Prop} (e : bindT tg d env = some env') (r : R K F H d x []) (w : Es K F H env σ fp) (n : fp.Nodup)
    (k : ∀ σ' fp', Es K F H env' σ' fp' → fp'.Nodup → (∀ a ∈ fp', a ∈ fp) → L2.wipe σ' tg.slots = L2.wipe σ tg.slots → Q σ' H) : gTg K.K tg x σ H Q := by
  cases tg with
  | one i =>
    cases (show some (env.set i (some d)) = some env' from e)
    obtain ⟨fp', h1, h2, h3⟩ := Es.put r i w
    exact k _ fp' h1 (h3 n) (fun a m => (h2 a m).resolve_left List.not_mem_nil) (wipe_put (by simp [Tg.slots]))
  | many is =>
    cases d <;> try (exact absurd (show (none : Option Env) = some env' from e) (fun z => nomatch z))
    rename_i ds
    obtain ⟨a, xs, rfl, h1, h2⟩ := r.tup'
    refine ⟨a, xs, rfl, h1, ?_, gNames_of (vs := is) (show setAll is ds env = some env' from e) h2 w n (fun i m => m) k⟩
    rw [← h2.length]
    have : ∀ {is : List Nat} {ds : List D} {env env' : Env}, setAll is ds env = some env' → ds.length = is.length := by
      intro is
      induction is with
      | nil => intro ds env env' e; cases ds with
        | nil => rfl
        | cons _ _ => cases e
      | cons i is ih => intro ds env env' e; cases ds with
        | nil => cases e
        | cons d ds => simp [ih (show setAll is ds (env.set i (some d)) = some env' from e)]
    exact this e
/-- many targets take what they own with them -/
theorem gNamesO_of {K : Kx} {F H : Hp} : ∀ {is : List Nat} {ds : List D} {xs : List V} {g : List Addr} {env env' : Env} {σ : L2.St} {fp : List Addr} {Q : L2.St → Hp → Prop}, setAll is ds env = some env' → Rs K F H ds xs g → Es K F H env σ fp → (g ++ fp).Nodup →
    (∀ σ' fp', Es K F H env' σ' fp' → fp'.Nodup → (∀ a ∈ fp', a ∈ g ++ fp) → Q σ' H) → gNames is xs σ H Q
  | [], [], _, g, env, env', σ, fp, Q, e, r, w, n, k => by
    cases e
    cases r
    exact ⟨rfl, k σ fp w n (fun a m => m)⟩
  | [], d :: ds, _, g, env, env', σ, fp, Q, e, r, w, n, k => by cases e
  | i :: is, [], _, g, env, env', σ, fp, Q, e, r, w, n, k => by cases e
  | i :: is, d :: ds, _, _, env, env', σ, fp, Q, e, .cons (f1 := f1) (f2 := f2) (v := v) (vs := t) r1 r2, w, n, k => by
    obtain ⟨fp', h1, h2, h3⟩ := Es.put r1 i w
    have n1 := List.nodup_append.mp n
    have n2 := List.nodup_append.mp n1.1
    refine ⟨v, t, rfl, gNamesO_of (env := env.set i (some d)) e r2 h1 (List.nodup_append.mpr ⟨n2.2.1, h3 (List.nodup_append.mpr ⟨n2.1, n1.2.1, fun a m b m' => n1.2.2 a (List.mem_append_left _ m) b m'⟩), fun a m b m' e => ?_⟩) fun σ' fp2 q1 q2 q3 => k σ' fp2 q1 q2 fun a m => ?_⟩
    · subst e
      rcases h2 a m' with z | z
      · exact n2.2.2 a z a m rfl
      · exact n1.2.2 a (List.mem_append_right _ m) a z rfl
    · rcases List.mem_append.mp (q3 a m) with z | z
      · exact List.mem_append_left _ (List.mem_append_right _ z)
      · rcases h2 a z with z | z
        · exact List.mem_append_left _ (List.mem_append_left _ z)
        · exact List.mem_append_right _ z
theorem gTgO_of {K : Kx} {F H : Hp} {is : List Nat} {d : D} {x : V} {g : List Addr} {env env' : Env} {σ : L2.St} {fp : List Addr} {Q : L2.St → Hp → Prop} (e : bindT (.many is) d env = some env') (r : R K F H d x g) (w : Es K F H env σ fp) (n : (g ++ fp).Nodup)
    (k : ∀ σ' fp', Es K F H env' σ' fp' → fp'.Nodup → (∀ a ∈ fp', a ∈ g ++ fp) → Q σ' H) : gTg K.K (.many is) x σ H Q := by
  cases d <;> try (exact absurd (show (none : Option Env) = some env' from e) (fun z => nomatch z))
  rename_i ds
  cases r with
  | tup h1 h2 =>
    refine ⟨_, _, rfl, h1, ?_, gNamesO_of (show setAll is ds env = some env' from e) h2 w n k⟩
    rw [← h2.length]
    have : ∀ {is : List Nat} {ds : List D} {env env' : Env}, setAll is ds env = some env' → ds.length = is.length := by
      intro is
      induction is with
      | nil => intro ds env env' e; cases ds with
        | nil => rfl
        | cons _ _ => cases e
      | cons i is ih => intro ds env env' e; cases ds with
        | nil => cases e
        | cons d ds => simp [ih (show setAll is ds (env.set i (some d)) = some env' from e)]
    exact this e
end
end L3

set_option maxRecDepth 100000
set_option maxHeartbeats 4000000
/-! L3.Lc2: comprehensions; all expressions. -/
namespace L3
open PySem PySem.Spec PyProof.Rows L2
variable [TbC]

def W0 : WX := fun _ _ _ _ => False
/-- what one turn of a comprehension makes -/
def lcOne (G : Tab) (tg : Tg) (d e : Exp) (env : Env) (x : D) : Res (Option D) := (someOk (bindT tg x (wipeE env tg.slots))).bind fun env' =>
  (if isHole d then .ok true else (ev G d env').bind asB).bind fun b => if b = true then (ev G e env').bind fun y => chkR (nopk y = true) (.ok (some y)) else .ok none
theorem lcGo_noex (f : D → Res (Option D)) : ∀ (xs : List D) (n : Str), lcGo f xs ≠ .ex n
  | [], n => by rw [lcGo]; exact fun z => by cases z
  | x :: xs, n => by
    rw [lcGo]
    cases h : f x with
    | ok o =>
      rw [quiet_ok, Res.bind_ok]
      cases h2 : lcGo f xs with
      | ok ys => rw [Res.bind_ok]; exact fun z => by cases z
      | ex m => exact absurd h2 (lcGo_noex f xs m)
      | no => exact fun z => by cases z
    | ex m => exact fun z => by cases z
    | no => exact fun z => by cases z
theorem lcGo_cons {f : D → Res (Option D)} {x : D} {xs zs : List D} (h : lcGo f (x :: xs) = .ok zs) : ∃ o ys, f x = .ok o ∧ lcGo f xs = .ok ys ∧ zs = o.toList ++ ys := by
  rw [lcGo] at h
  cases h1 : f x with
  | ok o =>
    rw [h1, quiet_ok, Res.bind_ok] at h
    cases h2 : lcGo f xs with
    | ok ys =>
      rw [h2, Res.bind_ok] at h
      cases h
      refine ⟨o, ys, rfl, rfl, ?_⟩
      cases o <;> rfl
    | ex m => rw [h2] at h; cases h
    | no => rw [h2] at h; cases h
  | ex m => rw [h1] at h; cases h
  | no => rw [h1] at h; cases h
section
variable {G : Tab} {xi : Xi}
theorem good_blk {c : Cc} {W : WX} {X : Cx} (g : Good c G xi W X) (hc : c.cm = true) (s : Shared) (H : Hp) (scope : Scope) (C : Addr) (cl : List (Str × Addr)) (fp : List Addr) : Good { c with sc := relS scope c.sc, cel := false, own := fun x => scope.names.lookup x == some .cell, clo := false, vis := none, nml := [] } G xi W0 (X.blk s H scope (compEnvC scope cl C X.env) fp) where
  N := g.N
  sc := by
    show relS scope X.env.scope = relS scope c.sc
    rw [g.sc]
  nd := g.nd
  cm := g.cm
  hu := g.hu
  blt := g.blt
  fns := g.fns
  csts := g.csts
  calls := fun cl h => ⟨(g.calls cl h).1, ⟨(g.calls cl h).2.ex⟩⟩
  glo := g.glo
  tk := takes0
  exs := g.exs
  vae := g.vae
  isx := fun a n h => (g.xno hc a n h).elim
  xno := g.xno
  clo := fun h => absurd (show false = true from h) Bool.false_ne_true
  vst := fun x h => nomatch h
  xnv := fun h => absurd rfl h
  mkc := fun h => absurd rfl h
  dik := g.dik
  z := g.z
  fnc := fun x h => by
    have h : (false || (scope.names.lookup x == some .cell)) = true := h
    rw [Bool.false_or] at h
    exact h
theorem tlc_at {c : Cc} {i : Nat} {x : Str} (h : tlcC c i x = true) : c.N[i]? = some x := by
  unfold tlcC locC lofC at h
  simp only [Bool.or_eq_true, Bool.and_eq_true, beq_iff_eq] at h
  rcases h with h | h
  · exact h.1
  · exact h.2.1
theorem own_slots {c : Cc} {c' : Cc} (hN : c'.N = c.N) {tg : Tg} {t : Expr} (h : tgC c' tg t = true) : (ownOf c tg).map (·.2) = tg.slots := by
  have key : ∀ (is : List Nat), (∀ i ∈ is, ∃ x, c.N[i]? = some x) → ((is.filterMap fun i => (c.N[i]?).map fun x => (x, i)).map (·.2)) = is := by
    intro is
    induction is with
    | nil => intro _; rfl
    | cons i is ih =>
      intro hh
      obtain ⟨x, hx⟩ := hh i List.mem_cons_self
      rw [List.filterMap_cons, hx]
      show i :: _ = _
      rw [ih fun j m => hh j (List.mem_cons_of_mem _ m)]
  refine key _ ?_
  have tgs : ∀ {is : List Nat} {es : List Expr}, tgsC c' is es = true → ∀ i ∈ is, ∃ x, c.N[i]? = some x := by
    intro is
    induction is with
    | nil => intro es _ i m; cases m
    | cons j is ih =>
      intro es hh i m
      cases es with
      | nil => exact absurd hh (by simp [tgsC])
      | cons e es =>
        cases e
        case Name x p =>
          rw [tgsC, Bool.and_eq_true] at hh
          rcases List.mem_cons.mp m with e | m
          · subst e
            have h1 := tlc_at hh.1
            rw [hN] at h1
            exact ⟨x, h1⟩
          · exact ih hh.2 i m
        all_goals exact absurd hh (by simp [tgsC])
  cases tg with
  | one i =>
    cases t
    case Name x p =>
      intro j m
      have e : j = i := by simpa [Tg.slots] using m
      subst e
      have h1 := tlc_at (show tlcC c' j x = true from h)
      rw [hN] at h1
      exact ⟨x, h1⟩
    all_goals exact absurd (show false = true from h) Bool.false_ne_true
  | many is =>
    cases t
    case Tuple es k p => exact tgs (show tgsC c' is es = true from h)
    all_goals exact absurd (show false = true from h) Bool.false_ne_true
/-- the tests' reading -/
def tIfs (G : Tab) (xi : Xi) (X : Cx) (d : Exp) : TT := if isHole d = true then tYes else rdT ⟨X.K, xi⟩ X.mg W0 G d
theorem lc_reads {c : Cc} {W : WX} {X : Cx} {k : ItK} {its : Exps} {tg : Tg} {d e : Exp} {σ : L2.St} {H : Hp} {Q : VK} (hq : rdE ⟨X.K, xi⟩ X.mg W G (.lc k its tg d e) σ H Q) :
    tLc (fun σ H R' => rdA ⟨X.K, xi⟩ X.mg W G its σ H fun vs H1 => rIt X.K k vs H1 R') (gTg X.K tg) (tIfs G xi X d) (rdE ⟨X.K, xi⟩ X.mg W0 G e) tg.slots σ H Q := by
  obtain ⟨env, F, fp, w, hq⟩ := hq
  rw [ev] at hq
  refine ⟨env, F, fp, w, ?_⟩
  cases ea : evs G its env with
  | no => rw [ea] at hq; exact hq
  | ex n => rw [ea] at hq; exact hq
  | ok ds =>
    rw [ea, Res.bind_ok] at hq
    intro vs H1 F1 f1 o1
    cases ei : items k (peeks ds) with
    | none => rw [ei] at hq; exact hq.elim
    | some xs =>
      rw [ei, someOk_some, Res.bind_ok] at hq
      have rp := Rs.peek o1.sub o1.r
      refine rIt_of (K := ⟨X.K, xi⟩) o1.sub rp ei fun J wk => ?_
      have hq : match (lcGo (lcOne G tg d e env) xs).bind fun ys => chkR (ys.length ≤ 1000000) (.ok (.lst .own ys)) with
        | .ok d => ∀ v H' F' fr, Out1 ⟨X.K, xi⟩ F H [] F' H' d v fr → Q v H'
        | .ex n => Rai X.mg W n σ H
        | .no => False := hq
      cases eg : lcGo (lcOne G tg d e env) xs with
      | no => rw [eg] at hq; exact hq.elim
      | ex n => exact absurd eg (lcGo_noex _ _ _)
      | ok ys =>
        rw [eg, Res.bind_ok] at hq
        unfold chkR at hq
        by_cases hl : ys.length ≤ 1000000
        · rw [if_pos hl] at hq
          have w1 := w.next o1.eH o1.eF o1.sub o1.new
          obtain ⟨fpw, esw, sbw⟩ := Es.wipe tg.slots w1.es
          intro Dl hD
          refine ⟨fun i m H2 => m = xs.length - i ∧ i ≤ xs.length ∧ ∃ F2 accD accV fa rest, Ex H1 H2 ∧ Ex F1 F2 ∧ Ex F2 H2 ∧ (∀ a, F1 a = none → F2 a ≠ none → H1 a = none) ∧ F2 Dl = none ∧ H2 Dl = some (.lst accV) ∧ Rs ⟨X.K, xi⟩ F2 H2 accD accV fa ∧ fa.Nodup ∧
              (∀ a ∈ fa, H1 a = none ∧ F2 a = none) ∧ Dl ∉ fa ∧ nopks accD = true ∧ lcGo (lcOne G tg d e env) (xs.drop i) = .ok rest ∧ ys = accD ++ rest, ⟨xs.length, by simp, Nat.zero_le _, F1, [], [], [], ys, Ex.new hD, Ex.refl _, o1.sub.trans (Ex.new hD), fun a h1 h2 => absurd h1 h2, F_none o1.sub hD, upd_same, .nil, List.nodup_nil, fun a m => absurd m List.not_mem_nil, List.not_mem_nil, rfl, eg, rfl⟩, ?_⟩
          rintro i m H2 ⟨rfl, hi, F2, accD, accV, fa, rest, eH2, eF2, sub2, new2, FD, HD, racc, nda, fra, Dna, npa, erest, eys⟩
          by_cases hlt : i < xs.length
          · refine .inr ⟨wk.go F2 H2 i sub2 (rp.mono eF2 eH2) hlt, fun H3 => (fun i m H2 => m = xs.length - i ∧ i ≤ xs.length ∧ ∃ F2 accD accV fa rest, Ex H1 H2 ∧ Ex F1 F2 ∧ Ex F2 H2 ∧ (∀ a, F1 a = none → F2 a ≠ none → H1 a = none) ∧ F2 Dl = none ∧ H2 Dl = some (.lst accV) ∧ Rs ⟨X.K, xi⟩ F2 H2 accD accV fa ∧ fa.Nodup ∧
              (∀ a ∈ fa, H1 a = none ∧ F2 a = none) ∧ Dl ∉ fa ∧ nopks accD = true ∧ lcGo (lcOne G tg d e env) (xs.drop i) = .ok rest ∧ ys = accD ++ rest) (i + 1) (xs.length - (i + 1)) H3, fun H3 w3 => ⟨_, by omega, w3⟩, fun x H3 yl => ?_⟩
            have hx : xs[i]? = some xs[i] := List.getElem?_eq_getElem hlt
            obtain ⟨eH3, rx⟩ := wk.yld F2 H2 i _ x H3 sub2 (rp.mono eF2 eH2) hx yl
            rw [List.drop_eq_getElem_cons hlt] at erest
            obtain ⟨o, rest', eo, erest', er⟩ := lcGo_cons erest
            have eH13 := eH2.trans eH3
            have es3 := esw.mono eF2 eH13
            have ndw := nd_sub sbw w1.nd
            unfold lcOne at eo
            cases eb : bindT tg xs[i] (wipeE env tg.slots) with
            | none => rw [eb] at eo; cases eo
            | some env' =>
              rw [eb, someOk_some, Res.bind_ok] at eo
              have offF : ∀ a ∈ fpw, F2 a = none := fun a m => by
                obtain ⟨zs, hz⟩ := esw.has a m
                cases ef : F2 a with
                | none => rfl
                | some u =>
                  have z := new2 a (w1.off a (sbw.subset m)) (by rw [ef]; exact fun q => nomatch q)
                  rw [hz] at z
                  cases z
              refine gTg_of (K := ⟨X.K, xi⟩) eb rx es3 ndw fun σ' fp' es' nd' sb' hw => ⟨?_, ?_⟩
              · rw [hw, wipe_wipe]
              · have w' : Wd ⟨X.K, xi⟩ F2 H3 env' σ' fp' := ⟨sub2.trans eH3, es', nd', fun a m => offF a (sb' a m), w1.hi.ex eH13⟩
                -- what stands behind a turn
                have done : ∀ {F4 H4 : Hp}, Ex H3 H4 → Ex F2 F4 → Ex F4 H4 → (∀ a, F2 a = none → F4 a ≠ none → H3 a = none) → ∀ (acc2 : List D) (accV2 : List V) (fa2 : List Addr) (H5 : Hp), Ex H1 H5 → Ex F4 H5 → H5 Dl = some (.lst accV2) → Rs ⟨X.K, xi⟩ F4 H5 acc2 accV2 fa2 → fa2.Nodup → (∀ a ∈ fa2, H1 a = none ∧ F4 a = none) → Dl ∉ fa2 → nopks acc2 = true → ys = acc2 ++ rest' →
                    (xs.length - (i + 1) = xs.length - (i + 1) ∧ i + 1 ≤ xs.length ∧ ∃ F2 accD accV fa rest, Ex H1 H5 ∧ Ex F1 F2 ∧ Ex F2 H5 ∧ (∀ a, F1 a = none → F2 a ≠ none → H1 a = none) ∧ F2 Dl = none ∧ H5 Dl = some (.lst accV) ∧ Rs ⟨X.K, xi⟩ F2 H5 accD accV fa ∧ fa.Nodup ∧
              (∀ a ∈ fa, H1 a = none ∧ F2 a = none) ∧ Dl ∉ fa ∧ nopks accD = true ∧ lcGo (lcOne G tg d e env) (xs.drop (i + 1)) = .ok rest ∧ ys = accD ++ rest) := by
                  intro F4 H4 eH4 eF4 sub4 new4 acc2 accV2 fa2 H5 e1 e2 e3 e4 e5 e6 e7 e8 e9
                  refine ⟨rfl, hlt, F4, acc2, accV2, fa2, rest', e1, eF2.trans eF4, e2, fun a h1 h2 => ?_, ?_, e3, e4, e5, e6, e7, e8, erest', e9⟩
                  · cases ef : F2 a with
                    | none => exact Ex.free eH13 (new4 a ef h2)
                    | some u => exact new2 a h1 (by rw [ef]; exact fun q => nomatch q)
                  · cases ef : F4 Dl with
                    | none => rfl
                    | some u =>
                      have z := new4 Dl FD (by rw [ef]; exact fun q => nomatch q)
                      rw [eH3.lst HD] at z
                      cases z
                have body : ∀ {b : Bool} {H4 F4 : Hp}, (if b = true then (ev G e env').bind fun y => chkR (nopk y = true) (.ok (some y)) else .ok none) = Res.ok o → Ex H3 H4 → Ex F2 F4 → Ex F4 H4 → (∀ a, F2 a = none → F4 a ≠ none → H3 a = none) →
                    if b = true then rdE ⟨X.K, xi⟩ X.mg W0 G e σ' H4 fun y H5 => ∃ acc, H5 Dl = some (.lst acc) ∧ acc.length < sizeLine ∧ (fun H3 => (fun i m H2 => m = xs.length - i ∧ i ≤ xs.length ∧ ∃ F2 accD accV fa rest, Ex H1 H2 ∧ Ex F1 F2 ∧ Ex F2 H2 ∧ (∀ a, F1 a = none → F2 a ≠ none → H1 a = none) ∧ F2 Dl = none ∧ H2 Dl = some (.lst accV) ∧ Rs ⟨X.K, xi⟩ F2 H2 accD accV fa ∧ fa.Nodup ∧
              (∀ a ∈ fa, H1 a = none ∧ F2 a = none) ∧ Dl ∉ fa ∧ nopks accD = true ∧ lcGo (lcOne G tg d e env) (xs.drop i) = .ok rest ∧ ys = accD ++ rest) (i + 1) (xs.length - (i + 1)) H3) (upd H5 Dl (.lst (acc ++ [y])))
                    else (fun H3 => (fun i m H2 => m = xs.length - i ∧ i ≤ xs.length ∧ ∃ F2 accD accV fa rest, Ex H1 H2 ∧ Ex F1 F2 ∧ Ex F2 H2 ∧ (∀ a, F1 a = none → F2 a ≠ none → H1 a = none) ∧ F2 Dl = none ∧ H2 Dl = some (.lst accV) ∧ Rs ⟨X.K, xi⟩ F2 H2 accD accV fa ∧ fa.Nodup ∧
              (∀ a ∈ fa, H1 a = none ∧ F2 a = none) ∧ Dl ∉ fa ∧ nopks accD = true ∧ lcGo (lcOne G tg d e env) (xs.drop i) = .ok rest ∧ ys = accD ++ rest) (i + 1) (xs.length - (i + 1)) H3) H4 := by
                  intro b H4 F4 eo eH4 eF4 sub4 new4
                  have HD4 := eH4.lst (eH3.lst HD)
                  have racc4 := racc.mono eF4 (eH3.trans eH4)
                  have offa4 : ∀ a ∈ fa, F4 a = none := fun a m => by
                    cases ef : F4 a with
                    | none => rfl
                    | some u =>
                      obtain ⟨zs, hz⟩ := racc.has a m
                      have z := new4 a (fra a m).2 (by rw [ef]; exact fun q => nomatch q)
                      rw [eH3.lst hz] at z
                      cases z
                  cases b with
                  | false =>
                    rw [if_neg Bool.false_ne_true] at eo ⊢
                    cases eo
                    exact done eH4 eF4 sub4 new4 accD accV fa H4 (eH13.trans eH4) sub4 HD4 racc4 nda (fun a m => ⟨(fra a m).1, offa4 a m⟩) Dna npa (by rw [eys, er]; rfl)
                  | true =>
                    rw [if_pos rfl] at eo ⊢
                    refine ⟨env', F4, fp', w'.next eH4 eF4 sub4 new4, ?_⟩
                    cases ee : ev G e env' with
                    | no => rw [ee] at eo; cases eo
                    | ex n => rw [ee] at eo; cases eo
                    | ok y =>
                      rw [ee, Res.bind_ok] at eo
                      obtain ⟨hny, eo⟩ := chkR_ok eo
                      cases eo
                      intro yv H5 F5 fy oy
                      have HD5 := oy.eH.lst HD4
                      have fresh5 : ∀ a ∈ fy, H4 a = none := fun a m => (oy.fresh a m).resolve_left List.not_mem_nil
                      have FD4 : F4 Dl = none := by
                        cases ef : F4 Dl with
                        | none => rfl
                        | some u =>
                          have z := new4 Dl FD (by rw [ef]; exact fun q => nomatch q)
                          rw [eH3.lst HD] at z
                          cases z
                      have FD5 : F5 Dl = none := by
                        cases ef : F5 Dl with
                        | none => rfl
                        | some u =>
                          have z := oy.new Dl FD4 (by rw [ef]; exact fun q => nomatch q)
                          rw [HD4] at z
                          cases z
                      have hys : ys = (accD ++ [y]) ++ rest' := by rw [eys, er, List.append_assoc]; rfl
                      refine ⟨accV, HD5, ?_, ?_⟩
                      · rw [← racc.length]
                        have h1 : accD.length ≤ ys.length := by rw [eys, List.length_append]; omega
                        rw [sizeLine_eq]
                        omega
                      · have racc5 := racc4.mono oy.eF oy.eH
                        have offa5 : ∀ a ∈ fa, F5 a = none := fun a m => by
                          cases ef : F5 a with
                          | none => rfl
                          | some u =>
                            obtain ⟨zs, hz⟩ := racc4.has a m
                            have z := oy.new a (offa4 a m) (by rw [ef]; exact fun q => nomatch q)
                            rw [hz] at z
                            cases z
                        have Dny : Dl ∉ fy := fun m => by
                          have z := fresh5 Dl m
                          rw [HD4] at z
                          cases z
                        have kp : ∀ (fs : List Addr), Dl ∉ fs → ∀ a o, a ∈ fs → H5 a = some (.lst o) → upd H5 Dl (.lst (accV ++ [yv])) a = some (.lst o) := fun fs hn a o m e => by
                          rw [upd_ne (fun z => hn (by rw [← z]; exact m))]
                          exact e
                        have eFD : Ex F5 (upd H5 Dl (.lst (accV ++ [yv]))) := oy.sub.mut HD5 FD5
                        have tx := Tx.mut (ys := accV ++ [yv]) HD5
                        refine done (F4 := F5) (H4 := H5) (eH4.trans oy.eH) (eF4.trans oy.eF) oy.sub (fun a h1 h2 => ?_) (accD ++ [y]) (accV ++ [yv]) (fa ++ (fy ++ [])) (upd H5 Dl (.lst (accV ++ [yv]))) ?_ eFD upd_same
                          ((racc5.keep (Ex.refl _) tx npa (kp fa Dna)).app (.cons (oy.r.keep (Ex.refl _) tx hny (kp fy Dny)) .nil)) ?_ ?_ ?_ ?_ hys
                        · cases ef : F4 a with
                          | none => exact Ex.free eH4 (oy.new a ef h2)
                          | some u => exact new4 a h1 (by rw [ef]; exact fun q => nomatch q)
                        · exact ((eH13.trans eH4).trans oy.eH).mut HD5 hD
                        · rw [List.append_nil]
                          refine List.nodup_append.mpr ⟨nda, oy.nd, fun a m b m2 e => ?_⟩
                          subst e
                          obtain ⟨zs, hz⟩ := racc4.has a m
                          rw [fresh5 a m2] at hz
                          cases hz
                        · rw [List.append_nil]
                          intro a m
                          rcases List.mem_append.mp m with m | m
                          · exact ⟨(fra a m).1, offa5 a m⟩
                          · exact ⟨Ex.free (eH13.trans eH4) (fresh5 a m), oy.off a m⟩
                        · rw [List.append_nil]
                          intro m
                          rcases List.mem_append.mp m with m | m
                          · exact Dna m
                          · exact Dny m
                        · rw [nopks_all] at npa ⊢
                          rw [List.all_append, npa]
                          show (true && (nopk y && true)) = true
                          rw [hny]
                          rfl
                unfold tIfs
                by_cases hh : isHole d = true
                · rw [if_pos hh] at eo ⊢
                  rw [Res.bind_ok] at eo
                  exact body (b := true) eo (Ex.refl _) (Ex.refl _) w'.sub fun a h1 h2 => absurd h1 h2
                · rw [if_neg hh] at eo ⊢
                  refine ⟨env', F2, fp', w', ?_⟩
                  cases et : (ev G d env').bind asB with
                  | no => rw [et] at eo; cases eo
                  | ex n => rw [et] at eo; cases eo
                  | ok b =>
                    rw [et, Res.bind_ok] at eo
                    exact fun H4 F4 q1 q2 q3 q4 => body eo q1 q2 q3 q4
          · refine .inl ⟨wk.stop F2 H2 i sub2 (rp.mono eF2 eH2) (by omega), ?_⟩
            have ed : xs.drop i = [] := List.drop_eq_nil_iff.mpr (by omega)
            rw [ed] at erest
            cases erest
            rw [List.append_nil] at eys
            subst eys
            have o1f : ∀ a ∈ f1, H a = none := fun a m => (o1.fresh a m).resolve_left List.not_mem_nil
            refine hq (.ref Dl) H2 F2 (Dl :: fa) ⟨o1.eH.trans eH2, o1.eF.trans eF2, sub2, fun a h1 h2 => ?_, .lst racc ⟨HD, rfl⟩, List.nodup_cons.mpr ⟨Dna, nda⟩, fun a m => .inr ?_, fun a m => ?_⟩
            · cases ef : F1 a with
              | none => exact Ex.free o1.eH (new2 a ef h2)
              | some u => exact o1.new a h1 (by rw [ef]; exact fun q => nomatch q)
            · rcases List.mem_cons.mp m with e | m
              · subst e; exact Ex.free o1.eH hD
              · exact Ex.free o1.eH (fra a m).1
            · rcases List.mem_cons.mp m with e | m
              · subst e; exact FD
              · exact (fra a m).2
        · rw [if_neg hl] at hq
          exact hq.elim
end
end L3

set_option maxRecDepth 100000
set_option maxHeartbeats 4000000
/-! L3.Mth: methods that change nothing; what is to stand still. -/
namespace L3
open PySem PySem.Spec PyProof.Rows L2
variable [TbC]
section
variable {G : Tab} {xi : Xi}
theorem se_frz (a : Exp) (ih : SE G xi a) : SE G xi (.frz a) := by
  intro c W X e g h
  refine (ih g (chk_frz h).2).imp3 fun σ H Q hq => ?_
  obtain ⟨env, F, fp, w, hq⟩ := hq
  rw [ev] at hq
  refine ⟨env, F, fp, w, ?_⟩
  cases ea : ev G a env with
  | no => rw [ea] at hq; exact hq
  | ex n => rw [ea] at hq; exact hq
  | ok d =>
    rw [ea, Res.bind_ok] at hq
    intro v H' F' fr o
    unfold chkR at hq
    by_cases hn : nopk d = true
    · rw [if_pos hn] at hq
      have eG : Ex F' (addF F' H' fr) := addF_ex o.off
      refine hq v H' (addF F' H' fr) [] ⟨o.eH, o.eF.trans eG, addF_sub o.sub fun a m => o.r.has a m, fun a h1 h2 => ?_, o.r.frz eG hn fun a m => addF_in m, List.nodup_nil, fun a m => absurd m List.not_mem_nil, fun a m => absurd m List.not_mem_nil⟩
      by_cases m : a ∈ fr
      · exact (o.fresh a m).resolve_left List.not_mem_nil
      · rw [addF_out m] at h2
        exact o.new a h1 h2
    · rw [if_neg hn] at hq
      exact hq.elim
theorem rgV_rs {K : Kx} {F H : Hp} (n : Int) : Rs K F H ((List.range n.toNat).map fun (k : Nat) => D.int (k : Int)) (rgV 0 n) [] := by
  unfold rgV
  rw [show (n - 0).toNat = n.toNat by omega]
  generalize n.toNat = m
  have h : ∀ l : List Nat, Rs K F H (l.map fun (k : Nat) => D.int (k : Int)) (l.map fun (i : Nat) => V.int (0 + (i : Int))) [] := by
    intro l
    induction l with
    | nil => exact .nil
    | cons a t ih =>
      rw [List.map_cons, List.map_cons]
      have z : (0 : Int) + (a : Int) = (a : Int) := Int.zero_add _
      rw [z]
      exact .cons (f1 := []) (f2 := []) (.int _) ih
  exact h _
theorem se_lrng (a : Exp) (ih : SE G xi a) : SE G xi (.lrng a) := by
  intro c W X e g h
  rw [chkE.eq_def] at h
  dsimp only at h
  split at h
  · rename_i x p y q n pos pos2
    simp only [Bool.and_eq_true, beq_iff_eq] at h
    obtain ⟨⟨⟨⟨⟨h0, h1⟩, h2⟩, h3⟩, h4⟩, h5⟩ := h
    subst h1
    subst h2
    have m1 : X.mg "list" = none := g.blt _ (by decide +kernel)
    have m2 : X.mg "range" = none := g.blt _ (by decide +kernel)
    have hs : starP n = false := chk_star a h5
    have e1 : starEach [n] X.env = (false, eval n X.env) :: starEach [] X.env := star_cons _ _ _ hs
    refine (pe_listRg (g.cm h0) (g.gl h3).1 m1 (prg_1 (g.gl h4).1 m2 (ih g h5) e1) rfl).imp3 fun σ H Q hq => ?_
    obtain ⟨env, F, fp, w, hq⟩ := hq
    rw [ev] at hq
    refine rd_one (f := fun x => (asI x).bind fun n => chkR (-1000000 ≤ n ∧ n ≤ 1000000) (.ok (.lst .own ((List.range n.toNat).map fun (k : Nat) => D.int (k : Int))))) w hq fun d v H1 F1 f1 o w1 q => ?_
    cases d <;> try (exact q.elim)
    rename_i n0
    obtain ⟨rfl, rfl⟩ := o.r.int'
    rw [asI_int, Res.bind_ok] at q
    unfold chkR at q
    by_cases hc : -1000000 ≤ n0 ∧ n0 ≤ 1000000
    · rw [if_pos hc] at q
      refine ⟨n0, rfl, ⟨by decide, by decide, by omega, by omega, ?_⟩, fun l hl => q _ _ _ _ (.list o.sub hl (rgV_rs n0) List.nodup_nil (fun a m => m) (fun a m => absurd m List.not_mem_nil) (fun a m => absurd m List.not_mem_nil))⟩
      have : (n0 - 0).toNat ≤ 1000000 := by omega
      exact Nat.le_trans this (by decide)
    · rw [if_neg hc] at q
      exact q.elim
  · cases h
theorem pys_get : ∀ (ds : List D) (i : Nat), (pys ds)[i]? = (ds[i]?).map py
  | [], i => by simp [pys]
  | d :: ds, 0 => by simp [pys]
  | d :: ds, i + 1 => by simp [pys, pys_get ds i]
theorem ixD_some {d : D} : ∀ {ds : List D} {j : Nat}, ixD d ds = some j → (∃ x, ds[j]? = some x ∧ eqD x d = true) ∧ ∀ m x, m < j → ds[m]? = some x → eqD x d = false
  | [], j, h => by cases h
  | x :: xs, j, h => by
    rw [ixD] at h
    by_cases e : eqD x d = true
    · rw [if_pos e] at h
      cases h
      exact ⟨⟨x, rfl, e⟩, fun m y z => absurd z (Nat.not_lt_zero _)⟩
    · rw [if_neg e] at h
      cases hx : ixD d xs with
      | none => rw [hx] at h; cases h
      | some k =>
        rw [hx] at h
        cases h
        obtain ⟨⟨y, h1, h2⟩, h3⟩ := ixD_some hx
        refine ⟨⟨y, by simpa using h1, h2⟩, fun m z hm hz => ?_⟩
        cases m with
        | zero =>
          cases hz
          simpa using e
        | succ m =>
          have hm : m + 1 < k + 1 := hm
          exact h3 m z (by omega) (by simpa using hz)
/-- how many of them are equal -/
def rCountD (K : PySem.W.Frag) : V → List V → Hp → VK → Prop := fun x xs H Q => ∃ (a : Addr) (y : V) (d : PyData) (ds : List PyData), x = V.ref a ∧ xs = [y] ∧ Dp K H (V.ref a) (.list ds) ∧ Dp K H y d ∧
  SeqAt.shaped (.list ds) = true ∧ SeqAt.shaped d = true ∧ Q (.int (ds.countP fun z => PyData.eqv z d : Nat)) H
theorem mt_countD {X : Cx} (hu : X.A.units + 65 < cLine) : MtR X "list.count" (rCountD X.K) := by
  intro pins s σ H x xs v us Q I rx rxs h
  obtain ⟨a, y, d, ds, rfl, rfl, hl, hy, sl, sd, q⟩ := h
  cases rx
  cases rxs with
  | cons ry rt =>
    rename_i uy ut
    cases rt
    obtain ⟨bs, r1⟩ := Dp.reads I d y uy hy ry
    have hxs : PyData.canLayAll0 ds = true := SeqAt.canLay_of_shaped sl
    have hroom : X.A.units + 1 + min (PyData.depthAll ds) d.depth < cLine := room_in_shaped sd hu
    cases hl with
    | lst hs ha =>
      obtain ⟨its, rv, ⟨⟨cls, dd, data, sls⟩, n, ho, hc, hdn, hdt⟩, hlen⟩ := I.list hs
      simp only at hc hdt
      subst hc hdt
      obtain ⟨as, h4⟩ := Dp.readsAll I ds _ its ha rv
      have hmap : its.map (SeqAt.readOf s.heap) = ds := SeqAt.readsAll_map ds its as hxs h4
      have ec : its.toArray.toList.countP (fun u => PyData.eqv (SeqAt.readOf s.heap u) d) = ds.countP fun z => PyData.eqv z d := by
        rw [← hmap, List.countP_map]
        rfl
      refine call_meets PySem.F.slot_list_count ⟨_, ho, rfl⟩ PySem.F.entry_list_count (PySem.F.args_list_count_2 _ _)
        (SeqAt.list_countAt a its.toArray n dd sls uy (fun u => PyData.eqv (SeqAt.readOf s.heap u) d)) ⟨ho, SeqAt.items_eqAt (vs := its.toArray) (show ReadsAll s.heap its.toArray.toList ds as from h4) r1 hxs (SeqAt.canLay_of_shaped sd) hroom, ?_⟩
      rw [ec]
      exact ⟨.int (ds.countP fun z => PyData.eqv z d : Nat), H, I.tok _, ⟨_, rfl⟩, q⟩
theorem countP_pys (u : D) : ∀ ds : List D, (pys ds).countP (fun z => PyData.eqv z (py u)) = ds.countP fun z => eqD z u
  | [] => rfl
  | d :: ds => by
    rw [show pys (d :: ds) = py d :: pys ds from rfl, List.countP_cons, List.countP_cons, countP_pys u ds]
    rfl
theorem strs_rs {K : Kx} {F H : Hp} : ∀ ys : List Str, Rs K F H (ys.map D.str) (ys.map V.str) []
  | [] => .nil
  | y :: ys => .cons (f1 := []) (f2 := []) (.str y) (strs_rs ys)
theorem nam_base {o : Expr} {name : Str} {env : PySem.Env} (h : namP o = true) : attributeBase o name env (eval o env) = eval o env := by
  cases o <;> first | rfl | cases h
theorem se_mth (m : Mth) (a : Exp) (es : Exps) (iha : SE G xi a) (ihs : SA G xi es) : SE G xi (.mth m a es) := by
  intro c W X e g h
  rw [chkE.eq_def] at h
  dsimp only at h
  split at h
  · rename_i o x p y ys q
    simp only [Bool.and_eq_true, beq_iff_eq] at h
    obtain ⟨⟨⟨⟨⟨h1, h2⟩, h3⟩, h4⟩, h5⟩, h6⟩ := h
    have hys : ys = [] := by simpa using h6
    subst hys
    have hsy : starP y = false := by
      have := chks_star es h3
      simpa using this
    have hs : starEach [y] X.env = (false, eval y X.env) :: starEach [] X.env := star_cons _ _ _ hsy
    have hl : (p.endLine == q.line) = true := by rw [h4]; exact beq_self_eq_true _
    have hu : X.A.units + 65 < cLine := by have := g.hu; omega
    cases m with
    | index =>
      subst h1
      refine (pe_bm PySem.F.plainAttrs_list PySem.F.slot_list_index PySem.F.type_list_index (mt_indexD hu) (iha g h2) (ihs g h3) (nam_base h5) (by rw [hs]; rfl) hl hs rfl).imp3 fun σ H Q hq => ?_
      obtain ⟨env, F, fp, w, hq⟩ := hq
      rw [ev] at hq
      refine rd_one (f := fun x => chkR (tyM .index x = true) ((evs G es env).bind fun ds => someOk (mthD .index x ds))) w hq fun d v H1 F1 f1 o w1 q => ?_
      cases d <;> try (exact q.elim)
      rename_i fl ds
      rw [chkR_pos (show tyM .index (.lst fl ds) = true from rfl)] at q
      obtain ⟨a0, vs0, g0, rfl, ha0, _, _⟩ := R.lst' o.sub o.r
      refine ⟨.inl ⟨rfl, _, SqL.of ha0⟩, env, F1, fp, w1, ?_⟩
      cases ee : evs G es env with
      | no => rw [ee] at q; exact q
      | ex n => rw [ee] at q; exact q
      | ok us =>
        rw [ee, Res.bind_ok] at q
        intro vs H2 F2 f2 o2
        rcases us with _ | ⟨u, _ | ⟨u2, t⟩⟩
        · exact q.elim
        · have q : match someOk (chkO (cmpOks 59 ds = true ∧ cmpOk 60 u = true) ((ixD u ds).bind fun j => some (D.int j))) with
            | .ok d => ∀ v H' F' fr, Out1 ⟨X.K, xi⟩ F1 H1 f1 F' H' d v fr → Q v H'
            | .ex n => Rai X.mg W n σ H1
            | .no => False := q
          by_cases hc : cmpOks 59 ds = true ∧ cmpOk 60 u = true
          · rw [chkO_pos hc] at q
            cases ei : ixD u ds with
            | none => rw [ei] at q; exact q.elim
            | some j =>
              rw [ei] at q
              obtain ⟨v, rfl, r1⟩ := rs1 o2.r
              have r0 := o.r.mono o2.eF o2.eH
              obtain ⟨⟨z, z1, z2⟩, z3⟩ := ixD_some ei
              have hc1 : cmpOk 60 (.lst fl ds) = true := hc.1
              refine ⟨a0, v, py u, pys ds, j, py z, rfl, rfl, r0.dp o2.sub hc1, r1.dp o2.sub hc.2, cmpOk_shaped hc1, cmpOk_shaped hc.2, by rw [pys_get, z1]; rfl, z2, fun m z' hm hz => ?_, ?_⟩
              · rw [pys_get] at hz
                cases hx : ds[m]? with
                | none => rw [hx] at hz; cases hz
                | some x =>
                  rw [hx] at hz
                  cases hz
                  exact z3 m x hm hx
              · exact q _ H2 F2 [] ⟨o2.eH, o2.eF, o2.sub, o2.new, .int _, List.nodup_nil, fun a m => absurd m List.not_mem_nil, fun a m => absurd m List.not_mem_nil⟩
          · have e0 : chkO (cmpOks 59 ds = true ∧ cmpOk 60 u = true) ((ixD u ds).bind fun j => some (D.int j)) = none := if_neg hc
            rw [e0] at q
            exact q.elim
        · exact q.elim
    | count =>
      subst h1
      refine (pe_bm PySem.F.plainAttrs_list PySem.F.slot_list_count PySem.F.type_list_count (mt_countD hu) (iha g h2) (ihs g h3) (nam_base h5) (by rw [hs]; rfl) hl hs rfl).imp3 fun σ H Q hq => ?_
      obtain ⟨env, F, fp, w, hq⟩ := hq
      rw [ev] at hq
      refine rd_one (f := fun x => chkR (tyM .count x = true) ((evs G es env).bind fun ds => someOk (mthD .count x ds))) w hq fun d v H1 F1 f1 o w1 q => ?_
      cases d <;> try (exact q.elim)
      rename_i fl ds
      rw [chkR_pos (show tyM .count (.lst fl ds) = true from rfl)] at q
      obtain ⟨a0, vs0, g0, rfl, ha0, _, _⟩ := R.lst' o.sub o.r
      refine ⟨.inl ⟨rfl, _, SqL.of ha0⟩, env, F1, fp, w1, ?_⟩
      cases ee : evs G es env with
      | no => rw [ee] at q; exact q
      | ex n => rw [ee] at q; exact q
      | ok us =>
        rw [ee, Res.bind_ok] at q
        intro vs H2 F2 f2 o2
        rcases us with _ | ⟨u, _ | ⟨u2, t⟩⟩
        · exact q.elim
        · have q : match someOk (chkO (cmpOks 59 ds = true ∧ cmpOk 60 u = true) (some (D.int ((ds.countP fun z => eqD z u : Nat) : Int)))) with
            | .ok d => ∀ v H' F' fr, Out1 ⟨X.K, xi⟩ F1 H1 f1 F' H' d v fr → Q v H'
            | .ex n => Rai X.mg W n σ H1
            | .no => False := q
          by_cases hc : cmpOks 59 ds = true ∧ cmpOk 60 u = true
          · rw [chkO_pos hc] at q
            obtain ⟨v, rfl, r1⟩ := rs1 o2.r
            have r0 := o.r.mono o2.eF o2.eH
            have hc1 : cmpOk 60 (.lst fl ds) = true := hc.1
            refine ⟨a0, v, py u, pys ds, rfl, rfl, r0.dp o2.sub hc1, r1.dp o2.sub hc.2, cmpOk_shaped hc1, cmpOk_shaped hc.2, ?_⟩
            have ec : (pys ds).countP (fun z => PyData.eqv z (py u)) = ds.countP fun z => eqD z u := countP_pys u ds
            rw [ec]
            exact q _ H2 F2 [] ⟨o2.eH, o2.eF, o2.sub, o2.new, .int _, List.nodup_nil, fun a m => absurd m List.not_mem_nil, fun a m => absurd m List.not_mem_nil⟩
          · have e0 : chkO (cmpOks 59 ds = true ∧ cmpOk 60 u = true) (some (D.int ((ds.countP fun z => eqD z u : Nat) : Int))) = none := if_neg hc
            rw [e0] at q
            exact q.elim
        · exact q.elim
    | split =>
      subst h1
      refine (pe_bm PySem.F.plainAttrs_str PySem.F.slot_str_split PySem.F.type_str_split mt_split (iha g h2) (ihs g h3) (nam_base h5) (by rw [hs]; rfl) hl hs rfl).imp3 fun σ H Q hq => ?_
      obtain ⟨env, F, fp, w, hq⟩ := hq
      rw [ev] at hq
      refine rd_one (f := fun x => chkR (tyM .split x = true) ((evs G es env).bind fun ds => someOk (mthD .split x ds))) w hq fun d v H1 F1 f1 o w1 q => ?_
      cases d <;> try (exact q.elim)
      rename_i a1
      rw [chkR_pos (show tyM .split (.str a1) = true from rfl)] at q
      obtain ⟨rfl, _⟩ := o.r.str'
      refine ⟨rfl, env, F1, fp, w1, ?_⟩
      cases ee : evs G es env with
      | no => rw [ee] at q; exact q
      | ex n => rw [ee] at q; exact q
      | ok us =>
        rw [ee, Res.bind_ok] at q
        intro vs H2 F2 f2 o2
        rcases us with _ | ⟨u, _ | ⟨u2, t⟩⟩
        · exact q.elim
        · cases u <;> try (exact q.elim)
          rename_i b1
          obtain ⟨v, rfl, r1⟩ := rs1 o2.r
          obtain ⟨rfl, _⟩ := r1.str'
          have q : match someOk (chkO ((b1.length == 0) = false ∧ a1.length + 2 ≤ 16000000) (some (D.lst .own ((Txt.split a1 b1).map .str)))) with
            | .ok d => ∀ v H' F' fr, Out1 ⟨X.K, xi⟩ F1 H1 f1 F' H' d v fr → Q v H'
            | .ex n => Rai X.mg W n σ H1
            | .no => False := q
          by_cases hc : (b1.length == 0) = false ∧ a1.length + 2 ≤ 16000000
          · rw [chkO_pos hc] at q
            refine ⟨a1, b1, rfl, rfl, hc.1, Nat.le_trans hc.2 line16, fun p hp => ?_⟩
            have oo : Out1 ⟨X.K, xi⟩ F2 H2 [] F2 (upd H2 p (.lst ((Txt.split a1 b1).map V.str))) (.lst .own ((Txt.split a1 b1).map .str)) (.ref p) [p] := Out1.list o2.sub hp (strs_rs _) List.nodup_nil (fun a m => m) (fun a m => absurd m List.not_mem_nil) (fun a m => absurd m List.not_mem_nil)
            exact q _ _ _ _ ⟨o2.eH.trans oo.eH, o2.eF.trans oo.eF, oo.sub, fun a h1 h2 => (by
              cases e : F2 a with
              | none => exact Ex.free o2.eH (oo.new a e h2)
              | some u => exact o2.new a h1 (by rw [e]; exact fun q => nomatch q)), oo.r, oo.nd, fun a m => (by
              rcases oo.fresh a m with z | z
              · cases z
              · exact .inr (Ex.free o2.eH z)), oo.off⟩
          · have e0 : chkO ((b1.length == 0) = false ∧ a1.length + 2 ≤ 16000000) (some (D.lst .own ((Txt.split a1 b1).map .str))) = none := if_neg hc
            rw [e0] at q
            exact q.elim
        · cases u <;> exact q.elim
    | find =>
      subst h1
      refine (pe_bm PySem.F.plainAttrs_str PySem.F.slot_str_find PySem.F.type_str_find mt_find (iha g h2) (ihs g h3) (nam_base h5) (by rw [hs]; rfl) hl hs rfl).imp3 fun σ H Q hq => ?_
      obtain ⟨env, F, fp, w, hq⟩ := hq
      rw [ev] at hq
      refine rd_one (f := fun x => chkR (tyM .find x = true) ((evs G es env).bind fun ds => someOk (mthD .find x ds))) w hq fun d v H1 F1 f1 o w1 q => ?_
      cases d <;> try (exact q.elim)
      rename_i a1
      rw [chkR_pos (show tyM .find (.str a1) = true from rfl)] at q
      obtain ⟨rfl, _⟩ := o.r.str'
      refine ⟨rfl, env, F1, fp, w1, ?_⟩
      cases ee : evs G es env with
      | no => rw [ee] at q; exact q
      | ex n => rw [ee] at q; exact q
      | ok us =>
        rw [ee, Res.bind_ok] at q
        intro vs H2 F2 f2 o2
        rcases us with _ | ⟨u, _ | ⟨u2, t⟩⟩
        · exact q.elim
        · cases u <;> try (exact q.elim)
          rename_i b1
          obtain ⟨v, rfl, r1⟩ := rs1 o2.r
          obtain ⟨rfl, _⟩ := r1.str'
          refine ⟨a1, b1, rfl, rfl, ?_⟩
          exact q _ H2 F2 [] ⟨o2.eH, o2.eF, o2.sub, o2.new, .int _, List.nodup_nil, fun a m => absurd m List.not_mem_nil, fun a m => absurd m List.not_mem_nil⟩
        · cases u <;> exact q.elim
  · cases h
end
end L3

set_option maxRecDepth 100000
set_option maxHeartbeats 4000000
/-! L3.Rev: list(reversed(x)), x a list. -/
namespace L3
open PySem PySem.Spec PyProof.Rows L2
section
variable {prog : Program} {w : World} {A : Around} {E : Value → Shared → Prop} {s : Shared}
theorem extend_rev {R : Result → Shared → Prop} {it l : Addr} {items : Array Value} (hh : A.handled = none) (hit : s.heap.IsRevIter it l ((items.size : Int) - 1)) (hl : s.heap.IsList l items) (hne : l ≠ it) (hn : items.size ≤ sizeLine) (S : Addr) (hSi : S ≠ it) (hSl : S ≠ l) (res : Value) (c₀ : Nat) (hS : s.heap.get? S = some { cls := .type "list", data := .seq #[] c₀ })
    (hR : ∀ (h' : Heap) (tk : Nat) (acc' : Array Value) (c' : Nat), (∀ b o, b ≠ S → b ≠ it → s.heap.get? b = some o → h'.get? b = some o) → h'.get? S = some { cls := .type "list", dict := none, data := .seq acc' c', slots := #[] } →
      ItemsOf (fun i v => items[items.size - 1 - i]? = some v) acc' items.size → R (.ok (.ret res)) { s with heap := h', toks := tk }) :
    wpAny (model prog w) A.in1 (Builtin.List.listExtendWith (.ref S) (.ref it) res)
      (fun fin s' => match fin with | .done f => R (.ok f) s' | .again c' => c'.quiet = true ∧ codeAny (model prog w) A c' R s') (fun e s' => R (.error e) s') s := by
  have W := (Walks.listRev (prog := prog) (w := w) (A := A.in1) hh it l hne items).toS
  have hSf : S ∉ [it, l] := by simp only [List.mem_cons, List.not_mem_nil, or_false, not_or]; exact ⟨hSi, hSl⟩
  have hT : s.TypeIs (.ref it) "list_reverseiterator" := hit.typeIs
  have h1 : Builtin.List.listSameRef (.ref S) (.ref it) = false := by simp [Builtin.List.listSameRef, hSi]
  unfold Builtin.List.listExtendWith
  refine wpAny_bind (wpAny_typeOf hT ?_)
  rw [if_neg (by rw [h1]; decide)]
  refine wpAny_bind (wpAny_pyIter_revIter hit ?_)
  refine wpAny_bind (wpAny_holding ?_)
  unfold Builtin.List.listLengthHint
  refine wpAny_bind (wpAny_specialOf hT RT.nolen_lri ?_)
  show wpAny _ A.in1 (specialOf (Value.ref it) (Str.ofString "__length_hint__") >>= _) _ _ _
  refine wpAny_bind (wpAny_specialOf hT RT.hint_lri ?_)
  generalize hid : ("list_reverseiterator.__length_hint__" : String) = id0
  wp_delta
  rw [show splitId id0 = some ("list_reverseiterator", "__length_hint__") from by subst hid; decide +kernel]
  subst hid
  refine wpAny_bind (wpAny_isInstance (b := true) hT (by rw [isSubtype_type]; kernel_rfl) ?_)
  refine wpAny_pure ?_
  rw [if_neg (by decide)]
  have e0 : ((items.size : Nat) : Int) - 1 - ((0 : Nat) : Int) = (items.size : Int) - 1 := by omega
  refine wpAny_pure ⟨plainId_quiet F.plain_extend_loop _, codeAny_extend_loopS W hn _ hSf _ items.size 0 _ _ _ rfl (Nat.zero_le _) ⟨Nat.zero_le _, by rw [e0]; exact hit, hl⟩ hS (ItemsOf.nil _) fun s' acc' c' hm hS' hacc => ?_⟩
  rw [Moved.eq_with hm]
  refine hR s'.heap s'.toks acc' c' (fun b o hb hb2 e => hm.heap b o (fun hmem => ?_) e) hS' hacc
  rcases List.mem_cons.mp hmem with e' | hmem
  · exact hb e'
  · exact hb2 (List.mem_singleton.mp hmem)
theorem init_rev {R : Result → Shared → Prop} {it l : Addr} {items : Array Value} (hh : A.handled = none) (hit : s.heap.IsRevIter it l ((items.size : Int) - 1)) (hl : s.heap.IsList l items) (hne : l ≠ it) (hn : items.size ≤ sizeLine) (S : Addr) (hSi : S ≠ it) (hSl : S ≠ l) (hS : s.heap.get? S = some { cls := .type "list", data := .seq #[] })
    (hR : ∀ (h' : Heap) (tk : Nat) (acc' : Array Value) (c' : Nat), (∀ b o, b ≠ S → b ≠ it → s.heap.get? b = some o → h'.get? b = some o) → h'.get? S = some { cls := .type "list", dict := none, data := .seq acc' c', slots := #[] } →
      ItemsOf (fun i v => items[items.size - 1 - i]? = some v) acc' items.size → R (.ok (.ret .none)) { s with heap := h', toks := tk }) :
    wpAny (model prog w) A.in1 (Builtin.«list.__init__» ⟨[.ref S, .ref it], []⟩)
      (fun fin s' => match fin with | .done f => R (.ok f) s' | .again c' => c'.quiet = true ∧ codeAny (model prog w) A c' R s') (fun e s' => R (.error e) s') s := by
  show wpAny _ _ (do let old ← Builtin.List.listItems (.ref S); Builtin.List.listUpdate (.ref S) (fun _ => #[]); letGo old.toList.reverse; Builtin.List.listExtendWith (.ref S) (.ref it) .none) _ _ s
  refine wpAny_bind ?_
  unfold Builtin.List.listItems
  refine wpAny_bind (wpAny_seqItems hS rfl (wpAny_pure ?_))
  show wpAny _ _ (updateSeq S (fun _ => #[]) >>= fun _ => letGo (#[] : Array Value).toList.reverse >>= fun _ => Builtin.List.listExtendWith (.ref S) (.ref it) .none) _ _ s
  refine wpAny_bind (wpAny_updateSeq hS rfl ?_)
  have hS₂ := Heap.get?_update_self (Obj.mapSeq (fun _ => (#[] : Array Value))) hS rfl
  have oth : ∀ b o, b ≠ S → s.heap.get? b = some o → (s.heap.update S (Obj.mapSeq (fun _ => (#[] : Array Value)))).get? b = some o :=
    fun b o hb e => (Heap.get?_update_other _ _ (Ne.symm hb)).trans e
  refine wpAny_bind (wpAny_letGo ?_)
  refine extend_rev hh (hit.at fun o e => oth it o (Ne.symm hSi) e) (by obtain ⟨o, ho, r⟩ := hl; exact ⟨o, oth l o (Ne.symm hSl) ho, r⟩) hne hn S hSi hSl .none _ hS₂ fun h' tk acc' c' hk hS' hacc => ?_
  exact hR h' tk acc' c' (fun b o hb hb2 e => hk b o hb hb2 (oth b o hb e)) hS' hacc
theorem call_list_rev {Q : Value → Shared → Prop} {it l : Addr} {items : Array Value} (hh : A.handled = none) (hit : s.heap.IsRevIter it l ((items.size : Int) - 1)) (hl : s.heap.IsList l items) (hne : l ≠ it) (hn : items.size ≤ sizeLine)
    (hQ : ∀ (h' : Heap) (tk : Nat) (acc' : Array Value) (c' : Nat), (∀ b o, b ≠ it → s.heap.get? b = some o → h'.get? b = some o) →
      h'.get? s.heap.objs.size = some { cls := .type "list", dict := none, data := .seq acc' c', slots := #[] } → ItemsOf (fun i v => items[items.size - 1 - i]? = some v) acc' items.size → Q (.ref s.heap.objs.size) { s with heap := h', toks := tk }) :
    wpAny (model prog w) A (call (.type "list") [.ref it]) Q E s := by
  obtain ⟨oi, hoi, _⟩ := id hit
  obtain ⟨ol, hol, _⟩ := id hl
  have hSi : s.heap.objs.size ≠ it := Nat.ne_of_gt (Heap.lt_size hoi)
  have hSl : s.heap.objs.size ≠ l := Nat.ne_of_gt (Heap.lt_size hol)
  refine callType_codes (Q₁ := fun obj s₁ => obj = .ref s.heap.objs.size ∧ s₁ = { s with heap := s.heap.push { cls := .type "list", data := .seq #[] } }) F.called_list (F.typeCall_list_1 _) F.entry_list_init
    (code_list_new _ ⟨rfl, rfl⟩) fun obj s₁ h₁ => ?_
  obtain ⟨rfl, rfl⟩ := h₁
  have hS : (s.heap.push { cls := .type "list", data := .seq #[] }).get? s.heap.objs.size = some { cls := .type "list", data := .seq #[] } := Heap.get?_push_size _ rfl
  refine ⟨⟨_, hS, rfl⟩, F.args_list_init_2 _ _, init_rev (A := A.in1) hh (hit.at fun o e => Heap.get?_push_of_some _ e) (hl.push _) hne hn _ hSi hSl hS fun h' tk acc' c' hk hS' hacc => ?_⟩
  exact ⟨rfl, hQ h' tk acc' c' (fun b o hb e => hk b o (Nat.ne_of_lt (Heap.lt_size e)) hb (Heap.get?_push_of_some _ e)) hS' hacc⟩
end
def tLstRev (K : PySem.W.Frag) (te : TE) : TE := fun σ H Q => te σ H fun v H1 => ∃ (a : Addr) (xs : List V), v = .ref a ∧ SqL K H1 a xs ∧ ∀ q, H1 q = none → Q (.ref q) (upd H1 q (.lst xs.reverse))
section
variable {X : Cx}
theorem pe_listRev {e : Expr} {te : TE} {p p2 pos pos2 : Pos} (hc : X.calm = true) (hg : Gl X "list") (hm : X.mg "list" = none) (hg2 : Gl X "reversed") (hm2 : X.mg "reversed" = none) (he : PE X e te)
    (hs : starEach [e] X.env = (false, eval e X.env) :: starEach [] X.env := by rfl)
    (hs2 : starEach [.Call (.Name "reversed" p2) [e] [] pos2] X.env = (false, eval (.Call (.Name "reversed" p2) [e] [] pos2) X.env) :: starEach [] X.env := by rfl) :
    PE X (.Call (.Name "list" p) [.Call (.Name "reversed" p2) [e] [] pos2] [] pos) (tLstRev X.K te) := by
  refine ⟨fun pins s σ H Q I h => ?_⟩
  refine Call_ (ld_blt I hg hm boot_list (PyProof.Rows.callWith_type1 (args_cons (Call_ (ld_blt I hg2 hm2 PyProof.Rows.boot_reversed (PyProof.Rows.callWith_type1 (args_cons (thn (he.run pins s σ H _ I h) fun u s1 ⟨v, H1, I1, r1, q1⟩ => args_nil ?_) hs) hs rfl))) hs2) hs2 rfl))
  obtain ⟨a, xs, ev, hq, q⟩ := q1
  subst ev
  obtain rfl : u = Value.ref a := r1
  obtain ⟨its, rv, p', hz⟩ := I1.list hq
  refine call_reversed_list p'.isList (args_nil ?_)
  have hl := p'.isList
  obtain ⟨ol, hol, _⟩ := id hl
  have hne : a ≠ s1.heap.objs.size := Nat.ne_of_lt (Heap.lt_size hol)
  have hn : its.toArray.size ≤ sizeLine := by rw [List.size_toArray, ← rv.length]; exact hz
  refine call_list_rev (s := { s1 with heap := s1.heap.push (revObj a ((its.toArray.size : Int) - 1)) }) (I1.ok.hd hc) ⟨_, Heap.get?_push_size _ rfl, rfl, rfl⟩ (hl.push _) hne hn fun h' tk acc c' hk e' hi => ?_
  have hsz : s1.heap.objs.size ≤ (s1.heap.push (revObj a ((its.toArray.size : Int) - 1))).objs.size := by simp [Heap.push]
  have hk1 : ∀ b o, s1.heap.get? b = some o → h'.get? b = some o := fun b o e => hk b o (Nat.ne_of_lt (Heap.lt_size e)) (Heap.get?_push_of_some _ e)
  refine ⟨.ref _, upd H1 _ (.lst xs.reverse), I1.laid (t' := tk) hk1 hsz (show ObjOk X.prog X.w _ _ _ (.lst xs.reverse) from ⟨by rw [List.length_reverse]; exact hz, acc.toList, c', RT.vals_rev rv hi, ?_⟩), rfl, q _ (I1.hok.fresh hsz)⟩
  rw [Array.toArray_toList]
  exact e'
end
section
variable [TbC]
theorem Rs.rev {K : Kx} {F H : Hp} : ∀ {ds : List D} {vs : List V}, Rs K F H ds vs [] → ds.all flatD = true → Rs K F H ds.reverse vs.reverse []
  | [], _, .nil, _ => .nil
  | d :: ds, v :: vs, r, a => by
    rw [List.all_cons, Bool.and_eq_true] at a
    generalize hg : ([] : List Addr) = g at r
    cases r with
    | cons h t =>
      have z1 := h.flat a.1
      have z2 := t.flats a.2
      subst z1
      subst z2
      rw [List.reverse_cons, List.reverse_cons]
      exact Rs.app (Rs.rev t a.2) (.cons (f1 := []) (f2 := []) h .nil)
variable {G : Tab} {xi : Xi}
theorem se_lrev (a : Exp) (ih : SE G xi a) : SE G xi (.lrev a) := by
  intro c W X e g h
  rw [chkE.eq_def] at h
  dsimp only at h
  split at h
  · rename_i x p y q n pos pos2
    simp only [Bool.and_eq_true, beq_iff_eq] at h
    obtain ⟨⟨⟨⟨⟨h0, h1⟩, h2⟩, h3⟩, h4⟩, h5⟩ := h
    subst h1
    subst h2
    have m1 : X.mg "list" = none := g.blt _ (by decide +kernel)
    have m2 : X.mg "reversed" = none := g.blt _ (by decide +kernel)
    have hs : starP n = false := chk_star a h5
    have e1 : starEach [n] X.env = (false, eval n X.env) :: starEach [] X.env := star_cons _ _ _ hs
    refine (pe_listRev (g.cm h0) (g.gl h3).1 m1 (g.gl h4).1 m2 (ih g h5) e1 rfl).imp3 fun σ H Q hq => ?_
    obtain ⟨env, F, fp, w, hq⟩ := hq
    rw [ev] at hq
    refine rd_one (f := fun x => someOk (revD x)) w hq fun d v H1 F1 f1 o w1 q => ?_
    cases d <;> try (exact q.elim)
    rename_i f ds
    have er : revD (.lst f ds) = chkO (ds.all flatD = true ∧ ds.length ≤ 1000000) (some (.lst .own ds.reverse)) := rfl
    rw [er] at q
    unfold chkO at q
    by_cases hc : ds.all flatD = true ∧ ds.length ≤ 1000000
    · rw [if_pos hc] at q
      obtain ⟨b, vs, gg, rfl, ha, r1, sb⟩ := R.lst' o.sub o.r
      have hz := r1.flats hc.1
      subst hz
      refine ⟨b, vs, rfl, .inl (.inl ha), fun l hl => q _ _ _ _ (.list o.sub hl (Rs.rev r1 hc.1) List.nodup_nil (fun a m => absurd m List.not_mem_nil) o.off fun a m z => ?_)⟩
      obtain ⟨xs, hx⟩ := o.r.has a m
      rw [hx] at z
      cases z
    · rw [if_neg hc] at q
      exact q.elim
  · cases h
end
end L3

set_option maxRecDepth 100000
set_option maxHeartbeats 4000000
/-! L3.Dic: a dict made in a def, looked into. -/
namespace L3
open PySem PySem.Spec PyProof.Rows L2
variable [TbC]
section
variable {G : Tab} {xi : Xi}
theorem din_some {m : Int → Int → Option D} {ng : Bool} {ds : List D} {d : D} (h : dinD m ng ds = some d) : ∃ a b, ds = [.int a, .int b] ∧ d = .bl (if ng then (m a b).isNone else (m a b).isSome) := by
  unfold dinD at h
  split at h
  · cases h; exact ⟨_, _, rfl, rfl⟩
  · cases h
theorem dget_some {m : Int → Int → Option D} {ds : List D} {d : D} (h : dgetD m ds = some d) : ∃ a b, ds = [.int a, .int b] ∧ m a b = some d := by
  unfold dgetD at h
  split at h
  · exact ⟨_, _, rfl, h⟩
  · cases h
/-- the dict's cell -/
theorem dic_cell {c : Cc} {W : WX} {X : Cx} (g : Good c G xi W X) (hd : c.dic = true) {i : Nat} {σ : L2.St} {H : Hp} {env : Env} {F : Hp} {fp : List Addr} (w : Wd ⟨X.K, xi⟩ F H env σ fp) {n : Nat} (he : ((env[i]?).bind id).bind isClo = some n) :
    ∃ a kvs, σ[i]? = some (some (.ref a)) ∧ H a = some (.dT kvs) ∧ DicAt X.K F kvs G.dk := by
  cases hz : env[i]? with
  | none => rw [hz] at he; cases he
  | some o =>
    cases o with
    | none => rw [hz] at he; cases he
    | some d =>
      rw [hz] at he
      cases d <;> try cases he
      obtain ⟨v, gg, q1, q2, q3⟩ := w.es.get hz
      cases q2 with
      | @clo _ a hfo =>
        obtain ⟨kvs, m, D⟩ := g.dik hd _ _ _ hfo
        exact ⟨a, kvs, q1, w.hi.o _ m, D⟩
theorem dic_see {K : PySem.W.Frag} {F : Hp} {kvs : List (List Key × V)} {m : Int → Int → Option D} (D : DicAt K F kvs m) (i j : Int) : (valV kvs [.inl i, .inl j]).isSome = (m i j).isSome := by
  have := D i j
  cases h : m i j with
  | none => rw [h] at this; rw [this]; rfl
  | some d => rw [h] at this; obtain ⟨_, _, _, _, _, _, _, _, e, _⟩ := this; rw [e]; rfl
theorem rd_din {c : Cc} {W : WX} {X : Cx} (g : Good c G xi W X) (hd : c.dic = true) {ng : Bool} {i : Nat} {es : Exps} {σ : L2.St} {H : Hp} {Q : VK} {R0 : Addr → Option V → Bool} (hR : ∀ a o, R0 a o = if ng then !o.isSome else o.isSome) (hq : rdE ⟨X.K, xi⟩ X.mg W G (.din ng i es) σ H Q) :
    tTup (rdA ⟨X.K, xi⟩ X.mg W G es) σ H fun y H1 => tVar i σ H1 fun x H2 => ∃ a o, x = .ref a ∧ DGet H2 a y o ∧ Q (.bl (R0 a o)) H2 := by
  obtain ⟨env, F, fp, w, hq⟩ := hq
  rw [ev] at hq
  refine rd_args w hq fun ds vs H1 F1 f1 o q => ?_
  cases he : ((env[i]?).bind id).bind isClo with
  | none => rw [he] at q; exact q.elim
  | some n =>
    obtain ⟨a, kvs, s1, s2, D⟩ := dic_cell g hd w he
    rw [he] at q
    have q : match someOk (dinD G.dk ng ds) with
      | .ok d => ∀ v H' F' fr, Out1 ⟨X.K, xi⟩ F1 H1 f1 F' H' d v fr → Q v H'
      | .ex n => Rai X.mg W n σ H1
      | .no => False := q
    cases hdd : dinD G.dk ng ds with
    | none => rw [hdd] at q; exact q.elim
    | some d =>
      obtain ⟨i', j', rfl, rfl⟩ := din_some hdd
      rw [hdd] at q
      obtain ⟨rfl, _⟩ := Rs.ints (ns := [i', j']) o.r
      have s3 : H1 a = some (.dT kvs) := o.eH.k _ _ rfl s2
      refine ⟨by rw [sizeLine_eq]; simp, fun p hp => ⟨_, s1, a, _, rfl, DGet.t (kvs := kvs) (k := [.inl i', .inl j']) ?_ upd_same, ?_⟩⟩
      · rw [upd_ne (fun z => by rw [z, hp] at s3; cases s3)]
        exact s3
      · rw [hR, dic_see D]
        have : (if ng = true then !(G.dk i' j').isSome else (G.dk i' j').isSome) = (if ng = true then (G.dk i' j').isNone else (G.dk i' j').isSome) := by
          cases G.dk i' j' <;> rfl
        rw [this]
        exact q _ _ F1 [] ⟨Ex.new hp, Ex.refl _, o.sub.trans (Ex.new hp), fun a h1 h2 => absurd h1 h2, .bl _, List.nodup_nil, fun a m => absurd m List.not_mem_nil, fun a m => absurd m List.not_mem_nil⟩
theorem se_din (ng : Bool) (i : Nat) (es : Exps) (ih : SA G xi es) : SE G xi (.din ng i es) := by
  intro c W X e g h
  rw [chkE.eq_def] at h
  dsimp only at h
  split at h
  · rename_i y ys k p op x q pos
    simp only [Bool.and_eq_true, Bool.not_eq_true'] at h
    obtain ⟨⟨⟨⟨h1, h2⟩, h3⟩, h4⟩, h5⟩ := h
    obtain ⟨k1, k2, k3, k4⟩ := g.vis h2
    have hu : X.A.units + 1 < cLine := by have := g.hu; omega
    cases op <;> try (cases h3)
    · have h3 : ng = false := by simpa using h3
      subst h3
      exact (pe_cmp (pc_din hu (pe_tup (ih g h4)) (pe_var (i := i) k1 k2 k3 k4)) h5).imp3 fun σ H Q hq => rd_din (R0 := fun _ o => o.isSome) g h1 (fun _ _ => rfl) hq
    · exact (pe_cmp (pc_dnotin hu (pe_tup (ih g h4)) (pe_var (i := i) k1 k2 k3 k4)) h5).imp3 fun σ H Q hq => rd_din (R0 := fun _ o => !o.isSome) g h1 (fun _ _ => rfl) hq
  · cases h
theorem st_din (ng : Bool) (i : Nat) (es : Exps) (ih : SA G xi es) : ST G xi (.din ng i es) := by
  intro c W X e g h
  rw [chkE.eq_def] at h
  dsimp only at h
  split at h
  · rename_i y ys k p op x q pos
    simp only [Bool.and_eq_true, Bool.not_eq_true'] at h
    obtain ⟨⟨⟨⟨h1, h2⟩, h3⟩, h4⟩, h5⟩ := h
    obtain ⟨k1, k2, k3, k4⟩ := g.vis h2
    have hu : X.A.units + 1 < cLine := by have := g.hu; omega
    cases op <;> try (cases h3)
    · have h3 : ng = false := by simpa using h3
      subst h3
      exact (pt_cmp (pc_din hu (pe_tup (ih g h4)) (pe_var (i := i) k1 k2 k3 k4)) h5).imp3 fun σ H Q hq => rd_din (R0 := fun _ o => o.isSome) g h1 (fun _ _ => rfl) (rdT_of hq)
    · exact (pt_cmp (pc_dnotin hu (pe_tup (ih g h4)) (pe_var (i := i) k1 k2 k3 k4)) h5).imp3 fun σ H Q hq => rd_din (R0 := fun _ o => !o.isSome) g h1 (fun _ _ => rfl) (rdT_of hq)
  · cases h
theorem se_dget (i : Nat) (es : Exps) (ih : SA G xi es) : SE G xi (.dget i es) := by
  intro c W X e g h
  rw [chkE.eq_def] at h
  dsimp only at h
  split at h
  · rename_i x q y ys k p pos
    simp only [Bool.and_eq_true, Bool.not_eq_true'] at h
    obtain ⟨⟨⟨h1, h2⟩, h4⟩, h5⟩ := h
    obtain ⟨k1, k2, k3, k4⟩ := g.vis h2
    have hu : X.A.units + 1 < cLine := by have := g.hu; omega
    refine (pe_dget hu (pe_var (i := i) k1 k2 k3 k4) (pe_tup (ih g h4)) (fun _ _ => rfl)).imp3 fun σ H Q hq => ?_
    obtain ⟨env, F, fp, w, hq⟩ := hq
    rw [ev] at hq
    cases he : ((env[i]?).bind id).bind isClo with
    | none => rw [he] at hq; exact hq.elim
    | some n =>
      obtain ⟨a, kvs, s1, s2, D⟩ := dic_cell g h1 w he
      rw [he] at hq
      have hq' : match (evs G es env).bind fun ds => someOk (dgetD G.dk ds) with
        | .ok d => ∀ v H' F' fr, Out1 ⟨X.K, xi⟩ F H [] F' H' d v fr → Q v H'
        | .ex n => Rai X.mg W n σ H
        | .no => False := hq
      refine ⟨_, s1, rd_args w hq' fun ds vs H1 F1 f1 o q => ?_⟩
      cases hdd : dgetD G.dk ds with
      | none => rw [hdd] at q; exact q.elim
      | some d =>
        obtain ⟨i', j', rfl, hm⟩ := dget_some hdd
        rw [hdd] at q
        obtain ⟨rfl, _⟩ := Rs.ints (ns := [i', j']) o.r
        have s3 : H1 a = some (.dT kvs) := o.eH.k _ _ rfl s2
        have z := D i' j'
        rw [hm] at z
        obtain ⟨dx, dy, vx, vy, t, rfl, zx, zy, zv, zt⟩ := z
        refine ⟨by rw [sizeLine_eq]; simp, fun p hp => ⟨a, .ref t, rfl, ?_, ?_⟩⟩
        · rw [← zv]
          refine DGet.t (kvs := kvs) (k := [.inl i', .inl j']) ?_ upd_same
          rw [upd_ne (fun z => by rw [z, hp] at s3; cases s3)]
          exact s3
        · have eF : Ex F (upd H1 p (.tup ([i', j'].map V.int))) := (w.sub.trans o.eH).trans (Ex.new hp)
          exact q _ _ F1 [] ⟨Ex.new hp, Ex.refl _, o.sub.trans (Ex.new hp), fun a h1 h2 => absurd h1 h2, .tup (tx_t eF.tx zt) (.cons (f1 := []) (zx.2 _ _ _) (.cons (f1 := []) (zy.2 _ _ _) .nil)), List.nodup_nil, fun a m => absurd m List.not_mem_nil, fun a m => absurd m List.not_mem_nil⟩
  · cases h
end
end L3

set_option maxRecDepth 100000
set_option maxHeartbeats 4000000
/-! L3.Exps: every expression of the small language. -/
namespace L3
open PySem PySem.Spec PyProof.Rows L2
variable [TbC]

section
variable {G : Tab} {xi : Xi}
theorem se_lc (k : ItK) (its : Exps) (tg : Tg) (d e : Exp) (ihi : SA G xi its) (ihe : ItIH G xi its) (ihd : tst d = true → ST G xi d) (ihx : SE G xi e) : SE G xi (.lc k its tg d e) := by
  intro c W X f g h
  rw [chkE.eq_def] at h
  dsimp only at h
  split at h
  · rename_i elt t iter ifs ia scope pos
    simp only [Bool.and_eq_true] at h
    obtain ⟨⟨⟨⟨⟨⟨h0, h1⟩, h2⟩, h3⟩, h4⟩, h5⟩, h6⟩ := h
    have hia : ia = 0 := by simpa using h1
    subst hia
    obtain ⟨pi, hs⟩ := pi_of (t := t) g h2 ihi ihe
    have hN' : ({ c with sc := relS scope c.sc, cel := false, own := fun x => scope.names.lookup x == some .cell, clo := false, vis := none, nml := [] } : Cc).N = c.N := rfl
    have ow := own_slots (c := c) (c' := { c with sc := relS scope c.sc, cel := false, own := fun x => scope.names.lookup x == some .cell, clo := false, vis := none, nml := [] }) rfl h4
    have ok : BlkOk X.N X.env.scope scope (ownOf c tg) := by
      rw [g.N, g.sc]
      exact blkOk_by h3
    have hg : ∀ (s : Shared) (H : Hp) (C : Addr) (cl : List (Str × Addr)) (fp : List Addr), PG (X.blk s H scope (compEnvC scope cl C X.env) fp) t (gTg X.K tg) := fun s H C cl fp =>
      pg_of (good_blk g h0 s H scope C cl fp).fnc (good_blk g h0 s H scope C cl fp).N (good_blk g h0 s H scope C cl fp).sc g.nd (g.cm h0) h4
    have ht : ∀ (s : Shared) (H : Hp) (C : Addr) (cl : List (Str × Addr)) (fp : List Addr), PTs (X.blk s H scope (compEnvC scope cl C X.env) fp) ifs (tIfs G xi X d) := fun s H C cl fp => by
      unfold tIfs
      cases ifs with
      | nil =>
        rw [if_pos (show isHole d = true from h5)]
        exact pts_nil
      | cons x r =>
        cases r with
        | nil =>
          have h5 : (!isHole d && tst d && chkE { c with sc := relS scope c.sc, cel := false, own := fun x => scope.names.lookup x == some .cell, clo := false, vis := none, nml := [] } d x) = true := h5
          simp only [Bool.and_eq_true, Bool.not_eq_true'] at h5
          rw [if_neg (by rw [h5.1.1]; exact Bool.false_ne_true)]
          exact pts_one (ihd h5.1.2 (good_blk g h0 s H scope C cl fp) h5.2)
        | cons _ _ => cases h5
    have he : ∀ (s : Shared) (H : Hp) (C : Addr) (cl : List (Str × Addr)) (fp : List Addr), PE (X.blk s H scope (compEnvC scope cl C X.env) fp) elt (rdE ⟨X.K, xi⟩ X.mg W0 G e) := fun s H C cl fp => ihx (good_blk g h0 s H scope C cl fp) h6
    have key := pe_lc (pos := pos) (g.cm h0) g.nd pi ok hg ht he hs
    rw [ow] at key
    exact key.imp3 fun σ H Q hq => lc_reads (c := c) hq
  · cases h
/-- everything that is shown of an expression -/
structure SAll (G : Tab) (xi : Xi) (x : Exp) : Prop where
  se : SE G xi x
  st : tst x = true → ST G xi x
  sw : tst x = true → SW G xi x
theorem plain_all {x : Exp} (h : SE G xi x) (hw : ∀ {c : Cc} {op : PySem.BoolOp} {vs : List Expr} {pos : Pos}, chkE c x (.BoolOp op vs pos) = false) (hp : ∀ {c : Cc} {e : Expr} {env : PySem.Env}, chkE c x e = true → ∀ whole, isTrue e env whole = (do let v ← whole; standAt e.pos; holding [v] (truthy v))) : SAll G xi x :=
  ⟨h, fun _ _ _ _ _ g hc => st_val (h g hc) (hp hc), fun _ => sw_no hw⟩
theorem chk_name {c : Cc} {i : Nat} {e : Expr} (h : chkE c (.var i) e = true) : ∃ x p, e = .Name x p := by
  rw [chkE.eq_def] at h
  dsimp only at h
  split at h
  · exact ⟨_, _, rfl⟩
  · cases h
theorem st_neg (a : Exp) (ih : SE G xi a) : ST G xi (.un .neg a) := by
  intro c W X e g hc
  have h := se_un .neg a ih g hc
  rw [chkE.eq_def] at hc
  dsimp only at hc
  split at hc
  · exact st_val h fun _ => rfl
  · rw [Bool.and_eq_true] at hc
    cases hc.1
  · cases hc
mutual
theorem all_e (G : Tab) (xi : Xi) : ∀ x : Exp, SAll G xi x
  | .var i => plain_all (se_var i) rfl fun h _ => by rw [chkE.eq_def] at h; dsimp only at h; split at h <;> first | rfl | cases h
  | .int i => plain_all (se_int i) rfl fun h _ => by rw [chkE.eq_def] at h; dsimp only at h; split at h <;> first | rfl | cases h
  | .bl i => plain_all (se_bl i) rfl fun h _ => by rw [chkE.eq_def] at h; dsimp only at h; split at h <;> first | rfl | cases h
  | .str i => plain_all (se_str i) rfl fun h _ => by rw [chkE.eq_def] at h; dsimp only at h; split at h <;> first | rfl | cases h
  | .non => plain_all se_non rfl fun h _ => by rw [chkE.eq_def] at h; dsimp only at h; split at h <;> first | rfl | cases h
  | .glo j => plain_all (se_glo j) rfl fun h _ => by rw [chkE.eq_def] at h; dsimp only at h; split at h <;> first | rfl | cases h
  | .un .neg a => ⟨se_un .neg a (all_e G xi a).se, fun _ => st_neg a (all_e G xi a).se, fun _ => sw_no (x := .un .neg a) rfl⟩
  | .un .not a => ⟨se_un .not a (all_e G xi a).se, fun h => st_not a ((all_e G xi a).st h), fun _ => sw_no (x := .un .not a) rfl⟩
  | .bin o a b => ⟨se_bin o a b (all_e G xi a).se (all_e G xi b).se, fun _ => st_bin o a b (all_e G xi a).se (all_e G xi b).se, fun _ => sw_no (x := .bin o a b) rfl⟩
  | .chain o p a b d => ⟨se_chain o p a b d (all_e G xi a).se (all_e G xi b).se (all_e G xi d).se, fun _ => st_chain o p a b d (all_e G xi a).se (all_e G xi b).se (all_e G xi d).se, fun _ => sw_no (x := .chain o p a b d) rfl⟩
  | .and a b => ⟨se_and a b (all_e G xi a).se (all_e G xi b).se, fun h => by
      have h : (tst a && tst b) = true := h
      rw [Bool.and_eq_true] at h
      exact st_of_sw (sw_and a b ((all_e G xi a).st h.1) ((all_e G xi b).st h.2) ((all_e G xi b).sw h.2)) bool_and, fun h => by
      have h : (tst a && tst b) = true := h
      rw [Bool.and_eq_true] at h
      exact sw_and a b ((all_e G xi a).st h.1) ((all_e G xi b).st h.2) ((all_e G xi b).sw h.2)⟩
  | .or a b => ⟨se_or a b (all_e G xi a).se (all_e G xi b).se, fun h => by
      have h : (tst a && tst b) = true := h
      rw [Bool.and_eq_true] at h
      exact st_of_sw (sw_or a b ((all_e G xi a).st h.1) ((all_e G xi b).st h.2) ((all_e G xi b).sw h.2)) bool_or, fun h => by
      have h : (tst a && tst b) = true := h
      rw [Bool.and_eq_true] at h
      exact sw_or a b ((all_e G xi a).st h.1) ((all_e G xi b).st h.2) ((all_e G xi b).sw h.2)⟩
  | .ife d a b => ⟨se_ife d a b (all_e G xi d).st (all_e G xi a).se (all_e G xi b).se, fun h => absurd (show false = true from h) Bool.false_ne_true, fun h => absurd (show false = true from h) Bool.false_ne_true⟩
  | .slc a lo hi => plain_all (se_slc a lo hi (all_e G xi a).se (all_e G xi lo).se (all_e G xi hi).se) rfl fun h _ => by rw [chkE.eq_def] at h; dsimp only at h; split at h <;> first | rfl | cases h
  | .hole => plain_all se_hole rfl fun h _ => absurd (show false = true from h) Bool.false_ne_true
  | .tup es => plain_all (se_tup es (all_a G xi es)) rfl fun h _ => by rw [chkE.eq_def] at h; dsimp only at h; split at h <;> first | rfl | cases h
  | .lst es => plain_all (se_lst es (all_a G xi es)) rfl fun h _ => by rw [chkE.eq_def] at h; dsimp only at h; split at h <;> first | rfl | cases h
  | .call j es => plain_all (se_call j es (all_a G xi es)) rfl fun h _ => by rw [chkE.eq_def] at h; dsimp only at h; split at h <;> first | rfl | cases h
  | .din ng i es => ⟨se_din ng i es (all_a G xi es), fun _ => st_din ng i es (all_a G xi es), fun _ => sw_no (x := .din ng i es) rfl⟩
  | .dget i es => plain_all (se_dget i es (all_a G xi es)) rfl fun h _ => by rw [chkE.eq_def] at h; dsimp only at h; split at h <;> first | rfl | cases h
  | .callv i es => plain_all (se_callv i es (all_a G xi es)) rfl fun h _ => by rw [chkE.eq_def] at h; dsimp only at h; split at h <;> first | rfl | cases h
  | .callc es => plain_all (se_callc es (all_a G xi es)) rfl fun h _ => by rw [chkE.eq_def] at h; dsimp only at h; split at h <;> first | rfl | cases h
  | .blt f es => plain_all (se_blt f es (all_a G xi es)) rfl fun h _ => by rw [chkE.eq_def] at h; dsimp only at h; split at h <;> first | rfl | cases h
  | .frz a => ⟨se_frz a (all_e G xi a).se, fun h => absurd (show false = true from h) Bool.false_ne_true, fun h => absurd (show false = true from h) Bool.false_ne_true⟩
  | .lrng a => plain_all (se_lrng a (all_e G xi a).se) rfl fun h _ => by rw [chkE.eq_def] at h; dsimp only at h; split at h <;> first | rfl | cases h
  | .lrev a => plain_all (se_lrev a (all_e G xi a).se) rfl fun h _ => by rw [chkE.eq_def] at h; dsimp only at h; split at h <;> first | rfl | cases h
  | .mth m a es => plain_all (se_mth m a es (all_e G xi a).se (all_a G xi es)) rfl fun h _ => by rw [chkE.eq_def] at h; dsimp only at h; split at h <;> first | rfl | cases h
  | .isi a one cs => plain_all (se_isi a one cs (all_e G xi a).se) rfl fun h _ => by rw [chkE.eq_def] at h; dsimp only at h; split at h <;> first | rfl | cases h
  | .lc k .nil tg d e => ⟨se_lc k .nil tg d e sa_nil trivial (all_e G xi d).st (all_e G xi e).se, fun h => absurd (show false = true from h) Bool.false_ne_true, fun h => absurd (show false = true from h) Bool.false_ne_true⟩
  | .lc k (.cons a r) tg d e => ⟨se_lc k (.cons a r) tg d e (sa_cons a r (all_e G xi a).se (all_a G xi r)) ⟨(all_e G xi a).se, all_a G xi r⟩ (all_e G xi d).st (all_e G xi e).se, fun h => absurd (show false = true from h) Bool.false_ne_true, fun h => absurd (show false = true from h) Bool.false_ne_true⟩
theorem all_a (G : Tab) (xi : Xi) : ∀ xs : Exps, SA G xi xs
  | .nil => sa_nil
  | .cons a r => sa_cons a r (all_e G xi a).se (all_a G xi r)
end
end
end L3

set_option maxRecDepth 100000
set_option maxHeartbeats 4000000
/-! L3.Stm0: what a statement leaves. -/
namespace L3
open PySem PySem.Spec PyProof.Rows L2
variable [TbC]

/-- no slot holds what is only looked at -/
def npE (env : Env) : Prop := ∀ d, some d ∈ env → nopk d = true
/-- fp: the lists owned ahead, fp': behind -/
structure Pst (F H : Hp) (fp : List Addr) (F' H' : Hp) (fp' : List Addr) : Prop where
  keep : ∀ a o, isTb o = false → H a = some o → a ∉ fp → H' a = some o
  eF : Ex F F'
  new : ∀ a, F a = none → F' a ≠ none → a ∈ fp ∨ H a = none
  fresh : ∀ a ∈ fp', a ∈ fp ∨ H a = none
  tx : Tx H H'
theorem Pst.refl (F H : Hp) (fp : List Addr) : Pst F H fp F H fp := ⟨fun a o _ h _ => h, Ex.refl _, fun a h1 h2 => absurd h1 h2, fun a m => .inl m, Tx.refl _⟩
theorem Pst.trans {F H F1 H1 F2 H2 : Hp} {fp fp1 fp2 : List Addr} (p : Pst F H fp F1 H1 fp1) (q : Pst F1 H1 fp1 F2 H2 fp2) : Pst F H fp F2 H2 fp2 := by
  have back : ∀ a, H1 a = none → a ∈ fp ∨ H a = none := fun a h => .inr (p.tx.f a h)
  refine ⟨fun a o b h n => ?_, p.eF.trans q.eF, fun a h1 h2 => ?_, fun a m => ?_, p.tx.trans q.tx⟩
  · refine q.keep a o b (p.keep a o b h n) fun m => ?_
    rcases p.fresh a m with z | z
    · exact n z
    · rw [h] at z; cases z
  · cases e : F1 a with
    | none =>
      rcases q.new a e h2 with z | z
      · exact p.fresh a z
      · exact back a z
    | some u => exact p.new a h1 (by rw [e]; exact fun q => nomatch q)
  · rcases q.fresh a m with z | z
    · exact p.fresh a z
    · exact back a z
theorem Pst.of_ex {F H F' H' : Hp} {fp fp' : List Addr} (eH : Ex H H') (eF : Ex F F') (new : ∀ a, F a = none → F' a ≠ none → H a = none) (fresh : ∀ a ∈ fp', a ∈ fp ∨ H a = none) : Pst F H fp F' H' fp' :=
  ⟨fun a o n h _ => eH.k a o n h, eF, fun a h1 h2 => .inr (new a h1 h2), fresh, eH.tx⟩
section
variable (K : Kx) (mg : Str → Option Value) (W : WX) (G : Tab)
/-- what is wished behind a statement, by what it does -/
def OutW (o : Out) (F H : Hp) (fp : List Addr) (E : Ends) : Prop := match o with
  | .nx e => ∀ σ' H' F' fp', Wd K F' H' e σ' fp' → npE e → Pst F H fp F' H' fp' → E.nx σ' H'
  | .bk e => ∀ σ' H' F' fp', Wd K F' H' e σ' fp' → npE e → Pst F H fp F' H' fp' → E.bk σ' H'
  | .ct e => ∀ σ' H' F' fp', Wd K F' H' e σ' fp' → npE e → Pst F H fp F' H' fp' → E.ct σ' H'
  | .rt d => ∀ v H' F' fr, R K F' H' d v fr → fr.Nodup → (∀ a ∈ fr, F' a = none) → Ex F' H' → nopk d = true → Pst F H fp F' H' fr → E.rt v H'
  | .ex n e => ∀ C σ' H' F' fp', mg n = some (.ref C) → Wd K F' H' e σ' fp' → npE e → Pst F H fp F' H' fp' → W (.ref C) none σ' H'
  | .no => False
def rdS (s : Stm) : TS := fun E σ H => ∃ env F fp, Wd K F H env σ fp ∧ npE env ∧ OutW K mg W (exec G s env) F H fp E
def rdSs (s : Stms) : TS := fun E σ H => ∃ env F fp, Wd K F H env σ fp ∧ npE env ∧ OutW K mg W (execs G s env) F H fp E
/-- something kept -/
structure OutM (F H : Hp) (fp : List Addr) (F' H' : Hp) (d : D) (v : V) (fr : List Addr) (env' : Env) (σ : L2.St) (fp' : List Addr) : Prop where
  eH : Ex H H'
  eF : Ex F F'
  sub : Ex F' H'
  new : ∀ a, F a = none → F' a ≠ none → H a = none
  r : R K F' H' d v fr
  es : Es K F' H' env' σ fp'
  nd : (fr ++ fp').Nodup
  fresh : ∀ a ∈ fr ++ fp', a ∈ fp ∨ H a = none
  off : ∀ a ∈ fr ++ fp', F' a = none
  np : nopk d = true
  npe : npE env'
  hi : HI K H'
def rdM (m : Mx) : TE := fun σ H Q => ∃ env F fp, Wd K F H env σ fp ∧ npE env ∧ match evm G m env with
  | .ok p => ∀ v H' F' fr fp', OutM K F H fp F' H' p.1 v fr p.2 σ fp' → Q v H'
  | .ex n => Rai mg W n σ H
  | .no => False
end
theorem npE.set {env : Env} {i : Nat} {o : Option D} (h : npE env) (ho : ∀ d, o = some d → nopk d = true) : npE (env.set i o) := fun d m => by
  rcases List.mem_or_eq_of_mem_set m with z | z
  · exact h d z
  · exact ho d z.symm
/-- a slot handed on -/
theorem Es.take {K : Kx} {F H : Hp} : ∀ {e : Env} {s : L2.St} {fp : List Addr} {i : Nat} {d : D}, Es K F H e s fp → e[i]? = some (some d) → ∃ v g fp', s[i]? = some (some v) ∧ R K F H d v g ∧ Es K F H (e.set i none) s fp' ∧ (∀ a, a ∈ g ++ fp' → a ∈ fp) ∧ (fp.Nodup → (g ++ fp').Nodup)
  | _, _, _, i, d, .emp, h => by simp at h
  | _, _, _, 0, d, .no o q, h => by simp at h
  | _, _, _, 0, d, .ye (f1 := f1) (f2 := f2) r q, h => by
    simp at h
    subst h
    exact ⟨_, f1, f2, rfl, r, .no _ q, fun a m => m, id⟩
  | _, _, _, i + 1, d, .no o q, h => by
    obtain ⟨v, g, fp', h1, h2, h3, h4, h5⟩ := Es.take (i := i) q (by simpa using h)
    exact ⟨v, g, fp', by simpa using h1, h2, .no o h3, h4, h5⟩
  | _, _, _, i + 1, d, .ye (f1 := f1) (f2 := f2) r q, h => by
    obtain ⟨v, g, fp', h1, h2, h3, h4, h5⟩ := Es.take (i := i) q (by simpa using h)
    refine ⟨v, g, f1 ++ fp', by simpa using h1, h2, .ye r h3, fun a m => ?_, fun n => ?_⟩
    · rcases List.mem_append.mp m with m | m
      · exact List.mem_append_right _ (h4 a (List.mem_append_left _ m))
      · rcases List.mem_append.mp m with m | m
        · exact List.mem_append_left _ m
        · exact List.mem_append_right _ (h4 a (List.mem_append_right _ m))
    · have n1 := List.nodup_append.mp n
      have n2 := List.nodup_append.mp (h5 n1.2.1)
      refine List.nodup_append.mpr ⟨n2.1, List.nodup_append.mpr ⟨n1.1, n2.2.1, fun a m b m' => n1.2.2 a m b (h4 b (List.mem_append_right _ m'))⟩, fun a m b m' e => ?_⟩
      rcases List.mem_append.mp m' with m' | m'
      · exact n1.2.2 b m' a (h4 a (List.mem_append_left _ m)) e.symm
      · exact n2.2.2 a m b m' e
theorem mem_of_slot {env : Env} {i : Nat} {d : D} (h : (env[i]?).bind id = some d) : env[i]? = some (some d) ∧ some d ∈ env := by
  cases hz : env[i]? with
  | none => rw [hz] at h; cases h
  | some o =>
    rw [hz] at h
    have e : o = some d := h
    subst e
    exact ⟨rfl, List.mem_of_getElem? hz⟩
/-! ### what is kept -/
section
variable {G : Tab} {xi : Xi}
theorem sm_p (x : Exp) {W : WX} {X : Cx} {σ : L2.St} {H : Hp} {Q : VK} (h : rdM ⟨X.K, xi⟩ X.mg W G (.p x) σ H Q) : rdE ⟨X.K, xi⟩ X.mg W G x σ H Q := by
  obtain ⟨env, F, fp, w, np, h⟩ := h
  refine ⟨env, F, fp, w, ?_⟩
  rw [evm] at h
  cases ex : ev G x env with
  | no => rw [ex] at h; exact h
  | ex n => rw [ex] at h; exact h
  | ok d =>
    rw [ex, Res.bind_ok] at h
    unfold chkR at h
    by_cases hn : nopk d = true
    · rw [if_pos hn] at h
      intro v H' F' fr o
      have w' := w.next o.eH o.eF o.sub o.new
      refine h v H' F' fr fp ⟨o.eH, o.eF, o.sub, o.new, o.r, w'.es, ?_, fun a m => ?_, fun a m => ?_, hn, np, w'.hi⟩
      · refine List.nodup_append.mpr ⟨o.nd, w.nd, fun a m b m2 e => ?_⟩
        subst e
        obtain ⟨xs, q⟩ := w.es.has a m2
        rw [(o.fresh a m).resolve_left List.not_mem_nil] at q
        cases q
      · rcases List.mem_append.mp m with m | m
        · exact .inr ((o.fresh a m).resolve_left List.not_mem_nil)
        · exact .inl m
      · rcases List.mem_append.mp m with m | m
        · exact o.off a m
        · exact w'.off a m
    · rw [if_neg hn] at h
      exact h.elim
/-- two things kept, the second in the world that the first leaves -/
theorem rdM_then {W : WX} {X : Cx} {m : Mx} {σ : L2.St} {H : Hp} {P : V → Hp → Prop} {env : Env} {F : Hp} {fp gs : List Addr} {ds : List D} {vs : List V} (w : Wd ⟨X.K, xi⟩ F H env σ fp) (np : npE env) (rs : Rs ⟨X.K, xi⟩ F H ds vs gs) (nd : (gs ++ fp).Nodup) (off : ∀ a ∈ gs, F a = none) (npd : nopks ds = true)
    (h : match evm G m env with
      | .ok p => ∀ v H' F' fr fp', OutM ⟨X.K, xi⟩ F H fp F' H' p.1 v fr p.2 σ fp' → Rs ⟨X.K, xi⟩ F' H' ds vs gs → (gs ++ (fr ++ fp')).Nodup → (∀ a ∈ gs, F' a = none) → P v H'
      | .ex n => Rai X.mg W n σ H
      | .no => False) : rdM ⟨X.K, xi⟩ X.mg W G m σ H P := by
  refine ⟨env, F, fp, w, np, ?_⟩
  cases em : evm G m env with
  | no => rw [em] at h; exact h
  | ex n => rw [em] at h; exact h
  | ok p =>
    rw [em] at h
    intro v H' F' fr fp' o
    refine h v H' F' fr fp' o (rs.mono o.eF o.eH) ?_ fun a m => ?_
    · have n1 := List.nodup_append.mp nd
      refine List.nodup_append.mpr ⟨n1.1, o.nd, fun a m b m' e => ?_⟩
      subst e
      rcases o.fresh a m' with z | z
      · exact n1.2.2 a m a z rfl
      · obtain ⟨xs, q⟩ := rs.has a m
        rw [q] at z
        cases z
    · cases ef : F' a with
      | none => rfl
      | some u =>
        obtain ⟨xs, q⟩ := rs.has a m
        have z := o.new a (off a m) (by rw [ef]; exact fun q => nomatch q)
        rw [q] at z
        cases z
def SM (G : Tab) (xi : Xi) (m : Mx) : Prop := ∀ ⦃c : Cc⦄ ⦃W : WX⦄ ⦃X : Cx⦄ ⦃e : Expr⦄, Good c G xi W X → chkM c m e = true → PE X e (rdM ⟨X.K, xi⟩ X.mg W G m) ∧ starP e = false
theorem OutM.chain {K : Kx} {F H F1 H1 F2 H2 : Hp} {fp fp1 fp2 fr : List Addr} {d : D} {v : V} {env2 : Env} {σ : L2.St} (eH : Ex H H1) (eF : Ex F F1) (new : ∀ a, F a = none → F1 a ≠ none → H a = none) (fresh : ∀ a ∈ fp1, a ∈ fp ∨ H a = none) (o : OutM K F1 H1 fp1 F2 H2 d v fr env2 σ fp2) : OutM K F H fp F2 H2 d v fr env2 σ fp2 := by
  refine ⟨eH.trans o.eH, eF.trans o.eF, o.sub, fun a h1 h2 => ?_, o.r, o.es, o.nd, fun a m => ?_, o.off, o.np, o.npe, o.hi⟩
  · cases e : F1 a with
    | none => exact Ex.free eH (o.new a e h2)
    | some u => exact new a h1 (by rw [e]; exact fun q => nomatch q)
  · rcases o.fresh a m with z | z
    · exact fresh a z
    · exact .inr (Ex.free eH z)
theorem all_m : ∀ m : Mx, SM G xi m
  | .p x => fun c W X e g h => ⟨((all_e G xi x).se g h).imp3 fun σ H Q hq => sm_p x hq, chk_star x h⟩
  | .mv i => fun c W X e g h => by
    rw [chkM.eq_def] at h; dsimp only at h
    split at h
    · obtain ⟨h1, h2, h3, h4⟩ := g.vis h
      refine ⟨(pe_var (i := i) h1 h2 h3 h4).imp3 fun σ H Q hq => ?_, rfl⟩
      obtain ⟨env, F, fp, w, np, hq⟩ := hq
      rw [evm] at hq
      cases he : (env[i]?).bind id with
      | none => rw [he] at hq; exact hq.elim
      | some d =>
        rw [he, someOk_some, Res.bind_ok] at hq
        obtain ⟨k1, k2⟩ := mem_of_slot he
        obtain ⟨v, g, fp', q1, q2, q3, q4, q5⟩ := w.es.take k1
        exact ⟨v, q1, hq v H F g fp' ⟨Ex.refl _, Ex.refl _, w.sub, fun a h1 h2 => absurd h1 h2, q2, q3, q5 w.nd, fun a m => .inl (q4 a m), fun a m => w.off a (q4 a m), np d k2, np.set (fun d z => by cases z), w.hi⟩⟩
    · cases h
  | .pair a b => fun c W X e g h => by
    rw [chkM.eq_def] at h; dsimp only at h
    split at h
    · rw [Bool.and_eq_true] at h
      obtain ⟨pa, sa⟩ := all_m a g h.1
      obtain ⟨pb, sb⟩ := all_m b g h.2
      refine ⟨(pe_tup (pa_cons pa (pa_cons pb pa_nil (star_cons _ _ _ sb)) (star_cons _ _ _ sa))).imp3 fun σ H Q hq => ?_, rfl⟩
      obtain ⟨env, F, fp, w, np, hq⟩ := hq
      rw [evm] at hq
      refine ⟨env, F, fp, w, np, ?_⟩
      cases ea : evm G a env with
      | no => rw [ea] at hq; exact hq
      | ex n => rw [ea] at hq; exact hq
      | ok p =>
        rw [ea, Res.bind_ok] at hq
        intro v H1 F1 fr1 fp1 o1
        have w1 : Wd ⟨X.K, xi⟩ F1 H1 p.2 σ fp1 := ⟨o1.sub, o1.es, (List.nodup_append.mp o1.nd).2.1, fun a m => o1.off a (List.mem_append_right _ m), o1.hi⟩
        refine rdM_then (ds := [p.1]) (vs := [v]) (gs := fr1 ++ []) w1 o1.npe (.cons o1.r .nil) (by rw [List.append_nil]; exact o1.nd) (fun a m => o1.off a (by rw [List.append_nil] at m; exact List.mem_append_left _ m)) (by show (nopk p.1 && true) = true; rw [o1.np]; rfl) ?_
        cases eb : evm G b p.2 with
        | no => rw [eb] at hq; exact hq
        | ex n => rw [eb] at hq; exact Rai.mono hq o1.eH
        | ok q =>
          rw [eb, Res.bind_ok] at hq
          intro u H2 F2 fr2 fp2 o2 rs nd2 off2
          rw [List.append_nil] at nd2 off2
          refine ⟨by rw [sizeLine_eq]; show 2 ≤ 16777216; omega, fun t ht => ?_⟩
          have hf : ∀ a ∈ fr1, a ∈ fp ∨ H a = none := fun a m => o1.fresh a (List.mem_append_left _ m)
          have o2' := OutM.chain (fp := fp) o1.eH o1.eF o1.new (fun a m => o1.fresh a (List.mem_append_right _ m)) o2
          have eT := Ex.new (o := .tup [v, u]) ht
          refine hq (.ref t) (upd H2 t (.tup [v, u])) F2 (fr1 ++ (fr2 ++ [])) fp2 ⟨o2'.eH.trans eT, o2'.eF, o2'.sub.trans eT, o2'.new, ?_, o2'.es.mono (Ex.refl _) eT, ?_, fun a m => ?_, fun a m => ?_, ?_, o2'.npe, o2'.hi.ex eT⟩
          · refine .tup (.inl (.inl upd_same)) (.cons ?_ (.cons (o2'.r.mono (Ex.refl _) eT) .nil))
            exact o1.r.mono o2.eF (o2.eH.trans eT)
          · rw [List.append_nil, List.append_assoc]
            exact nd2
          · rw [List.append_nil, List.append_assoc] at m
            rcases List.mem_append.mp m with m | m
            · exact hf a m
            · exact o2'.fresh a m
          · rw [List.append_nil, List.append_assoc] at m
            rcases List.mem_append.mp m with m | m
            · exact off2 a m
            · exact o2'.off a m
          · show (nopk p.1 && (nopk q.1 && true)) = true
            rw [o1.np, o2.np]
            rfl
    · cases h
  | .trip a b d => fun c W X e g h => by
    rw [chkM.eq_def] at h; dsimp only at h
    split at h
    · rw [Bool.and_eq_true, Bool.and_eq_true] at h
      obtain ⟨pa, sa⟩ := all_m a g h.1.1
      obtain ⟨pb, sb⟩ := all_m b g h.1.2
      obtain ⟨pd, sd⟩ := all_m d g h.2
      refine ⟨(pe_tup (pa_cons pa (pa_cons pb (pa_cons pd pa_nil (star_cons _ _ _ sd)) (star_cons _ _ _ sb)) (star_cons _ _ _ sa))).imp3 fun σ H Q hq => ?_, rfl⟩
      obtain ⟨env, F, fp, w, np, hq⟩ := hq
      rw [evm] at hq
      refine ⟨env, F, fp, w, np, ?_⟩
      cases ea : evm G a env with
      | no => rw [ea] at hq; exact hq
      | ex n => rw [ea] at hq; exact hq
      | ok p =>
        rw [ea, Res.bind_ok] at hq
        intro v H1 F1 fr1 fp1 o1
        have w1 : Wd ⟨X.K, xi⟩ F1 H1 p.2 σ fp1 := ⟨o1.sub, o1.es, (List.nodup_append.mp o1.nd).2.1, fun a m => o1.off a (List.mem_append_right _ m), o1.hi⟩
        refine rdM_then (ds := [p.1]) (vs := [v]) (gs := fr1 ++ []) w1 o1.npe (.cons o1.r .nil) (by rw [List.append_nil]; exact o1.nd) (fun a m => o1.off a (by rw [List.append_nil] at m; exact List.mem_append_left _ m)) (by show (nopk p.1 && true) = true; rw [o1.np]; rfl) ?_
        cases eb : evm G b p.2 with
        | no => rw [eb] at hq; exact hq
        | ex n => rw [eb] at hq; exact Rai.mono hq o1.eH
        | ok q =>
          rw [eb, Res.bind_ok] at hq
          intro u H2 F2 fr2 fp2 o2 rs nd2 off2
          have o2' := OutM.chain (fp := fp) o1.eH o1.eF o1.new (fun a m => o1.fresh a (List.mem_append_right _ m)) o2
          have w2 : Wd ⟨X.K, xi⟩ F2 H2 q.2 σ fp2 := ⟨o2.sub, o2.es, (List.nodup_append.mp o2.nd).2.1, fun a m => o2.off a (List.mem_append_right _ m), o2.hi⟩
          rw [List.append_nil] at nd2 off2
          refine rdM_then (ds := [p.1, q.1]) (vs := [v, u]) (gs := fr1 ++ (fr2 ++ [])) w2 o2.npe (.cons (o1.r.mono o2.eF o2.eH) (.cons o2.r .nil)) (by rw [List.append_nil, List.append_assoc]; exact nd2) (fun a m => ?_) (by show (nopk p.1 && (nopk q.1 && true)) = true; rw [o1.np, o2.np]; rfl) ?_
          · rw [List.append_nil] at m
            rcases List.mem_append.mp m with m | m
            · exact off2 a m
            · exact o2.off a (List.mem_append_left _ m)
          · cases ed : evm G d q.2 with
            | no => rw [ed] at hq; exact hq
            | ex n => rw [ed] at hq; exact Rai.mono hq o2'.eH
            | ok r =>
              rw [ed, Res.bind_ok] at hq
              intro z H3 F3 fr3 fp3 o3 rs3 nd3 off3
              rw [List.append_nil] at nd3 off3
              refine ⟨by rw [sizeLine_eq]; show 3 ≤ 16777216; omega, fun t ht => ?_⟩
              have o3' := OutM.chain (fp := fp) o2'.eH o2'.eF o2'.new (fun a m => o2'.fresh a (List.mem_append_right _ m)) o3
              have eT := Ex.new (o := .tup [v, u, z]) ht
              refine hq (.ref t) (upd H3 t (.tup [v, u, z])) F3 (fr1 ++ (fr2 ++ (fr3 ++ []))) fp3 ⟨o3'.eH.trans eT, o3'.eF, o3'.sub.trans eT, o3'.new, ?_, o3'.es.mono (Ex.refl _) eT, ?_, fun a m => ?_, fun a m => ?_, ?_, o3'.npe, o3'.hi.ex eT⟩
              · exact .tup (.inl (.inl upd_same)) (.cons (o1.r.mono (o2.eF.trans o3.eF) ((o2.eH.trans o3.eH).trans eT)) (.cons (o2.r.mono o3.eF (o3.eH.trans eT)) (.cons (o3.r.mono (Ex.refl _) eT) .nil)))
              · rw [List.append_nil, List.append_assoc, List.append_assoc]
                rw [List.append_assoc] at nd3
                exact nd3
              · rw [List.append_nil, List.append_assoc, List.append_assoc] at m
                rcases List.mem_append.mp m with m | m
                · exact o1.fresh a (List.mem_append_left _ m)
                · rcases List.mem_append.mp m with m | m
                  · exact o2'.fresh a (List.mem_append_left _ m)
                  · exact o3'.fresh a m
              · rw [List.append_nil, List.append_assoc, List.append_assoc] at m
                rcases List.mem_append.mp m with m | m
                · exact off3 a (List.mem_append_left _ m)
                · rcases List.mem_append.mp m with m | m
                  · exact off3 a (List.mem_append_right _ m)
                  · exact o3'.off a m
              · show (nopk p.1 && (nopk q.1 && (nopk r.1 && true))) = true
                rw [o1.np, o2.np, o3.np]
                rfl
    · cases h
  | .quad a b d a4 => fun c W X e g h => by
    rw [chkM.eq_def] at h; dsimp only at h
    split at h
    · rw [Bool.and_eq_true, Bool.and_eq_true, Bool.and_eq_true] at h
      obtain ⟨pa, sa⟩ := all_m a g h.1.1.1
      obtain ⟨pb, sb⟩ := all_m b g h.1.1.2
      obtain ⟨pd, sd⟩ := all_m d g h.1.2
      obtain ⟨p4, s4⟩ := all_m a4 g h.2
      refine ⟨(pe_tup (pa_cons pa (pa_cons pb (pa_cons pd (pa_cons p4 pa_nil (star_cons _ _ _ s4)) (star_cons _ _ _ sd)) (star_cons _ _ _ sb)) (star_cons _ _ _ sa))).imp3 fun σ H Q hq => ?_, rfl⟩
      obtain ⟨env, F, fp, w, np, hq⟩ := hq
      rw [evm] at hq
      refine ⟨env, F, fp, w, np, ?_⟩
      cases ea : evm G a env with
      | no => rw [ea] at hq; exact hq
      | ex n => rw [ea] at hq; exact hq
      | ok p =>
        rw [ea, Res.bind_ok] at hq
        intro v H1 F1 fr1 fp1 o1
        have w1 : Wd ⟨X.K, xi⟩ F1 H1 p.2 σ fp1 := ⟨o1.sub, o1.es, (List.nodup_append.mp o1.nd).2.1, fun a m => o1.off a (List.mem_append_right _ m), o1.hi⟩
        refine rdM_then (ds := [p.1]) (vs := [v]) (gs := fr1 ++ []) w1 o1.npe (.cons o1.r .nil) (by rw [List.append_nil]; exact o1.nd) (fun a m => o1.off a (by rw [List.append_nil] at m; exact List.mem_append_left _ m)) (by show (nopk p.1 && true) = true; rw [o1.np]; rfl) ?_
        cases eb : evm G b p.2 with
        | no => rw [eb] at hq; exact hq
        | ex n => rw [eb] at hq; exact Rai.mono hq o1.eH
        | ok q =>
          rw [eb, Res.bind_ok] at hq
          intro u H2 F2 fr2 fp2 o2 rs nd2 off2
          have o2' := OutM.chain (fp := fp) o1.eH o1.eF o1.new (fun a m => o1.fresh a (List.mem_append_right _ m)) o2
          have w2 : Wd ⟨X.K, xi⟩ F2 H2 q.2 σ fp2 := ⟨o2.sub, o2.es, (List.nodup_append.mp o2.nd).2.1, fun a m => o2.off a (List.mem_append_right _ m), o2.hi⟩
          rw [List.append_nil] at nd2 off2
          refine rdM_then (ds := [p.1, q.1]) (vs := [v, u]) (gs := fr1 ++ (fr2 ++ [])) w2 o2.npe (.cons (o1.r.mono o2.eF o2.eH) (.cons o2.r .nil)) (by rw [List.append_nil, List.append_assoc]; exact nd2) (fun a m => ?_) (by show (nopk p.1 && (nopk q.1 && true)) = true; rw [o1.np, o2.np]; rfl) ?_
          · rw [List.append_nil] at m
            rcases List.mem_append.mp m with m | m
            · exact off2 a m
            · exact o2.off a (List.mem_append_left _ m)
          · cases ed : evm G d q.2 with
            | no => rw [ed] at hq; exact hq
            | ex n => rw [ed] at hq; exact Rai.mono hq o2'.eH
            | ok r =>
              rw [ed, Res.bind_ok] at hq
              intro z H3 F3 fr3 fp3 o3 rs3 nd3 off3
              rw [List.append_nil] at nd3 off3
              have o3' := OutM.chain (fp := fp) o2'.eH o2'.eF o2'.new (fun a m => o2'.fresh a (List.mem_append_right _ m)) o3
              have w3 : Wd ⟨X.K, xi⟩ F3 H3 r.2 σ fp3 := ⟨o3.sub, o3.es, (List.nodup_append.mp o3.nd).2.1, fun a m => o3.off a (List.mem_append_right _ m), o3.hi⟩
              refine rdM_then (ds := [p.1, q.1, r.1]) (vs := [v, u, z]) (gs := fr1 ++ (fr2 ++ (fr3 ++ []))) w3 o3.npe (.cons (o1.r.mono (o2.eF.trans o3.eF) (o2.eH.trans o3.eH)) (.cons (o2.r.mono o3.eF o3.eH) (.cons o3.r .nil))) (by rw [List.append_nil, ← List.append_assoc, List.append_assoc, List.append_assoc]; rw [List.append_assoc] at nd3; first | exact nd3 | (rw [List.append_assoc]; exact nd3)) (fun a m => ?_) (by show (nopk p.1 && (nopk q.1 && (nopk r.1 && true))) = true; rw [o1.np, o2.np, o3.np]; rfl) ?_
              · rw [List.append_nil] at m
                rcases List.mem_append.mp m with m | m
                · exact off3 a (List.mem_append_left _ m)
                · rcases List.mem_append.mp m with m | m
                  · exact off3 a (List.mem_append_right _ m)
                  · exact o3.off a (List.mem_append_left _ m)
              · cases e4 : evm G a4 r.2 with
                | no => rw [e4] at hq; exact hq
                | ex n => rw [e4] at hq; exact Rai.mono hq o3'.eH
                | ok s =>
                  rw [e4, Res.bind_ok] at hq
                  intro y H4 F4 fr4 fp4 o4 rs4 nd4 off4
                  rw [List.append_nil] at nd4 off4
                  refine ⟨by rw [sizeLine_eq]; show 4 ≤ 16777216; omega, fun t ht => ?_⟩
                  have o4' := OutM.chain (fp := fp) o3'.eH o3'.eF o3'.new (fun a m => o3'.fresh a (List.mem_append_right _ m)) o4
                  have eT := Ex.new (o := .tup [v, u, z, y]) ht
                  refine hq (.ref t) (upd H4 t (.tup [v, u, z, y])) F4 (fr1 ++ (fr2 ++ (fr3 ++ (fr4 ++ [])))) fp4 ⟨o4'.eH.trans eT, o4'.eF, o4'.sub.trans eT, o4'.new, ?_, o4'.es.mono (Ex.refl _) eT, ?_, fun a m => ?_, fun a m => ?_, ?_, o4'.npe, o4'.hi.ex eT⟩
                  · exact .tup (.inl (.inl upd_same)) (.cons (o1.r.mono ((o2.eF.trans o3.eF).trans o4.eF) (((o2.eH.trans o3.eH).trans o4.eH).trans eT)) (.cons (o2.r.mono (o3.eF.trans o4.eF) ((o3.eH.trans o4.eH).trans eT)) (.cons (o3.r.mono o4.eF (o4.eH.trans eT)) (.cons (o4.r.mono (Ex.refl _) eT) .nil))))
                  · rw [List.append_nil, List.append_assoc, List.append_assoc, List.append_assoc]
                    rw [List.append_assoc, List.append_assoc] at nd4
                    exact nd4
                  · rw [List.append_nil, List.append_assoc, List.append_assoc, List.append_assoc] at m
                    rcases List.mem_append.mp m with m | m
                    · exact o1.fresh a (List.mem_append_left _ m)
                    · rcases List.mem_append.mp m with m | m
                      · exact o2'.fresh a (List.mem_append_left _ m)
                      · rcases List.mem_append.mp m with m | m
                        · exact o3'.fresh a (List.mem_append_left _ m)
                        · exact o4'.fresh a m
                  · rw [List.append_nil, List.append_assoc, List.append_assoc, List.append_assoc] at m
                    rcases List.mem_append.mp m with m | m
                    · exact off4 a (List.mem_append_left _ m)
                    · rcases List.mem_append.mp m with m | m
                      · exact off4 a (List.mem_append_right _ (List.mem_append_left _ m))
                      · rcases List.mem_append.mp m with m | m
                        · exact off4 a (List.mem_append_right _ (List.mem_append_right _ m))
                        · exact o4'.off a m
                  · show (nopk p.1 && (nopk q.1 && (nopk r.1 && (nopk s.1 && true)))) = true
                    rw [o1.np, o2.np, o3.np, o4.np]
                    rfl
    · cases h
end
end L3

set_option maxRecDepth 100000
set_option maxHeartbeats 4000000
/-! L3.Stm1: small statements. -/
namespace L3
open PySem PySem.Spec PyProof.Rows L2
variable [TbC]

theorem _root_.L2.PS.imp3 {X : Cx} {e : Stmt} {t t' : TS} (h : PS X e t) (i : ∀ E σ H, t' E σ H → t E σ H) : PS X e t' := ⟨fun pins s σ H D I w => h.run pins s σ H D I (i D σ H w)⟩
theorem _root_.L2.PSs.imp3 {X : Cx} {e : List Stmt} {t t' : TS} (h : PSs X e t) (i : ∀ E σ H, t' E σ H → t E σ H) : PSs X e t' := ⟨fun pins s σ H D I w => h.run pins s σ H D I (i D σ H w)⟩
/-- what is known of a raised error's class -/
structure ErrF (X : Cx) (C : Addr) : Prop where
  exc : PySem.W.excIn X.K C [.type "ValueError", .type "Exception", .type "BaseException", .type "object"] "ValueError.__new__" = true
  kp : PySem.W.keepIn X.K (.ref C) = true
  rs : Raises X (.ref C)
  ec : ExcC X.K C
/-- a place of the text where statements stand -/
structure GoodS (c : Cc) (G : Tab) (xi : Xi) (W : WX) (X : Cx) : Prop extends Good c G xi W X where
  pas : c.cm = true → PassesOwn (model X.prog X.w) X.A X.env X.xe
  fn : ∀ x, X.fn x = true
  stk : X.stack = X.env :: X.outer
  frm : X.env.frame = some X.env.locals
  err : ∀ n ∈ G.errs, ∀ C, X.mg n = some (.ref C) → ErrF X C
  exm : ∀ n ∈ G.errs, ∀ m ∈ G.cats, ∀ C D, X.mg n = some (.ref C) → X.mg m = some (.ref D) → PySem.W.exmOne X.K (.ref C) (.ref D) = some (subX n m)
  ndf : c.nml ≠ [] → Room 2 X.A ∧ ∃ cd P, X.env.code = .ref cd ∧ LamX.TabB X.base X.mg cd P ∧ (P, nmOf c.nml) ∈ TbC.T ∧ (∀ p ∈ TbC.T, p.1 = P → p.2 = nmOf c.nml) ∧ X.env.qual = c.qual
  isk : ∀ n ∈ G.errs, ∀ C, X.mg n = some (.ref C) → ∀ w v, IsCls c.exs X w v → ∃ u, (∀ z, RelV v z → z = u) ∧ PySem.W.kitOne X.K (.ref C) u = some (subX n w)
section
variable {K : Kx} {mg : Str → Option Value} {W : WX}
theorem OutW.mono {o : Out} {F H F1 H1 : Hp} {fp fp1 : List Addr} {E : Ends} (h : OutW K mg W o F H fp E) (p : Pst F H fp F1 H1 fp1) : OutW K mg W o F1 H1 fp1 E := by
  cases o with
  | nx e => exact fun σ' H' F' fp' w np q => h σ' H' F' fp' w np (p.trans q)
  | bk e => exact fun σ' H' F' fp' w np q => h σ' H' F' fp' w np (p.trans q)
  | ct e => exact fun σ' H' F' fp' w np q => h σ' H' F' fp' w np (p.trans q)
  | rt d => exact fun v H' F' fr r n o e np q => h v H' F' fr r n o e np (p.trans q)
  | ex n e => exact fun C σ' H' F' fp' hC w np q => h C σ' H' F' fp' hC w np (p.trans q)
  | no => exact h
theorem OutW.rai {n : Str} {env : Env} {F H : Hp} {fp : List Addr} {E : Ends} {σ : L2.St} (h : OutW K mg W (.ex n env) F H fp E) (w : Wd K F H env σ fp) (np : npE env) : Rai mg W n σ H := fun C H' hC e => by
  have w' := w.next e (Ex.refl _) (w.sub.trans e) fun a h1 h2 => absurd h1 h2
  exact h C σ H' F fp hC w' np (.of_ex e (Ex.refl _) (fun a h1 h2 => absurd h1 h2) fun a m => .inl m)
/-- something kept, perhaps made to stand still -/
structure OutP (K : Kx) (F H : Hp) (fp : List Addr) (F' H' : Hp) (d : D) (v : V) (fr : List Addr) (env' : Env) (σ : L2.St) (fp' : List Addr) : Prop where
  keep : ∀ a o, isTb o = false → H a = some o → a ∉ fp → H' a = some o
  tx : Tx H H'
  eF : Ex F F'
  sub : Ex F' H'
  new : ∀ a, F a = none → F' a ≠ none → a ∈ fp ∨ H a = none
  r : R K F' H' d v fr
  es : Es K F' H' env' σ fp'
  nd : (fr ++ fp').Nodup
  fresh : ∀ a ∈ fr ++ fp', a ∈ fp ∨ H a = none
  off : ∀ a ∈ fr ++ fp', F' a = none
  np : nopk d = true
  npe : npE env'
  hi : HI K H'
mutual
theorem nopk_frz : ∀ d : D, nopk (frz d) = true
  | .non => rfl
  | .bl _ => rfl
  | .int _ => rfl
  | .str _ => rfl
  | .tup ds => nopks_frzs ds
  | .lst _ ds => by rw [frz, nopk, nopks_frzs ds]; rfl
  | .scr _ => rfl
  | .exc _ => rfl
  | .clo _ => rfl
theorem nopks_frzs : ∀ ds : List D, nopks (frzs ds) = true
  | [] => rfl
  | d :: ds => by rw [frzs, nopks, nopk_frz d, nopks_frzs ds]; rfl
end
theorem OutM.ffP {F H F' H' : Hp} {fp fr fp' : List Addr} {d : D} {v : V} {env' : Env} {σ : L2.St} (o : OutM K F H fp F' H' d v fr env' σ fp') (b : Bool) : ∃ F'' fr', OutP K F H fp F'' H' (ff b d) v fr' env' σ fp' := by
  cases b with
  | false => exact ⟨F', fr, fun a u n h _ => o.eH.k a u n h, o.eH.tx, o.eF, o.sub, fun a h1 h2 => .inr (o.new a h1 h2), o.r, o.es, o.nd, o.fresh, o.off, o.np, o.npe, o.hi⟩
  | true =>
    have n1 := List.nodup_append.mp o.nd
    have eG : Ex F' (addF F' H' fr) := addF_ex fun a m => o.off a (List.mem_append_left _ m)
    refine ⟨addF F' H' fr, [], fun a u n h _ => o.eH.k a u n h, o.eH.tx, o.eF.trans eG, addF_sub o.sub fun a m => o.r.has a m, fun a h1 h2 => ?_, o.r.frz eG o.np fun a m => addF_in m, o.es.mono eG (Ex.refl _), n1.2.1, fun a m => o.fresh a (List.mem_append_right _ m), fun a m => ?_, nopk_frz d, o.npe, o.hi⟩
    · by_cases m : a ∈ fr
      · exact o.fresh a (List.mem_append_left _ m)
      · rw [addF_out m] at h2
        exact .inr (o.new a h1 h2)
    · rw [addF_out fun z => n1.2.2 a z a m rfl]
      exact o.off a (List.mem_append_right _ m)
/-- stored into a slot -/
theorem OutP.put {F H F' H' : Hp} {fp fr fp' : List Addr} {d : D} {v : V} {env' : Env} {σ : L2.St} (o : OutP K F H fp F' H' d v fr env' σ fp') (i : Nat) : ∃ g, Wd K F' H' (env'.set i (some d)) (σ.set i (some v)) g ∧ npE (env'.set i (some d)) ∧ Pst F H fp F' H' g := by
  obtain ⟨g, h1, h2, h3⟩ := Es.put o.r i o.es
  have hm : ∀ a ∈ g, a ∈ fr ++ fp' := fun a m => List.mem_append.mpr (h2 a m)
  exact ⟨g, ⟨o.sub, h1, h3 o.nd, fun a m => o.off a (hm a m), o.hi⟩, o.npe.set fun d' e => by cases e; exact o.np, ⟨o.keep, o.eF, o.new, fun a m => o.fresh a (hm a m), o.tx⟩⟩
theorem Es.keep {F H F' H' : Hp} (eF : Ex F F') (eT : Tx H H') : ∀ {e : Env} {s : L2.St} {fp : List Addr}, Es K F H e s fp → npE e → (∀ a o, a ∈ fp → H a = some (.lst o) → H' a = some (.lst o)) → Es K F' H' e s fp
  | _, _, _, .emp, _, _ => .emp
  | _, _, _, .no o q, np, k => .no o (Es.keep eF eT q (fun d m => np d (List.mem_cons_of_mem _ m)) k)
  | _, _, _, .ye r q, np, k => .ye (r.keep eF eT (np _ List.mem_cons_self) fun a o m => k a o (List.mem_append_left _ m)) (Es.keep eF eT q (fun d m => np d (List.mem_cons_of_mem _ m)) fun a o m => k a o (List.mem_append_right _ m))
/-- slots forgotten, the state as it is -/
theorem Es.forget {F H : Hp} : ∀ {e : Env} {s : L2.St} {fp : List Addr} (i : Nat), Es K F H e s fp → ∃ g, Es K F H (e.set i none) s g ∧ g.Sublist fp
  | _, _, _, i, .emp => ⟨[], .emp, List.Sublist.refl _⟩
  | _, _, _, 0, .no o q => ⟨_, .no o q, List.Sublist.refl _⟩
  | _, _, _, 0, .ye (v := v) (f1 := f1) (f2 := f2) r q => ⟨f2, .no (some v) q, List.sublist_append_right _ _⟩
  | _, _, _, i + 1, .no o q => by
    obtain ⟨g, h1, h2⟩ := Es.forget i q
    exact ⟨g, .no o h1, h2⟩
  | _, _, _, i + 1, .ye (f1 := f1) r q => by
    obtain ⟨g, h1, h2⟩ := Es.forget i q
    exact ⟨f1 ++ g, .ye r h1, (List.Sublist.refl f1).append h2⟩
theorem Es.forgets {F H : Hp} {e : Env} {s : L2.St} {fp : List Addr} (q : Es K F H e s fp) : ∀ (vs : List Nat), ∃ g, Es K F H (wipeE e vs) s g ∧ g.Sublist fp
  | [] => ⟨fp, q, List.Sublist.refl _⟩
  | v :: vs => by
    obtain ⟨g, h1, h2⟩ := Es.forgets q vs
    obtain ⟨g2, h3, h4⟩ := Es.forget v h1
    exact ⟨g2, h3, h4.trans h2⟩
theorem npE.forgets {e : Env} (h : npE e) : ∀ (vs : List Nat), npE (wipeE e vs)
  | [] => h
  | v :: vs => (npE.forgets h vs).set fun d z => by cases z
theorem Wd.forgets {F H : Hp} {e : Env} {s : L2.St} {fp : List Addr} (w : Wd K F H e s fp) (vs : List Nat) : ∃ g, Wd K F H (wipeE e vs) s g ∧ g.Sublist fp := by
  obtain ⟨g, h1, h2⟩ := Es.forgets w.es vs
  exact ⟨g, ⟨w.sub, h1, w.nd.sublist h2, fun a m => w.off a (h2.subset m), w.hi⟩, h2⟩
theorem Pst.less {F H : Hp} {fp g : List Addr} (h : g.Sublist fp) : Pst F H fp F H g := ⟨fun a o _ h _ => h, Ex.refl _, fun a h1 h2 => absurd h1 h2, fun a m => .inl (h.subset m), Tx.refl _⟩
theorem set_self {α : Type} {s : List α} {i : Nat} {v : α} (h : s[i]? = some v) : s.set i v = s := by
  apply List.ext_getElem?
  intro j
  rw [List.getElem?_set]
  by_cases e : i = j
  · subst e
    rw [if_pos rfl, h, if_pos (List.getElem?_eq_some_iff.mp h).1]
  · rw [if_neg e]
/-- a list of one's own in a slot, changed -/
theorem OutP.mut {F H F' H' : Hp} {fp fr fp' : List Addr} {d : D} {v : V} {env' : Env} {σ : L2.St} {x : Nat} {ds : List D} (o : OutP K F H fp F' H' d v fr env' σ fp') (hx : env'[x]? = some (some (.lst .own ds))) :
    ∃ a vs, σ[x]? = some (some (.ref a)) ∧ H' a = some (.lst vs) ∧ ds.length = vs.length ∧ ∀ ds' vs', (∀ g, Rs K F' H' ds vs g → ∃ g', Rs K F' H' ds' vs' g' ∧ (∀ b ∈ g', b ∈ g ++ fr) ∧ ((g ++ fr).Nodup → g'.Nodup)) → nopks ds' = true →
      ∃ g, Wd K F' (upd H' a (.lst vs')) (env'.set x (some (.lst .own ds'))) σ g ∧ npE (env'.set x (some (.lst .own ds'))) ∧ Pst F H fp F' (upd H' a (.lst vs')) g := by
  obtain ⟨v0, g0, fp2, e1, r0, es2, m2, n2⟩ := o.es.take hx
  cases r0 with
  | @lst _ _ a vs g _ rs la =>
    obtain ⟨ha, rfl⟩ := la
    have n1 := List.nodup_append.mp o.nd
    have n3 := n2 n1.2.1
    have n4 := List.nodup_append.mp n3
    have n5 := List.nodup_cons.mp n4.1
    have ma : a ∈ fp' := m2 a (List.mem_append_left _ List.mem_cons_self)
    have offa : F' a = none := o.off a (List.mem_append_right _ ma)
    refine ⟨a, vs, e1, ha, rs.length, fun ds' vs' hd hn => ?_⟩
    obtain ⟨g', rs', sg, ndg⟩ := hd g rs
    · have tx : Tx H' (upd H' a (.lst vs')) := Tx.mut ha
      have sub : Ex F' (upd H' a (.lst vs')) := o.sub.mut ha offa
      have kp : ∀ b ob, b ≠ a → H' b = some ob → upd H' a (.lst vs') b = some ob := fun b ob hne e => by rw [upd_ne hne]; exact e
      have ag' : a ∉ g' := fun z => by
        rcases List.mem_append.mp (sg _ z) with z | z
        · exact n5.1 z
        · exact n1.2.2 a z a ma rfl
      have rs2 := rs'.keep (H' := upd H' a (.lst vs')) (Ex.refl F') tx hn fun b ob m e => kp b (.lst ob) (fun z => ag' (z ▸ m)) e
      have es3 := Es.keep (H' := upd H' a (.lst vs')) (Ex.refl F') tx es2 (o.npe.set fun d z => by cases z) fun b ob m e => kp b (.lst ob) (fun z => n4.2.2 a List.mem_cons_self b m z.symm) e
      have rl : R K F' (upd H' a (.lst vs')) (.lst .own ds') (.ref a) (a :: g') := .lst rs2 ⟨upd_same, rfl⟩
      obtain ⟨gg, q1, q2, q3⟩ := Es.put rl x es3
      rw [List.set_set, set_self e1] at q1
      have mem : ∀ b ∈ gg, b ∈ fr ++ fp' := fun b m => by
        rcases q2 b m with z | z
        · rcases List.mem_cons.mp z with z | z
          · rw [z]; exact List.mem_append_right _ ma
          · rcases List.mem_append.mp (sg _ z) with z | z
            · exact List.mem_append_right _ (m2 b (List.mem_append_left _ (List.mem_cons_of_mem _ z)))
            · exact List.mem_append_left _ z
        · exact List.mem_append_right _ (m2 b (List.mem_append_right _ z))
      refine ⟨gg, ⟨sub, q1, q3 ?_, fun b m => o.off b (mem b m), o.hi.mut ha⟩, o.npe.set fun d' e => ?_, ⟨fun b ob ib h n => ?_, o.eF, o.new, fun b m => o.fresh b (mem b m), o.tx.trans tx⟩⟩
      · refine List.nodup_append.mpr ⟨List.nodup_cons.mpr ⟨ag', ?_⟩, n4.2.1, fun b m c m' e => ?_⟩
        · refine ndg ?_
          exact List.nodup_append.mpr ⟨n5.2, n1.1, fun b m c m' e => n1.2.2 c m' b (m2 b (List.mem_append_left _ (List.mem_cons_of_mem _ m))) e.symm⟩
        · subst e
          rcases List.mem_cons.mp m with z | z
          · exact n4.2.2 b (by rw [z]; exact List.mem_cons_self) b m' rfl
          · rcases List.mem_append.mp (sg _ z) with z | z
            · exact n4.2.2 b (List.mem_cons_of_mem _ z) b m' rfl
            · exact n1.2.2 b z b (m2 b (List.mem_append_right _ m')) rfl
      · cases e
        rw [nopk, hn]
        rfl
      · refine kp b ob (fun z => ?_) (o.keep b ob ib h n)
        subst z
        rcases o.fresh b (List.mem_append_right _ ma) with z | z
        · exact n z
        · rw [h] at z; cases z
end
end L3

set_option maxRecDepth 100000
set_option maxHeartbeats 4000000
/-! L3.Stm2: small statements. -/
namespace L3
open PySem PySem.Spec PyProof.Rows L2
variable [TbC]

section
variable {G : Tab} {xi : Xi}
theorem set_lc (k : ItK) (its : Exps) (tg : Tg) (d e : Exp) (ihi : SA G xi its) (ihe : ItIH G xi its) (ihd : tst d = true → ST G xi d) (ihx : SE G xi e) : ∀ ⦃c : Cc⦄ ⦃W : WX⦄ ⦃X : Cx⦄ ⦃f : Expr⦄ {i : Nat} {y : Str} {py spos : Pos}, Good c G xi W X → chkE c (.lc k its tg d e) f = true → compP f = true → X.N[i]? = some y → X.env.scope.names.lookup y = some .local → swapsWith f (some (.Name y py)) spos.line X.env = pure true → PS X (.Assign [.Name y py] f spos) (tAsg (rdE ⟨X.K, xi⟩ X.mg W G (.lc k its tg d e)) (gName i)) := by
  intro c W X f i y py spos g h hcp hy hyl hsw
  rw [chkE.eq_def] at h
  dsimp only at h
  split at h
  · rename_i elt t iter ifs ia scope pos
    simp only [Bool.and_eq_true] at h
    obtain ⟨⟨⟨⟨⟨⟨h0, h1⟩, h2⟩, h3⟩, h4⟩, h5⟩, h6⟩ := h
    have hia : ia = 0 := by simpa using h1
    subst hia
    obtain ⟨pi, hs⟩ := pi_of (t := t) g h2 ihi ihe
    have hN' : ({ c with sc := relS scope c.sc, cel := false, own := fun x => scope.names.lookup x == some .cell, clo := false, vis := none, nml := [] } : Cc).N = c.N := rfl
    have ow := own_slots (c := c) (c' := { c with sc := relS scope c.sc, cel := false, own := fun x => scope.names.lookup x == some .cell, clo := false, vis := none, nml := [] }) rfl h4
    have ok : BlkOk X.N X.env.scope scope (ownOf c tg) := by
      rw [g.N, g.sc]
      exact blkOk_by h3
    have hg : ∀ (s : Shared) (H : Hp) (C : Addr) (cl : List (Str × Addr)) (fp : List Addr), PG (X.blk s H scope (compEnvC scope cl C X.env) fp) t (gTg X.K tg) := fun s H C cl fp =>
      pg_of (good_blk g h0 s H scope C cl fp).fnc (good_blk g h0 s H scope C cl fp).N (good_blk g h0 s H scope C cl fp).sc g.nd (g.cm h0) h4
    have ht : ∀ (s : Shared) (H : Hp) (C : Addr) (cl : List (Str × Addr)) (fp : List Addr), PTs (X.blk s H scope (compEnvC scope cl C X.env) fp) ifs (tIfs G xi X d) := fun s H C cl fp => by
      unfold tIfs
      cases ifs with
      | nil =>
        rw [if_pos (show isHole d = true from h5)]
        exact pts_nil
      | cons x r =>
        cases r with
        | nil =>
          have h5 : (!isHole d && tst d && chkE { c with sc := relS scope c.sc, cel := false, own := fun x => scope.names.lookup x == some .cell, clo := false, vis := none, nml := [] } d x) = true := h5
          simp only [Bool.and_eq_true, Bool.not_eq_true'] at h5
          rw [if_neg (by rw [h5.1.1]; exact Bool.false_ne_true)]
          exact pts_one (ihd h5.1.2 (good_blk g h0 s H scope C cl fp) h5.2)
        | cons _ _ => cases h5
    have he : ∀ (s : Shared) (H : Hp) (C : Addr) (cl : List (Str × Addr)) (fp : List Addr), PE (X.blk s H scope (compEnvC scope cl C X.env) fp) elt (rdE ⟨X.K, xi⟩ X.mg W0 G e) := fun s H C cl fp => ihx (good_blk g h0 s H scope C cl fp) h6
    have key := ps_setLc (g.cm h0) g.nd hy hyl hsw pi ok hg ht he hs
    rw [ow] at key
    exact key.imp3 fun E σ H hq => lc_reads (c := c) hq
  · cases h

def SS (G : Tab) (xi : Xi) (s : Stm) : Prop := ∀ ⦃c : Cc⦄ ⦃W : WX⦄ ⦃X : Cx⦄ ⦃st : Stmt⦄, GoodS c G xi W X → chkS c s st = true → PS X st (rdS ⟨X.K, xi⟩ X.mg W G s)
def SSs (G : Tab) (xi : Xi) (s : Stms) : Prop := ∀ ⦃c : Cc⦄ ⦃W : WX⦄ ⦃X : Cx⦄ ⦃st : List Stmt⦄, GoodS c G xi W X → chkSs c s st = true → PSs X st (rdSs ⟨X.K, xi⟩ X.mg W G s)
theorem lof {c : Cc} {W : WX} {X : Cx} {i : Nat} {x : Str} (g : GoodS c G xi W X) (h : lofC c i x = true) : X.N[i]? = some x ∧ L2.Loc X.env.scope x ∧ (X.fn x = true ∨ X.env.scope.names.lookup x = some .local) := by
  unfold lofC at h
  rw [Bool.and_eq_true, beq_iff_eq] at h
  refine ⟨by rw [g.N]; exact h.1, ?_, .inl (g.fn x)⟩
  have h2 := h.2
  unfold L2.Loc
  rw [g.sc]
  unfold isLoc at h2
  split at h2
  · rename_i e; exact .inl e
  · rename_i e; exact .inr e
  · cases h2
theorem loc {c : Cc} {W : WX} {X : Cx} {i : Nat} {x : Str} (g : Good c G xi W X) (h : locC c i x = true) : X.N[i]? = some x ∧ X.env.scope.names.lookup x = some .local := by
  unfold locC at h
  rw [Bool.and_eq_true, beq_iff_eq, beq_iff_eq] at h
  exact ⟨by rw [g.N]; exact h.1, by rw [g.sc]; exact h.2⟩
theorem fnk {c : Cc} {W : WX} {X : Cx} (g : Good c G xi W X) (h : fnK c = true) : X.env.scope.kind = .function := by
  rw [g.sc]
  unfold fnK at h
  split at h
  · rename_i e; exact e
  · cases h
section
variable {K : Kx} {mg : Str → Option Value} {W : WX} {env : Env} {F H : Hp} {fp : List Addr} {σ : L2.St} {E : Ends}
/-- a kept thing, read with what comes behind -/
theorem rdM_of {m : Mx} {f : D × Env → Out} {P : V → Hp → Prop} (w : Wd K F H env σ fp) (np : npE env) (h : OutW K mg W ((evm G m env).out env f) F H fp E)
    (k : ∀ p, OutW K mg W (f p) F H fp E → ∀ v H' F' fr fp', OutM K F H fp F' H' p.1 v fr p.2 σ fp' → P v H') : rdM K mg W G m σ H P := by
  refine ⟨env, F, fp, w, np, ?_⟩
  cases em : evm G m env with
  | no => rw [em] at h; exact h
  | ex n => rw [em] at h; exact OutW.rai h w np
  | ok p => rw [em] at h; exact k p h
theorem rdE_of {a : Exp} {f : D → Out} {P : V → Hp → Prop} (w : Wd K F H env σ fp) (np : npE env) (h : OutW K mg W ((ev G a env).out env f) F H fp E)
    (k : ∀ d, OutW K mg W (f d) F H fp E → ∀ v H' F' fr, Out1 K F H [] F' H' d v fr → P v H') : rdE K mg W G a σ H P := by
  refine ⟨env, F, fp, w, ?_⟩
  cases em : ev G a env with
  | no => rw [em] at h; exact h
  | ex n => rw [em] at h; exact OutW.rai h w np
  | ok p => rw [em] at h; exact k p h
theorem rdA_of {a : Exps} {f : List D → Out} {P : List V → Hp → Prop} (w : Wd K F H env σ fp) (np : npE env) (h : OutW K mg W ((evs G a env).out env f) F H fp E)
    (k : ∀ d, OutW K mg W (f d) F H fp E → ∀ v H' F' fr, Outs K F H [] F' H' d v fr → P v H') : rdA K mg W G a σ H P := by
  refine ⟨env, F, fp, w, ?_⟩
  cases em : evs G a env with
  | no => rw [em] at h; exact h
  | ex n => rw [em] at h; exact OutW.rai h w np
  | ok p => rw [em] at h; exact k p h
theorem rdT_out {a : Exp} {f : Bool → Out} {P : Bool → Hp → Prop} (w : Wd K F H env σ fp) (np : npE env) (h : OutW K mg W (((ev G a env).bind asB).out env f) F H fp E)
    (k : ∀ b, OutW K mg W (f b) F H fp E → ∀ H' F', Ex H H' → Ex F F' → Ex F' H' → (∀ a, F a = none → F' a ≠ none → H a = none) → P b H') : rdT K mg W G a σ H P := by
  refine ⟨env, F, fp, w, ?_⟩
  cases em : (ev G a env).bind asB with
  | no => rw [em] at h; exact h
  | ex n => rw [em] at h; exact OutW.rai h w np
  | ok p => rw [em] at h; exact k p h
end
/-- a cell takes a comprehension's list as any other value -/
theorem sw_cell {e : Expr} {y : Str} {py : Pos} {l : Nat} {env : PySem.Env} (hy : env.scope.names.lookup y = some .cell) : swapsWith e (some (.Name y py)) l env = pure false := by
  have ky : env.kindOf y = some .cell := hy
  cases e <;> first
    | rfl
    | (unfold swapsWith
       simp only [ky]
       have z : (some NameKind.cell == some NameKind.local) = false := rfl
       rw [z, Bool.and_false, Bool.false_and, Bool.false_and])
theorem ss_asg (i : Nat) (fr : Bool) (m : Mx) : SS G xi (.asg i fr m) := by
  intro c W X st g h
  rw [chkS.eq_def] at h
  dsimp only at h
  split at h
  · rename_i x p e pos
    simp only [Bool.and_eq_true, Bool.or_eq_true] at h
    obtain ⟨⟨h1, h2⟩, h3⟩ := h
    obtain ⟨k1, k2, k3⟩ := lof g h1
    have reads : ∀ E σ H, rdS ⟨X.K, xi⟩ X.mg W G (.asg i fr m) E σ H → tAsg (rdM ⟨X.K, xi⟩ X.mg W G m) (gName i) E σ H := fun E σ H ⟨env, F, fp, w, np, hq⟩ => by
      rw [exec] at hq
      refine rdM_of w np hq fun q hq v H' F' fr' fp' o => ?_
      obtain ⟨F2, fr2, o2⟩ := o.ffP fr
      obtain ⟨g2, w2, np2, p2⟩ := o2.put i
      exact hq _ _ _ _ w2 np2 p2
    by_cases hcell : c.sc.names.lookup x = some .cell
    · exact (ps_set g.nd k1 k2 (all_m m g.toGood h2).1 (sw_cell (by rw [g.sc]; exact hcell)) k3).imp3 reads
    replace h3 := h3.resolve_right (fun z => hcell (by simpa using z))
    cases hc : compP e with
    | false => exact (ps_set g.nd k1 k2 (all_m m g.toGood h2).1 (noswap e _ _ _ hc) k3).imp3 reads
    | true =>
      rw [hc] at h3
      rcases h3 with h3 | h3
      · cases h3
      · obtain ⟨⟨⟨⟨hL, h0⟩, h3⟩, h4⟩, h5⟩ := h3
        obtain ⟨l1, l2⟩ := loc g.toGood h3
        cases e <;> try (cases h5; done)
        rename_i elt gs sc ep
        cases m <;> try (exact absurd (show false = true from hL) Bool.false_ne_true)
        rename_i y
        replace h2 : chkE c y (.ListComp elt gs sc ep) = true := h2
        cases y <;> try (exact absurd (show false = true from hL) Bool.false_ne_true)
        rename_i k its tg d z
        have hk := fnk g.toGood h0
        have ha : (sc.names.any fun (n, k) => n == x && (k == .local || k == .cell)) = false := by
          have h5 : (!(sc.names.any fun (n, k) => n == x && (k == .local || k == .cell))) = true := h5
          simpa using h5
        have sw := sw_true (elt := elt) (gs := gs) (scope := sc) (pos := ep) (py := p) (l := pos.line) hk l2 h4 ha
        have ii : ItIH G xi its := by
          cases its with
          | nil => trivial
          | cons a r => exact ⟨(all_e G xi a).se, all_a G xi r⟩
        refine (set_lc k its tg d z (all_a G xi its) ii (all_e G xi d).st (all_e G xi z).se (spos := pos) g.toGood h2 rfl l1 l2 sw).imp3 fun E σ H hq => ?_
        exact sm_p (.lc k its tg d z) (reads E σ H hq)
  · cases h
theorem setAll_np : ∀ {is : List Nat} {ds : List D} {env env' : Env}, setAll is ds env = some env' → nopks ds = true → npE env → npE env'
  | [], [], _, _, e, _, np => by cases e; exact np
  | [], _ :: _, _, _, e, _, _ => by cases e
  | _ :: _, [], _, _, e, _, _ => by cases e
  | i :: is, d :: ds, env, env', e, h, np => by
    rw [nopks, Bool.and_eq_true] at h
    exact setAll_np (env := env.set i (some d)) e h.2 (np.set fun d' z => by cases z; exact h.1)
theorem setT_np {tg : Tg} {d : D} {env env' : Env} (e : bindT tg d env = some env') (h : nopk d = true) (np : npE env) : npE env' := by
  cases tg with
  | one i =>
    cases (show some (env.set i (some d)) = some env' from e)
    exact np.set fun d' z => by cases z; exact h
  | many is =>
    cases d <;> try (exact absurd (show (none : Option Env) = some env' from e) (fun z => nomatch z))
    exact setAll_np e h np
theorem ss_unp (is : List Nat) (fr : Bool) (m : Mx) : SS G xi (.unp is fr m) := by
  intro c W X st g h
  rw [chkS.eq_def] at h
  dsimp only at h
  split at h
  · rename_i ts k p e pos
    simp only [Bool.and_eq_true, Bool.not_eq_true'] at h
    obtain ⟨⟨⟨⟨h0, h1⟩, h2⟩, h3⟩, h4⟩ := h
    have hw : swappedStores [.Tuple ts k p] e X.env = pure none := by
      cases e <;> first | rfl | cases h3
    refine (ps_asg (all_m m g.toGood h2).1 (pg_of (tg := .many is) (t := .Tuple ts k p) g.fnc g.N g.sc g.nd (g.cm h0) h1) (show swapsWith e (some (.Tuple ts k p)) pos.line X.env = pure false from noswap e _ _ _ h4) hw (by rfl)).imp3 fun E σ H hq => ?_
    obtain ⟨env, F, fp, w, np, hq⟩ := hq
    rw [exec] at hq
    refine rdM_of w np hq fun q hq v H' F' fr' fp' o => ?_
    obtain ⟨F2, fr2, o2⟩ := o.ffP fr
    unfold chkR at hq
    by_cases hn : (!fr || noown (ff fr q.1)) = true
    · rw [if_pos hn] at hq
      cases hb : bindT (.many is) (ff fr q.1) q.2 with
      | none => rw [hb] at hq; exact hq.elim
      | some e2 =>
        rw [hb] at hq
        refine gTgO_of (K := ⟨X.K, xi⟩) hb o2.r o2.es o2.nd fun σ' fp2 es' nd' sb' => ?_
        refine hq σ' H' F2 fp2 ⟨o2.sub, es', nd', fun a m => o2.off a (sb' a m), o2.hi⟩ (setT_np hb o2.np o2.npe) ⟨o2.keep, o2.eF, o2.new, fun a m => o2.fresh a (sb' a m), o2.tx⟩
    · rw [if_neg hn] at hq
      exact hq.elim
  · cases h
theorem ss_par (i j : Nat) (a b : Exp) : SS G xi (.par i j a b) := by
  intro c W X st g h
  rw [chkS.eq_def] at h
  dsimp only at h
  split at h
  · rename_i x p y q k r e f k2 p2 pos
    simp only [Bool.and_eq_true, Bool.not_eq_true', beq_iff_eq, beq_eq_false_iff_ne] at h
    obtain ⟨⟨⟨⟨⟨⟨⟨⟨⟨⟨h0, h1⟩, h2⟩, h3⟩, h4⟩, h5⟩, h6⟩, h7⟩, h8⟩, h9⟩, h10⟩ := h
    obtain ⟨l1, l2⟩ := loc g.toGood h1
    obtain ⟨l3, l4⟩ := loc g.toGood h2
    have sa := chk_star a h6
    have sb := chk_star b h7
    have hk := fnk g.toGood h8
    have hw : swappedStores [.Tuple [.Name x p, .Name y q] k r] (.Tuple [e, f] k2 p2) X.env = pure (some [x, y]) := by
      have hb : X.env.blockKind = .function := by unfold Env.blockKind; rw [hk]; rfl
      have kx : X.env.kindOf x = some .local := l2
      have ky : X.env.kindOf y = some .local := l4
      have st : [e, f].any (fun | .Starred .. => true | _ => false) = false := by
        have q1 : starP e = false := sa
        have q2 : starP f = false := sb
        cases e <;> cases f <;> first | rfl | exact absurd (show true = false from q1) (by decide) | exact absurd (show true = false from q2) (by decide)
      have hd : ([x, y] : List Str).eraseDups = [x, y] := by
        have : (y == x) = false := beq_eq_false_iff_ne.mpr (Ne.symm h4)
        simp [List.eraseDups_cons, this]
      have hl : (q.line == p.line) = true := by rw [h5]; exact beq_self_eq_true _
      have nm : ([.Name x p, .Name y q] : List Expr).filterMap (fun | .Name id pos => if (X.env.kindOf id == some .local && pos.line == p.line) = true then some id else none | _ => none) = [x, y] := by
        simp [kx, ky, h5]
      have key : ∀ l : List Str, l = [x, y] → ¬ ((l.length != ([.Name x p, .Name y q] : List Expr).length || l.eraseDups.length != l.length) = true) := fun l e => by
        rw [e, hd]
        exact Bool.false_ne_true
      unfold swappedStores
      dsimp only
      rw [if_neg (by simp [hb]), if_neg (by exact fun z => Bool.false_ne_true (st.symm.trans z)), if_neg (by exact key _ nm), if_neg (by rw [h9]; exact Bool.false_ne_true), if_neg (by rw [h10]; exact Bool.false_ne_true)]
      exact congrArg (fun l => (pure (some l) : Sem (Option (List Str)))) nm
    have pa : PA X [e, f] (rdA ⟨X.K, xi⟩ X.mg W G (.cons a (.cons b .nil))) := all_a G xi (.cons a (.cons b .nil)) g.toGood (by
      show (chkE c a e && (chkE c b f && true)) = true
      rw [h6, h7]
      rfl)
    refine (ps_par (g.cm h0) g.nd l1 l3 h3 l2 l4 pa hw).imp3 fun E σ H hq => ?_
    obtain ⟨env, F, fp, w, np, hq⟩ := hq
    rw [exec] at hq
    refine ⟨env, F, fp, w, ?_⟩
    rw [evs, evs, evs]
    cases ea : ev G a env with
    | no => rw [ea] at hq; exact hq
    | ex n => rw [ea] at hq; exact OutW.rai hq w np
    | ok d1 =>
      rw [ea] at hq
      rw [Res.bind_ok]
      cases eb : ev G b env with
      | no => rw [Res.out_ok, eb] at hq; exact hq
      | ex n => rw [Res.out_ok, eb] at hq; exact OutW.rai hq w np
      | ok d2 =>
        rw [Res.out_ok, eb, Res.out_ok] at hq
        rw [Res.bind_ok]
        intro vs H' F' fr o
        obtain ⟨v1, v2, f1, f2, rfl, r1, r2, rfl⟩ := rs2 o.r
        unfold chkR at hq
        by_cases hn : (nopk d1 && nopk d2) = true
        · rw [if_pos hn] at hq
          rw [Bool.and_eq_true] at hn
          have w' := w.next o.eH o.eF o.sub o.new
          have n1 := List.nodup_append.mp o.nd
          have dis : ∀ b ∈ f1 ++ f2, b ∉ fp := fun b m z => by
            obtain ⟨xs, hz⟩ := w.es.has b z
            have := (o.fresh b m).resolve_left List.not_mem_nil
            rw [hz] at this
            cases this
          obtain ⟨g1, q1, q2, q3⟩ := Es.put r1 i w'.es
          have ng1 : g1.Nodup := q3 (List.nodup_append.mpr ⟨n1.1, w.nd, fun a m b m' e => dis a (List.mem_append_left _ m) (e ▸ m')⟩)
          obtain ⟨g2, s1, s2, s3⟩ := Es.put r2 j q1
          have ng2 : g2.Nodup := s3 (List.nodup_append.mpr ⟨n1.2.1, ng1, fun a m b m' e => by
            subst e
            rcases q2 a m' with z | z
            · exact n1.2.2 a z a m rfl
            · exact dis a (List.mem_append_right _ m) z⟩)
          have mem : ∀ b ∈ g2, b ∈ f1 ++ f2 ∨ b ∈ fp := fun b m => by
            rcases s2 b m with z | z
            · exact .inl (List.mem_append_right _ z)
            · rcases q2 b z with z | z
              · exact .inl (List.mem_append_left _ z)
              · exact .inr z
          refine ⟨v1, v2, rfl, hq _ H' F' g2 ⟨o.sub, s1, ng2, fun b m => (mem b m).elim (o.off b) (w'.off b), w'.hi⟩ ?_ (.of_ex o.eH o.eF o.new fun b m => (mem b m).elim (fun z => .inr ((o.fresh b z).resolve_left List.not_mem_nil)) .inl)⟩
          exact (np.set fun d z => by cases z; exact hn.1).set fun d z => by cases z; exact hn.2
        · rw [if_neg hn] at hq
          exact hq.elim
  · cases h
end
end L3

set_option maxRecDepth 100000
set_option maxHeartbeats 4000000
/-! L3.Stm3: small statements. -/
namespace L3
open PySem PySem.Spec PyProof.Rows L2
variable [TbC]

section
variable {G : Tab} {xi : Xi}
/-- numbers, or texts -/
def ipG : TIp := fun x y H Q => (ipI fun i j => i + j) x y H Q ∨ ∃ a b, x = .str a ∧ y = .str b ∧ a.length + b.length ≤ sizeLine ∧ Q (.str (a ++ b)) H
theorem ip_addG {X : Cx} : PIp X .Add ipG := by
  intro pins s σ H x y v u Q I r1 r2 h
  rcases h with h | ⟨a, b, rfl, rfl, hz, q⟩
  · exact ip_add pins s σ H x y v u Q I r1 r2 h
  · obtain ⟨t, rfl⟩ := r1
    obtain ⟨t', rfl⟩ := r2
    exact PySem.SB.iadd (fun t' k => ⟨.str _, H, I.tok _, ⟨_, rfl⟩, q⟩) hz
theorem ss_aug (i : Nat) (o : BOp) (a : Exp) : SS G xi (.aug i o a) := by
  intro c W X st g h
  rw [chkS.eq_def] at h
  dsimp only at h
  split at h
  · rename_i x p op e pos
    simp only [Bool.and_eq_true] at h
    obtain ⟨⟨⟨⟨h1, h2⟩, h3⟩, h4⟩, h5⟩ := h
    obtain ⟨k1, k2, k3⟩ := lof g h1
    have rd : ∀ (f : Int → Int → Int), (∀ x y k, bopD o x y = some (.int k) → ∃ i j, x = .int i ∧ y = .int j ∧ k = f i j) → (∀ x y k, bopD o x y ≠ some (.str k)) → ∀ E σ H, rdS ⟨X.K, xi⟩ X.mg W G (.aug i o a) E σ H → tAug i (rdE ⟨X.K, xi⟩ X.mg W G a) (ipI f) E σ H := by
      intro f hf hs E σ H ⟨env, F, fp, w, np, hq⟩
      rw [exec] at hq
      cases ex : (env[i]?).bind id with
      | none => rw [ex] at hq; exact hq.elim
      | some d =>
        rw [ex] at hq
        obtain ⟨m1, m2⟩ := mem_of_slot ex
        obtain ⟨v, gv, hv, rv, _⟩ := w.es.get m1
        refine ⟨v, hv, rdE_of w np hq fun y hq u H' F' fr ou => ?_⟩
        cases eb : bopD o d y with
        | none => rw [eb] at hq; exact hq.elim
        | some z =>
          rw [eb] at hq
          cases z with
          | int k =>
            obtain ⟨i1, j1, rfl, rfl, rfl⟩ := hf _ _ _ eb
            obtain ⟨rfl, _⟩ := rv.int'
            obtain ⟨rfl, _⟩ := ou.r.int'
            refine ⟨i1, j1, rfl, rfl, ?_⟩
            have w' := w.next ou.eH ou.eF ou.sub ou.new
            have o2 : OutP ⟨X.K, xi⟩ F H fp F' H' (.int (f i1 j1)) (.int (f i1 j1)) [] env σ fp := ⟨fun a u n h _ => ou.eH.k a u n h, ou.eH.tx, ou.eF, ou.sub, fun a h1 h2 => .inr (ou.new a h1 h2), .int _, w'.es, w'.nd, fun a m => .inl m, w'.off, rfl, np, w'.hi⟩
            obtain ⟨g2, q1, q2, q3⟩ := o2.put i
            exact hq _ _ _ _ q1 q2 q3
          | str k => exact absurd eb (hs _ _ k)
          | _ => exact hq.elim
    rw [Bool.or_eq_true, beq_iff_eq, beq_iff_eq] at h4
    rcases h4 with rfl | rfl
    · cases op <;> try (exact absurd (show false = true from h3) Bool.false_ne_true)
      refine (ps_aug g.nd k1 k2 ((all_e G xi a).se g.toGood h5) ip_addG k3).imp3 fun E σ H ⟨env, F, fp, w, np, hq⟩ => ?_
      rw [exec] at hq
      cases ex : (env[i]?).bind id with
      | none => rw [ex] at hq; exact hq.elim
      | some d =>
        rw [ex] at hq
        obtain ⟨m1, m2⟩ := mem_of_slot ex
        obtain ⟨v, gv, hv, rv, _⟩ := w.es.get m1
        refine ⟨v, hv, rdE_of w np hq fun y hq u H' F' fr ou => ?_⟩
        have w' := w.next ou.eH ou.eF ou.sub ou.new
        cases eb : bopD .add d y with
        | none => rw [eb] at hq; exact hq.elim
        | some z =>
          rw [eb] at hq
          cases z with
          | int k =>
            obtain ⟨i1, j1, rfl, rfl, rfl⟩ : ∃ i1 j1, d = .int i1 ∧ y = .int j1 ∧ k = i1 + j1 := by
              cases d <;> cases y <;> first
                | (cases (show some (D.int _) = some (D.int k) from eb); exact ⟨_, _, rfl, rfl, rfl⟩)
                | (exact absurd (show (none : Option D) = _ from eb) (fun z => nomatch z))
                | (have e' := (chkO_some (show chkO _ _ = some (D.int k) from eb)).2; cases e')
            obtain ⟨rfl, _⟩ := rv.int'
            obtain ⟨rfl, _⟩ := ou.r.int'
            refine .inl ⟨i1, j1, rfl, rfl, ?_⟩
            have o2 : OutP ⟨X.K, xi⟩ F H fp F' H' (.int (i1 + j1)) (.int (i1 + j1)) [] env σ fp := ⟨fun a u n h _ => ou.eH.k a u n h, ou.eH.tx, ou.eF, ou.sub, fun a h1 h2 => .inr (ou.new a h1 h2), .int _, w'.es, w'.nd, fun a m => .inl m, w'.off, rfl, np, w'.hi⟩
            obtain ⟨g2, q1, q2, q3⟩ := o2.put i
            exact hq _ _ _ _ q1 q2 q3
          | str k =>
            obtain ⟨a1, b1, rfl, rfl, hz, rfl⟩ : ∃ a1 b1, d = .str a1 ∧ y = .str b1 ∧ a1.length + b1.length ≤ 16000000 ∧ k = a1 ++ b1 := by
              cases d <;> cases y <;> first
                | (obtain ⟨c, e'⟩ := chkO_some (show chkO _ (some (D.str _)) = some (D.str k) from eb); cases e'; exact ⟨_, _, rfl, rfl, c, rfl⟩)
                | (exact absurd (show (none : Option D) = _ from eb) (fun z => nomatch z))
                | (cases (show some (D.int _) = some (D.str k) from eb))
                | (have e' := (chkO_some (show chkO _ (some (D.lst _ _)) = some (D.str k) from eb)).2; cases e')
            obtain ⟨rfl, _⟩ := rv.str'
            obtain ⟨rfl, _⟩ := ou.r.str'
            refine .inr ⟨a1, b1, rfl, rfl, Nat.le_trans hz line16, ?_⟩
            have o2 : OutP ⟨X.K, xi⟩ F H fp F' H' (.str (a1 ++ b1)) (.str (a1 ++ b1)) [] env σ fp := ⟨fun a u n h _ => ou.eH.k a u n h, ou.eH.tx, ou.eF, ou.sub, fun a h1 h2 => .inr (ou.new a h1 h2), .str _, w'.es, w'.nd, fun a m => .inl m, w'.off, rfl, np, w'.hi⟩
            obtain ⟨g2, q1, q2, q3⟩ := o2.put i
            exact hq _ _ _ _ q1 q2 q3
          | _ => exact hq.elim
    · cases op <;> try (exact absurd (show false = true from h3) Bool.false_ne_true)
      refine (ps_aug g.nd k1 k2 ((all_e G xi a).se g.toGood h5) ip_sub k3).imp3 (rd _ (fun x y k e => ?_) fun x y k e => by cases x <;> cases y <;> first | (exact absurd (show (none : Option D) = _ from e) (fun z => nomatch z)) | (cases (show some (D.int _) = some (D.str k) from e)))
      cases x <;> cases y <;> first
        | (cases (show some (D.int _) = some (D.int k) from e); exact ⟨_, _, rfl, rfl, rfl⟩)
        | (exact absurd (show (none : Option D) = _ from e) (fun z => nomatch z))
  · cases h
theorem OutM.toP {K : Kx} {F H F' H' : Hp} {fp fr fp' : List Addr} {d : D} {v : V} {env' : Env} {σ : L2.St} (o : OutM K F H fp F' H' d v fr env' σ fp') : OutP K F H fp F' H' d v fr env' σ fp' := ⟨fun a u n h _ => o.eH.k a u n h, o.eH.tx, o.eF, o.sub, fun a h1 h2 => .inr (o.new a h1 h2), o.r, o.es, o.nd, o.fresh, o.off, o.np, o.npe, o.hi⟩
theorem asg_sub {o i : Expr} {pos : Pos} {env : PySem.Env} (h : slP i = false) : ∀ v, assign (.Subscript o i pos) env v = (do
      let ov ← holding [v] (eval o env)
      let iv ← holding [v, ov] (eval i env)
      standAt pos
      holding [v, ov, iv] (setItem ov iv v)
      release [v, ov, iv] []) := fun v => by
  cases i <;> first | rfl | cases h
theorem nopks_set : ∀ {ds : List D} {j : Nat} {d : D}, nopks ds = true → nopk d = true → nopks (ds.set j d) = true
  | [], _, _, _, _ => rfl
  | x :: xs, 0, d, h, hd => by
    rw [nopks, Bool.and_eq_true] at h
    rw [List.set_cons_zero, nopks, hd, h.2]
    rfl
  | x :: xs, j + 1, d, h, hd => by
    rw [nopks, Bool.and_eq_true] at h
    rw [List.set_cons_succ, nopks, h.1, nopks_set h.2 hd]
    rfl
theorem nopks_app {xs ys : List D} (h : nopks xs = true) (h' : nopks ys = true) : nopks (xs ++ ys) = true := by
  rw [nopks_all] at h h' ⊢
  rw [List.all_append, h, h']
  rfl
theorem Rs.setN {K : Kx} {F H : Hp} {d : D} {v : V} {fr : List Addr} (r : R K F H d v fr) : ∀ {ds : List D} {vs : List V} {g : List Addr} (j : Nat), Rs K F H ds vs g → ∃ g', Rs K F H (ds.set j d) (vs.set j v) g' ∧ (∀ b ∈ g', b ∈ g ++ fr) ∧ ((g ++ fr).Nodup → g'.Nodup)
  | _, _, _, j, .nil => ⟨[], .nil, fun b m => absurd m List.not_mem_nil, fun _ => List.nodup_nil⟩
  | _, _, _, 0, .cons (f1 := f1) (f2 := f2) r1 r2 => ⟨fr ++ f2, .cons r r2, fun b m => by
      rcases List.mem_append.mp m with m | m
      · exact List.mem_append_right _ m
      · exact List.mem_append_left _ (List.mem_append_right _ m), fun n => by
      have n1 := List.nodup_append.mp n
      have n2 := List.nodup_append.mp n1.1
      exact List.nodup_append.mpr ⟨n1.2.1, n2.2.1, fun a m b m' e => n1.2.2 b (List.mem_append_right _ m') a m e.symm⟩⟩
  | _, _, _, j + 1, .cons (f1 := f1) (f2 := f2) r1 r2 => by
    obtain ⟨g', q1, q2, q3⟩ := Rs.setN r j r2
    refine ⟨f1 ++ g', .cons r1 q1, fun b m => ?_, fun n => ?_⟩
    · rcases List.mem_append.mp m with m | m
      · exact List.mem_append_left _ (List.mem_append_left _ m)
      · rcases List.mem_append.mp (q2 b m) with m | m
        · exact List.mem_append_left _ (List.mem_append_right _ m)
        · exact List.mem_append_right _ m
    · rw [List.append_assoc] at n
      have n1 := List.nodup_append.mp n
      exact List.nodup_append.mpr ⟨n1.1, q3 n1.2.1, fun a m b m' e => n1.2.2 a m b (q2 b m') e⟩
theorem slot_own {env : Env} {x : Nat} {ds : List D} (h : (env[x]?).bind id = some (.lst .own ds)) : env[x]? = some (some (.lst .own ds)) := (mem_of_slot h).1
theorem ss_setix (x : Nat) (k : Exp) (m : Mx) : SS G xi (.setix x k m) := by
  intro c W X st g h
  rw [chkS.eq_def] at h
  dsimp only at h
  split at h
  · rename_i y p j p2 e pos
    simp only [Bool.and_eq_true, Bool.not_eq_true'] at h
    obtain ⟨⟨⟨⟨h1, h2⟩, h3⟩, h4⟩, h5⟩ := h
    obtain ⟨v1, v2, v3, v4⟩ := g.toGood.vis h1
    have hw : swappedStores [.Subscript (.Name y p) j p2] e X.env = pure none := rfl
    refine (ps_asg (all_m m g.toGood h3).1 (pg_sub (pe_var (i := x) v1 v2 v3 v4) ((all_e G xi k).se g.toGood h2) set_list (asg_sub h4)) (show swapsWith e (some (.Subscript (.Name y p) j p2)) pos.line X.env = pure false from noswap e _ _ _ h5) hw (by rfl)).imp3 fun E σ H hq => ?_
    obtain ⟨env, F, fp, w, np, hq⟩ := hq
    rw [exec] at hq
    refine rdM_of w np hq fun q hq v H' F' fr fp' o => ?_
    obtain ⟨d, env'⟩ := q
    dsimp only at hq o
    have w1 : Wd ⟨X.K, xi⟩ F' H' env' σ fp' := ⟨o.sub, o.es, (List.nodup_append.mp o.nd).2.1, fun a m => o.off a (List.mem_append_right _ m), o.hi⟩
    cases hx : (env'[x]?).bind id with
    | none => rw [hx] at hq; exact hq.elim
    | some dx =>
      rw [hx] at hq
      obtain ⟨m1, m2⟩ := mem_of_slot hx
      obtain ⟨vx, gx, hv, rx, _⟩ := w1.es.get m1
      refine ⟨vx, hv, env', F', fp', w1, ?_⟩
      cases ek : ev G k env' with
      | no => rw [ek] at hq; exact hq
      | ex n => rw [ek] at hq; exact Rai.mono (OutW.rai hq w np) o.eH
      | ok kd =>
        rw [ek] at hq
        intro u H2 F2 fr2 o2
        cases dx <;> try (exact hq.elim)
        rename_i fl ds
        cases fl <;> try (exact hq.elim)
        cases kd <;> try (exact hq.elim)
        rename_i kk
        obtain ⟨rfl, _⟩ := o2.r.int'
        simp only [Res.out_ok, someOk_some] at hq
        cases hj : ixN ds.length kk with
        | none => rw [hj] at hq; exact hq.elim
        | some j =>
          rw [hj] at hq
          have w2 := w1.next o2.eH o2.eF o2.sub o2.new
          have off2 : ∀ b ∈ fr ++ fp', F2 b = none := fun b m => by
            cases ef : F2 b with
            | none => rfl
            | some u =>
              have hb : ∃ xs, H' b = some (.lst xs) := (List.mem_append.mp m).elim (fun z => o.r.has b z) (fun z => o.es.has b z)
              obtain ⟨xs, hz⟩ := hb
              have z := o2.new b (o.off b m) (by rw [ef]; exact fun q => nomatch q)
              rw [hz] at z
              cases z
          have o3 : OutP ⟨X.K, xi⟩ F H fp F2 H2 d v fr env' σ fp' := ⟨fun a u n h _ => (o.eH.trans o2.eH).k a u n h, Ex.tx (Ex.trans o.eH o2.eH), o.eF.trans o2.eF, o2.sub, fun a h1 h2 => by
            cases e : F' a with
            | none => exact .inr (Ex.free o.eH (o2.new a e h2))
            | some u => exact .inr (o.new a h1 (by rw [e]; exact fun q => nomatch q)), o.r.mono o2.eF o2.eH, o.es.mono o2.eF o2.eH, o.nd, o.fresh, off2, o.np, o.npe, o.hi.ex o2.eH⟩
          obtain ⟨a, vs, e1, ha, hlen, mk⟩ := OutP.mut o3 (slot_own hx)
          rw [hv] at e1
          cases e1
          have hnd : nopks ds = true := by
            have z := o.npe _ m2
            rw [nopk] at z
            exact (Bool.and_eq_true_iff.mp z).2
          obtain ⟨gg, q1, q2, q3⟩ := mk (ds.set j d) (vs.set j v) (fun g rs => Rs.setN o3.r j rs) (nopks_set hnd o.np)
          exact ⟨a, vs, kk, j, rfl, rfl, ha, by rw [← hlen]; exact hj, hq _ _ _ _ q1 q2 q3⟩
  · cases h
theorem ss_app (x : Nat) (m : Mx) : SS G xi (.app x m) := by
  intro c W X st g h
  rw [chkS.eq_def] at h
  dsimp only at h
  split at h
  · rename_i y p f ap e cp pos
    simp only [Bool.and_eq_true] at h
    obtain ⟨⟨⟨h1, h2⟩, h3⟩, h4⟩ := h
    have hf : f = "append" := by simpa using h2
    subst hf
    obtain ⟨v1, v2, v3, v4⟩ := g.toGood.vis h1
    obtain ⟨pm, sm⟩ := all_m m g.toGood h3
    have hs : starEach [e] X.env = (false, eval e X.env) :: starEach [] X.env := star_cons _ _ _ sm
    refine (ps_expr (pe_bm PySem.F.plainAttrs_list PySem.F.slot_list_append PySem.F.type_list_append mt_append (pe_var (i := x) v1 v2 v3 v4) (pa_cons pm pa_nil hs) rfl (by rw [hs]; rfl) h4 hs rfl) rfl).imp3 fun E σ H hq => ?_
    obtain ⟨env, F, fp, w, np, hq⟩ := hq
    rw [exec] at hq
    cases hx0 : (env[x]?).bind id with
    | none => rw [hx0] at hq; exact hq.elim
    | some dx =>
      rw [hx0] at hq
      obtain ⟨m1, m2⟩ := mem_of_slot hx0
      obtain ⟨vx, gx, hv, rx, _⟩ := w.es.get m1
      cases dx <;> try (exact hq.elim)
      rename_i fl ds0
      cases fl <;> try (exact hq.elim)
      obtain ⟨a0, vs0, g0, rfl, ha0, _, _⟩ := rx.lst' w.sub
      refine ⟨_, hv, .inl ⟨rfl, _, SqL.of ha0⟩, ?_⟩
      refine rdM_of w np hq fun q hq v H' F' fr fp' o => ?_
      obtain ⟨d, env'⟩ := q
      dsimp only at hq o
      cases hx : (env'[x]?).bind id with
      | none => rw [hx] at hq; exact hq.elim
      | some dx =>
        rw [hx] at hq
        cases dx <;> try (exact hq.elim)
        rename_i fl ds
        cases fl <;> try (exact hq.elim)
        dsimp only at hq
        unfold chkR at hq
        by_cases hl : ds.length < 1000000
        · rw [if_pos hl] at hq
          obtain ⟨a, vs, e1, ha, hlen, mk⟩ := OutP.mut o.toP (slot_own hx)
          rw [hv] at e1
          cases e1
          have hnd : nopks ds = true := by
            have z := o.npe _ (mem_of_slot hx).2
            rw [nopk] at z
            exact (Bool.and_eq_true_iff.mp z).2
          obtain ⟨gg, q1, q2, q3⟩ := mk (ds ++ [d]) (vs ++ [v]) (fun g rs => ⟨g ++ (fr ++ []), rs.app (.cons o.r .nil), fun b m => by rw [List.append_nil] at m; exact m, fun n => by rw [List.append_nil]; exact n⟩) (nopks_app hnd (by show (nopk d && true) = true; rw [o.np]; rfl))
          refine ⟨a0, vs, v, rfl, rfl, ha, by rw [← hlen, sizeLine_eq]; omega, ?_⟩
          exact hq _ _ _ _ q1 q2 q3
        · rw [if_neg hl] at hq
          exact hq.elim
  · cases h
theorem ss_expr (a : Exp) : SS G xi (.expr a) := by
  intro c W X st g h
  rw [chkS.eq_def] at h
  dsimp only at h
  split at h
  · rename_i e pos
    simp only [Bool.and_eq_true, Bool.not_eq_true'] at h
    refine (ps_expr ((all_e G xi a).se g.toGood h.1) (noswap e _ _ _ h.2)).imp3 fun E σ H hq => ?_
    obtain ⟨env, F, fp, w, np, hq⟩ := hq
    rw [exec] at hq
    refine rdE_of w np hq fun d hq v H' F' fr o => ?_
    exact hq σ H' F' fp (w.next o.eH o.eF o.sub o.new) np (.of_ex o.eH o.eF o.new fun a m => .inl m)
  · cases h
theorem ss_ret (m : Mx) : SS G xi (.ret m) := by
  intro c W X st g h
  rw [chkS.eq_def] at h
  dsimp only at h
  split at h
  · rename_i e pos
    refine (ps_ret (all_m m g.toGood h).1).imp3 fun E σ H hq => ?_
    obtain ⟨env, F, fp, w, np, hq⟩ := hq
    rw [exec] at hq
    refine rdM_of w np hq fun q hq v H' F' fr fp' o => ?_
    exact hq v H' F' fr o.r (List.nodup_append.mp o.nd).1 (fun a m => o.off a (List.mem_append_left _ m)) o.sub o.np (.of_ex o.eH o.eF o.new fun a m => o.fresh a (List.mem_append_left _ m))
  · cases h
theorem ss_retn : SS G xi .retn := by
  intro c W X st g h
  rw [chkS.eq_def] at h
  dsimp only at h
  split at h
  · refine ps_retN.imp3 fun E σ H hq => ?_
    obtain ⟨env, F, fp, w, np, hq⟩ := hq
    rw [exec] at hq
    exact hq .non H F [] .non List.nodup_nil (fun a m => absurd m List.not_mem_nil) w.sub rfl (.less (List.nil_sublist _))
  · cases h
theorem ss_brk : SS G xi .brk := by
  intro c W X st g h
  rw [chkS.eq_def] at h
  dsimp only at h
  split at h
  · refine ps_break.imp3 fun E σ H hq => ?_
    obtain ⟨env, F, fp, w, np, hq⟩ := hq
    rw [exec] at hq
    exact hq σ H F fp w np (.refl _ _ _)
  · cases h
theorem ss_cont : SS G xi .cont := by
  intro c W X st g h
  rw [chkS.eq_def] at h
  dsimp only at h
  split at h
  · refine ps_continue.imp3 fun E σ H hq => ?_
    obtain ⟨env, F, fp, w, np, hq⟩ := hq
    rw [exec] at hq
    exact hq σ H F fp w np (.refl _ _ _)
  · cases h
theorem ss_pass : SS G xi .pass := by
  intro c W X st g h
  rw [chkS.eq_def] at h
  dsimp only at h
  split at h
  · refine ps_pass.imp3 fun E σ H hq => ?_
    obtain ⟨env, F, fp, w, np, hq⟩ := hq
    rw [exec] at hq
    exact hq σ H F fp w np (.refl _ _ _)
  · cases h
theorem ss_rais (n : Str) : SS G xi (.rais n) := by
  intro c W X st g h
  rw [chkS.eq_def] at h
  dsimp only at h
  split at h
  · rename_i _ x j k l p2 pos p3
    simp only [Bool.and_eq_true] at h
    obtain ⟨⟨⟨h0, h1⟩, h2⟩, h3⟩ := h
    have e : x = n := by simpa using h1
    subst e
    obtain ⟨C, hC⟩ := g.exs x (by simpa using h3)
    obtain ⟨k1, k2, k3⟩ := g.toGood.gl h2
    by_cases hn : x ∈ G.errs
    · have ef := g.err x hn C hC
      refine (ps_raise (g.cm h0) g.tk (pmk_own PySem.F.excBase_ValueError ef.exc hC ef.kp ef.rs k1 k2)).imp3 fun E σ H hq => ?_
      obtain ⟨env, F, fp, w, np, hq⟩ := hq
      rw [exec] at hq
      split at hq
      · exact hq C σ H F fp hC w np (.refl _ _ _)
      · exact hq.elim
    · refine ⟨fun pins s σ H D I hw => ?_⟩
      obtain ⟨env, F, fp, w, np, hq⟩ := hw
      rw [exec, if_neg (by simpa using hn)] at hq
      exact hq.elim
  · cases h
end
end L3

set_option maxRecDepth 100000
set_option maxHeartbeats 4000000
/-! L3.Pth: lists changed in place, deep in a tree. -/
namespace L3
open PySem PySem.Spec PyProof.Rows L2
variable [TbC]

section
variable {K : Kx} {F H : Hp}
/-- one item of a list of trees, and what comes of another one in its place -/
theorem Rs.focus : ∀ {ds : List D} {vs : List V} {gi : List Addr} {j : Nat} {c : D}, Rs K F H ds vs gi → ds[j]? = some c → ∃ vj gj, vs[j]? = some vj ∧ R K F H c vj gj ∧ gj.Sublist gi ∧
    ∀ (F' H' : Hp) (c' : D) (gj' : List Addr), Ex F F' → Tx H H' → (∀ b o, b ∈ gi → b ∉ gj → H b = some (.lst o) → H' b = some (.lst o)) → R K F' H' c' vj gj' → nopks ds = true → gi.Nodup →
      ∃ g', Rs K F' H' (ds.set j c') vs g' ∧ (∀ b ∈ g', b ∈ gj' ∨ (b ∈ gi ∧ b ∉ gj)) ∧ (gj'.Nodup → (∀ b ∈ gj', b ∈ gi → b ∈ gj) → g'.Nodup) ∧ (nopk c' = true → nopks (ds.set j c') = true)
  | _, _, _, j, c, .nil, h => by simp at h
  | _, _, _, 0, c, .cons (d := d) (v := v) (f1 := f1) (f2 := f2) r rs, h => by
    simp at h
    subst h
    refine ⟨v, f1, rfl, r, List.sublist_append_left _ _, fun F' H' c' gj' eF eT kp r' np nd => ?_⟩
    rw [nopks, Bool.and_eq_true] at np
    have n1 := List.nodup_append.mp nd
    have out : ∀ b ∈ f2, b ∉ f1 := fun b m z => n1.2.2 b z b m rfl
    refine ⟨gj' ++ f2, .cons r' (rs.keep eF eT np.2 fun a o m e => kp a o (List.mem_append_right _ m) (out a m) e), fun b m => ?_, fun ng hg => ?_, fun hc => ?_⟩
    · rcases List.mem_append.mp m with m | m
      · exact .inl m
      · exact .inr ⟨List.mem_append_right _ m, out b m⟩
    · exact List.nodup_append.mpr ⟨ng, n1.2.1, fun a m b m' e => by
        subst e
        exact out a m' (hg a m (List.mem_append_right _ m'))⟩
    · rw [List.set_cons_zero, nopks, hc, np.2]
      rfl
  | _, _, _, j + 1, c, .cons (d := d) (v := v) (f1 := f1) (f2 := f2) r rs, h => by
    obtain ⟨vj, gj, h1, h2, h3, h4⟩ := Rs.focus (j := j) rs (by simpa using h)
    refine ⟨vj, gj, by simpa using h1, h2, h3.trans (List.sublist_append_right _ _), fun F' H' c' gj' eF eT kp r' np nd => ?_⟩
    rw [nopks, Bool.and_eq_true] at np
    have n1 := List.nodup_append.mp nd
    have out : ∀ b ∈ f1, b ∉ gj := fun b m z => n1.2.2 b m b (h3.subset z) rfl
    obtain ⟨g', k1, k2, k3, k4⟩ := h4 F' H' c' gj' eF eT (fun b o m n e => kp b o (List.mem_append_right _ m) n e) r' np.2 n1.2.1
    refine ⟨f1 ++ g', .cons (r.keep eF eT np.1 fun a o m e => kp a o (List.mem_append_left _ m) (out a m) e) k1, fun b m => ?_, fun ng hg => ?_, fun hc => ?_⟩
    · rcases List.mem_append.mp m with m | m
      · exact .inr ⟨List.mem_append_left _ m, out b m⟩
      · exact (k2 b m).imp id fun z => ⟨List.mem_append_right _ z.1, z.2⟩
    · refine List.nodup_append.mpr ⟨n1.1, k3 ng fun b m z => hg b m (List.mem_append_right _ z), fun a m b m' e => ?_⟩
      subst e
      rcases k2 a m' with z | z
      · exact out a m (hg a z (List.mem_append_left _ m))
      · exact n1.2.2 a m a z.1 rfl
    · rw [List.set_cons_succ, nopks, np.1, k4 hc]
      rfl
end
/-- at the place is of the tree d (value v0, owned g0) stands dl (value vl, owned gl) -/
structure Zip (K : Kx) (F H : Hp) (d : D) (v0 : V) (g0 : List Addr) (is : List Int) (dl : D) (vl : V) (gl : List Addr) : Prop where
  r : R K F H d v0 g0
  rl : R K F H dl vl gl
  get : getP d is = some dl
  sb : gl.Sublist g0
  np : nopk d = true → nopk dl = true
  up : ∀ (F' H' : Hp) (dl' : D) (gl' : List Addr), Ex F F' → Tx H H' → (∀ b o, b ∈ g0 → b ∉ gl → H b = some (.lst o) → H' b = some (.lst o)) → R K F' H' dl' vl gl' → nopk d = true → g0.Nodup →
    ∃ d' g', putP d is dl' = some d' ∧ R K F' H' d' v0 g' ∧ (∀ b ∈ g', b ∈ gl' ∨ (b ∈ g0 ∧ b ∉ gl)) ∧ (gl'.Nodup → (∀ b ∈ gl', b ∈ g0 → b ∈ gl) → g'.Nodup) ∧ (nopk dl' = true → nopk d' = true)
section
variable {K : Kx} {F H : Hp}
theorem Zip.nil {d : D} {v0 : V} {g0 : List Addr} (r : R K F H d v0 g0) : Zip K F H d v0 g0 [] d v0 g0 :=
  ⟨r, r, by unfold getP; rfl, List.Sublist.refl _, id, fun F' H' dl' gl' _ _ _ r' _ _ => ⟨dl', gl', putP_nil _ _, r', fun b m => .inl m, fun n _ => n, id⟩⟩
theorem atI_set {α : Type} {xs : List α} {i : Int} {c : α} (h : L2.atI xs i = some c) : ∃ j, ixN xs.length i = some j ∧ xs[j]? = some c := by
  unfold L2.atI at h
  cases e : ixN xs.length i with
  | none => rw [e] at h; cases h
  | some j => rw [e] at h; exact ⟨j, rfl, h⟩
/-- putting in two steps -/
theorem putP_app : ∀ (is : List Int) (d mid mid' n d' : D) (i : Int), getP d is = some mid → putP mid [i] n = some mid' → putP d is mid' = some d' → putP d (is ++ [i]) n = some d'
  | [], d, mid, mid', n, d', i, h1, h2, h3 => by
    unfold getP at h1
    cases h1
    rw [putP_nil] at h3
    cases h3
    exact h2
  | k :: is, d, mid, mid', n, d', i, h1, h2, h3 => by
    unfold getP at h1
    rw [List.cons_append]
    cases d with
    | lst f ds =>
      cases f with
      | own =>
        unfold putP at h3 ⊢
        have h1 : ((L2.atI ds k).bind fun c => getP c is) = some mid := h1
        cases e : L2.atI ds k with
        | none => rw [e] at h1; cases h1
        | some c =>
          rw [e] at h1 h3
          dsimp only [Option.bind] at h1 h3 ⊢
          cases e2 : putP c is mid' with
          | none => rw [e2] at h3; cases h3
          | some c' =>
            rw [e2] at h3
            rw [putP_app is c mid mid' n c' i h1 h2 e2]
            exact h3
      | fz => cases h1
      | pk => cases h1
      | lk => cases h1
    | tup ds =>
      unfold putP at h3 ⊢
      have h1 : ((L2.atI ds k).bind fun c => getP c is) = some mid := h1
      cases e : L2.atI ds k with
      | none => rw [e] at h1; cases h1
      | some c =>
        rw [e] at h1 h3
        dsimp only [Option.bind] at h1 h3 ⊢
        cases e2 : putP c is mid' with
        | none => rw [e2] at h3; cases h3
        | some c' =>
          rw [e2] at h3
          rw [putP_app is c mid mid' n c' i h1 h2 e2]
          exact h3
    | _ => cases h1
theorem nopks_get {ds : List D} {j : Nat} {c : D} (h : nopks ds = true) (e : ds[j]? = some c) : nopk c = true := by
  rw [nopks_all] at h
  exact List.all_eq_true.mp h c (List.mem_of_getElem? e)
theorem putI_of {ds : List D} {i : Int} {j : Nat} (h : ixN ds.length i = some j) (n : D) : putI ds i n = some (ds.set j n) := by
  unfold putI
  rw [h]
  rfl
/-- one step deeper -/
theorem Zip.stepL {d : D} {v0 : V} {g0 : List Addr} {is : List Int} {ds : List D} {v : V} {g : List Addr} {i : Int} {c : D} (z : Zip K F H d v0 g0 is (.lst .own ds) v g) (hi : L2.atI ds i = some c) :
    ∃ a vs vj gj, v = .ref a ∧ H a = some (.lst vs) ∧ L2.atI vs i = some vj ∧ Zip K F H d v0 g0 (is ++ [i]) c vj gj := by
  obtain ⟨j, hj, hc⟩ := atI_set hi
  have rl := z.rl
  cases rl with
  | @lst _ _ a vs gi _ rs la =>
    obtain ⟨ha, rfl⟩ := la
    obtain ⟨vj, gj, k1, k2, k3, k4⟩ := rs.focus hc
    have hvi : L2.atI vs i = some vj := by
      unfold L2.atI
      rw [← rs.length, hj]
      exact k1
    refine ⟨a, vs, vj, gj, rfl, ha, hvi, z.r, k2, ?_, k3.trans ((List.sublist_cons_self _ _).trans z.sb), fun h => ?_, fun F' H' dl' gl' eF eT kp r' np nd => ?_⟩
    · rw [getP_app, z.get]
      exact hi
    · have := z.np h
      rw [nopk, Bool.and_eq_true] at this
      exact nopks_get this.2 hc
    · have nm := z.np np
      rw [nopk, Bool.and_eq_true] at nm
      have ng := nd.sublist z.sb
      have n1 := List.nodup_cons.mp ng
      have sub := z.sb.subset
      have agj : a ∉ gj := fun m => n1.1 (k3.subset m)
      obtain ⟨g', q1, q2, q3, q4⟩ := k4 F' H' dl' gl' eF eT (fun b o m n e => kp b o (sub (List.mem_cons_of_mem _ m)) n e) r' nm.2 n1.2
      have ha' : H' a = some (.lst vs) := kp a _ (sub List.mem_cons_self) agj ha
      have rm : R K F' H' (.lst .own (ds.set j dl')) (.ref a) (a :: g') := .lst q1 ⟨ha', rfl⟩
      obtain ⟨d', g2, p1, p2, p3, p4, p5⟩ := z.up F' H' _ _ eF eT (fun b o m n e => kp b o m (fun x => n (List.mem_cons_of_mem _ (k3.subset x))) e) rm np nd
      refine ⟨d', g2, putP_app is d _ _ _ _ i z.get ?_ p1, p2, fun b m => ?_, fun n h => ?_, fun h => p5 ?_⟩
      · unfold putP
        rw [hi]
        dsimp only [Option.bind]
        rw [putP_nil]
        dsimp only
        rw [putI_of hj]
      · rcases p3 b m with m | m
        · rcases List.mem_cons.mp m with m | m
          · subst m
            exact .inr ⟨sub List.mem_cons_self, agj⟩
          · exact (q2 b m).imp id fun x => ⟨sub (List.mem_cons_of_mem _ x.1), x.2⟩
        · exact .inr ⟨m.1, fun x => m.2 (List.mem_cons_of_mem _ (k3.subset x))⟩
      · refine p4 (List.nodup_cons.mpr ⟨fun m => ?_, q3 n fun b m x => h b m (sub (List.mem_cons_of_mem _ x))⟩) fun b m x => ?_
        · rcases q2 a m with m | m
          · exact agj (h a m (sub List.mem_cons_self))
          · exact n1.1 m.1
        · rcases List.mem_cons.mp m with m | m
          · subst m; exact List.mem_cons_self
          · rcases q2 b m with m | m
            · exact List.mem_cons_of_mem _ (k3.subset (h b m x))
            · exact List.mem_cons_of_mem _ m.1
      · rw [nopk, q4 h]
        rfl
theorem Zip.stepT {d : D} {v0 : V} {g0 : List Addr} {is : List Int} {ds : List D} {v : V} {g : List Addr} {i : Int} {c : D} (z : Zip K F H d v0 g0 is (.tup ds) v g) (hi : L2.atI ds i = some c) :
    ∃ a vs vj gj, v = .ref a ∧ SqT K.K H a vs ∧ L2.atI vs i = some vj ∧ Zip K F H d v0 g0 (is ++ [i]) c vj gj := by
  obtain ⟨j, hj, hc⟩ := atI_set hi
  have rl := z.rl
  cases rl with
  | @tup _ a vs _ ht rs =>
    obtain ⟨vj, gj, k1, k2, k3, k4⟩ := rs.focus hc
    have hvi : L2.atI vs i = some vj := by
      unfold L2.atI
      rw [← rs.length, hj]
      exact k1
    refine ⟨a, vs, vj, gj, rfl, ht, hvi, z.r, k2, ?_, k3.trans z.sb, fun h => ?_, fun F' H' dl' gl' eF eT kp r' np nd => ?_⟩
    · rw [getP_app, z.get]
      exact hi
    · exact nopks_get (show nopks ds = true from z.np h) hc
    · have nm : nopks ds = true := z.np np
      have ng := nd.sublist z.sb
      have sub := z.sb.subset
      obtain ⟨g', q1, q2, q3, q4⟩ := k4 F' H' dl' gl' eF eT (fun b o m n e => kp b o (sub m) n e) r' nm ng
      have rm : R K F' H' (.tup (ds.set j dl')) (.ref a) g' := .tup (tx_t eT ht) q1
      obtain ⟨d', g2, p1, p2, p3, p4, p5⟩ := z.up F' H' _ _ eF eT (fun b o m n e => kp b o m (fun x => n (k3.subset x)) e) rm np nd
      refine ⟨d', g2, putP_app is d _ _ _ _ i z.get ?_ p1, p2, fun b m => ?_, fun n h => ?_, fun h => p5 (q4 h)⟩
      · unfold putP
        rw [hi]
        dsimp only [Option.bind]
        rw [putP_nil]
        dsimp only
        rw [putI_of hj]
      · rcases p3 b m with m | m
        · exact (q2 b m).imp id fun x => ⟨sub x.1, x.2⟩
        · exact .inr ⟨m.1, fun x => m.2 (k3.subset x)⟩
      · refine p4 (q3 n fun b m x => h b m (sub x)) fun b m x => ?_
        rcases q2 b m with m | m
        · exact k3.subset (h b m x)
        · exact m.1
theorem Zip.mono {F1 H1 : Hp} {d : D} {v0 : V} {g0 : List Addr} {is : List Int} {dl : D} {vl : V} {gl : List Addr} (z : Zip K F H d v0 g0 is dl vl gl) (eF : Ex F F1) (eH : Ex H H1) : Zip K F1 H1 d v0 g0 is dl vl gl :=
  ⟨z.r.mono eF eH, z.rl.mono eF eH, z.get, z.sb, z.np, fun F' H' dl' gl' eF' eT' kp r' np nd => z.up F' H' dl' gl' (eF.trans eF') (eH.tx.trans eT') (fun b o m n e => kp b o m n (eH.lst e)) r' np nd⟩
end
/-- .. of a slot's tree, the other slots held beside -/
structure Zd (K : Kx) (F H : Hp) (env : Env) (σ : L2.St) (fp : List Addr) (x : Nat) (d : D) (is : List Int) (dl : D) (vl : V) : Prop where
  ex : ∃ v0 g0 gl fp2, env[x]? = some (some d) ∧ σ[x]? = some (some v0) ∧ Zip K F H d v0 g0 is dl vl gl ∧ Es K F H (env.set x none) σ fp2 ∧ (∀ b ∈ g0 ++ fp2, b ∈ fp) ∧ (g0 ++ fp2).Nodup
section
variable {K : Kx} {F H : Hp} {env : Env} {σ : L2.St} {fp : List Addr} {x : Nat} {d : D}
theorem Zd.start (w : Wd K F H env σ fp) (hx : env[x]? = some (some d)) : ∃ v0, σ[x]? = some (some v0) ∧ Zd K F H env σ fp x d [] d v0 := by
  obtain ⟨v, g, fp', q1, q2, q3, q4, q5⟩ := w.es.take hx
  exact ⟨v, q1, v, g, g, fp', hx, q1, .nil q2, q3, q4, q5 w.nd⟩
theorem Zd.mono {F1 H1 : Hp} {is : List Int} {dl : D} {vl : V} (z : Zd K F H env σ fp x d is dl vl) (eF : Ex F F1) (eH : Ex H H1) : Zd K F1 H1 env σ fp x d is dl vl := by
  obtain ⟨v0, g0, gl, fp2, h1, h2, h3, h4, h5, h6⟩ := z.ex
  exact ⟨v0, g0, gl, fp2, h1, h2, h3.mono eF eH, h4.mono eF eH, h5, h6⟩
end
section
variable (K : Kx) (mg : Str → Option Value) (W : WX) (G : Tab)
/-- a place's reading -/
def rdP (p : Pth) : TE := fun σ H Q => ∃ env F fp, Wd K F H env σ fp ∧ match evp G p env with
  | .ok is => ∃ d dl, env[p.slot]? = some (some d) ∧ getP d is = some dl ∧ ∀ v H' F', Ex H H' → Ex F F' → Ex F' H' → (∀ a, F a = none → F' a ≠ none → H a = none) → Zd K F' H' env σ fp p.slot d is dl v → Q v H'
  | .ex n => Rai mg W n σ H
  | .no => False
end
section
variable {G : Tab} {xi : Xi}
theorem pth_name {c : Cc} : ∀ {p : Pth} {e : Expr}, chkP c p e = true → namP e = true
  | .v i, e, h => by
    unfold chkP at h
    split at h
    · rfl
    · cases h
  | .ix p k, e, h => by
    unfold chkP at h
    split at h
    · rfl
    · cases h
theorem se_pth : ∀ (p : Pth) ⦃c : Cc⦄ ⦃W : WX⦄ ⦃X : Cx⦄ ⦃e : Expr⦄, Good c G xi W X → chkP c p e = true → PE X e (rdP ⟨X.K, xi⟩ X.mg W G p)
  | .v i, c, W, X, e, g, h => by
    unfold chkP at h
    split at h
    · obtain ⟨h1, h2, h3, h4⟩ := g.vis h
      refine (pe_var (i := i) h1 h2 h3 h4).imp3 fun σ H Q hq => ?_
      obtain ⟨env, F, fp, w, d, dl, e1, e2, hq⟩ := hq
      unfold getP at e2
      cases e2
      obtain ⟨v0, q1, q2⟩ := Zd.start w e1
      exact ⟨v0, q1, hq v0 H F (Ex.refl _) (Ex.refl _) w.sub (fun a h1 h2 => absurd h1 h2) q2⟩
    · cases h
  | .ix p k, c, W, X, e, g, h => by
    unfold chkP at h
    split at h
    · rename_i o kk pos
      simp only [Bool.and_eq_true, Bool.not_eq_true'] at h
      obtain ⟨⟨h1, h2⟩, h3⟩ := h
      refine (pe_ix ix_all (se_pth p g h1) ((all_e G xi k).se g h2) (plainIx h3)).imp3 fun σ H Q hq => ?_
      obtain ⟨env, F, fp, w, hq⟩ := hq
      refine ⟨env, F, fp, w, ?_⟩
      rw [evp] at hq
      cases ep : evp G p env with
      | no => rw [ep] at hq; exact hq
      | ex n => rw [ep] at hq; exact hq
      | ok is =>
        rw [ep, Res.bind_ok] at hq
        cases ek : ev G k env with
        | no => rw [ek] at hq; exact hq.elim
        | ex n =>
          rw [ek] at hq
          exact hq.elim
        | ok kd =>
          rw [ek, quiet_ok, Res.bind_ok] at hq
          cases kd <;> try (exact hq.elim)
          rename_i i
          rw [asI_int, Res.bind_ok] at hq
          obtain ⟨d, dl, e1, e2, hq⟩ := hq
          rw [getP_app] at e2
          cases em : getP d is with
          | none => rw [em] at e2; cases e2
          | some mid =>
            rw [em] at e2
            refine ⟨d, mid, e1, em, fun v H1 F1 eH eF sub new zd => ?_⟩
            refine ⟨env, F1, fp, w.next eH eF sub new, ?_⟩
            rw [ek]
            intro u H2 F2 f2 o2
            obtain ⟨rfl, rfl⟩ := o2.r.int'
            have zd2 := zd.mono o2.eF o2.eH
            have new2 : ∀ a, F a = none → F2 a ≠ none → H a = none := fun a h1 h2 => by
              cases e : F1 a with
              | none => exact Ex.free eH (o2.new a e h2)
              | some u => exact new a h1 (by rw [e]; exact fun q => nomatch q)
            obtain ⟨v0, g0, gl, fp2, z1, z2, z3, z4, z5, z6⟩ := zd2.ex
            have e2 : stepP mid i = some dl := e2
            cases mid with
            | lst f ds =>
              cases f with
              | own =>
                obtain ⟨a, vs, vj, gj, rfl, ha, hv, zz⟩ := z3.stepL (show L2.atI ds i = some dl from e2)
                exact .inl (.inr ⟨a, vs, i, vj, rfl, rfl, SqL.of ha, hv, hq vj H2 F2 (eH.trans o2.eH) (eF.trans o2.eF) o2.sub new2 ⟨v0, g0, gj, fp2, z1, z2, zz, z4, z5, z6⟩⟩)
              | fz => cases e2
              | pk => cases e2
              | lk => cases e2
            | tup ds =>
              obtain ⟨a, vs, vj, gj, rfl, ha, hv, zz⟩ := z3.stepT (show L2.atI ds i = some dl from e2)
              exact .inl (.inl ⟨a, vs, i, vj, rfl, rfl, ha, hv, hq vj H2 F2 (eH.trans o2.eH) (eF.trans o2.eF) o2.sub new2 ⟨v0, g0, gj, fp2, z1, z2, zz, z4, z5, z6⟩⟩)
            | _ => cases e2
    · cases h
end
end L3

set_option maxRecDepth 100000
set_option maxHeartbeats 4000000
/-! L3.Stm6: statements that change a list deep in a tree. -/
namespace L3
open PySem PySem.Spec PyProof.Rows L2
variable [TbC]

/-- the heap has grown -/
structure Gr (F H F' H' : Hp) : Prop where
  eH : Ex H H'
  eF : Ex F F'
  sub : Ex F' H'
  new : ∀ a, F a = none → F' a ≠ none → H a = none
theorem Gr.refl {F H : Hp} (s : Ex F H) : Gr F H F H := ⟨Ex.refl _, Ex.refl _, s, fun a h1 h2 => absurd h1 h2⟩
theorem Gr.trans {F H F1 H1 F2 H2 : Hp} (p : Gr F H F1 H1) (q : Gr F1 H1 F2 H2) : Gr F H F2 H2 :=
  ⟨p.eH.trans q.eH, p.eF.trans q.eF, q.sub, fun a h1 h2 => by
    cases e : F1 a with
    | none => exact Ex.free p.eH (q.new a e h2)
    | some u => exact p.new a h1 (by rw [e]; exact fun q => nomatch q)⟩
section
variable {K : Kx} {F H F1 H1 F2 H2 : Hp} {env : Env} {σ : L2.St} {fp fr : List Addr} {d : D} {v : V} {mg : Str → Option Value} {W : WX} {G : Tab} {E : Ends}
theorem Out1.gr {g : List Addr} (o : Out1 K F H g F1 H1 d v fr) : Gr F H F1 H1 := ⟨o.eH, o.eF, o.sub, o.new⟩
theorem Wd.gr (w : Wd K F H env σ fp) (g : Gr F H F1 H1) : Wd K F1 H1 env σ fp := w.next g.eH g.eF g.sub g.new
/-- what was new is not within what stands still -/
theorem Gr.off (g : Gr F H F1 H1) (r : R K F H d v fr) (o : ∀ a ∈ fr, F a = none) : ∀ a ∈ fr, F1 a = none := fun a m => by
  cases e : F1 a with
  | none => rfl
  | some u =>
    obtain ⟨xs, q⟩ := r.has a m
    have z := g.new a (o a m) (by rw [e]; exact fun q => nomatch q)
    rw [q] at z
    cases z
theorem rdE_at {a : Exp} {f : D → Out} {P : V → Hp → Prop} (w : Wd K F H env σ fp) (np : npE env) (h : OutW K mg W ((ev G a env).out env f) F H fp E) (g : Gr F H F1 H1)
    (k : ∀ d, OutW K mg W (f d) F H fp E → ∀ v H' F' fr, Out1 K F1 H1 [] F' H' d v fr → P v H') : rdE K mg W G a σ H1 P := by
  refine ⟨env, F1, fp, w.gr g, ?_⟩
  cases em : ev G a env with
  | no => rw [em] at h; exact h
  | ex n => rw [em] at h; exact Rai.mono (OutW.rai h w np) g.eH
  | ok p => rw [em] at h; exact k p h
theorem rdI_at {a : Exp} {f : Int → Out} {P : V → Hp → Prop} (w : Wd K F H env σ fp) (np : npE env) (h : OutW K mg W (((ev G a env).bind asI).out env f) F H fp E) (g : Gr F H F1 H1)
    (k : ∀ i, OutW K mg W (f i) F H fp E → ∀ H' F', Gr F1 H1 F' H' → P (.int i) H') : rdE K mg W G a σ H1 P := by
  refine ⟨env, F1, fp, w.gr g, ?_⟩
  cases em : ev G a env with
  | no => rw [em] at h; exact h
  | ex n => rw [em] at h; exact Rai.mono (OutW.rai h w np) g.eH
  | ok p =>
    rw [em] at h
    intro v H' F' fr o
    cases p <;> try (exact h.elim)
    obtain ⟨rfl, _⟩ := o.r.int'
    exact k _ h H' F' o.gr
theorem rdP_at {p : Pth} {f : List Int → D → List D → Out} {P : V → Hp → Prop} (w : Wd K F H env σ fp) (np : npE env) (h : OutW K mg W (atP G p env f) F H fp E) (g : Gr F H F1 H1)
    (k : ∀ is d ds, env[p.slot]? = some (some d) → OutW K mg W (f is d ds) F H fp E → ∀ v H' F', Gr F1 H1 F' H' → Zd K F' H' env σ fp p.slot d is (.lst .own ds) v → P v H') : rdP K mg W G p σ H1 P := by
  refine ⟨env, F1, fp, w.gr g, ?_⟩
  unfold atP at h
  cases em : evp G p env with
  | no => rw [em] at h; exact h
  | ex n => rw [em] at h; exact Rai.mono (OutW.rai h w np) g.eH
  | ok is =>
    rw [em] at h
    simp only [Res.out_ok] at h
    cases hx : (env[p.slot]?).bind id with
    | none => rw [hx] at h; exact h.elim
    | some d =>
      rw [hx] at h
      obtain ⟨m1, m2⟩ := mem_of_slot hx
      simp only [Res.out_ok, someOk_some] at h
      cases hg : getP d is with
      | none => rw [hg] at h; exact h.elim
      | some dl =>
        rw [hg] at h
        cases dl <;> try (exact h.elim)
        rename_i fl ds
        cases fl <;> try (exact h.elim)
        exact ⟨d, _, m1, hg, fun v H' F' e1 e2 e3 e4 zd => k is d ds m1 h v H' F' ⟨e1, e2, e3, e4⟩ zd⟩
theorem Zd.leaf {x : Nat} {is : List Int} {ds : List D} (z : Zd K F H env σ fp x d is (.lst .own ds) v) : ∃ a vs, v = .ref a ∧ H a = some (.lst vs) ∧ ds.length = vs.length := by
  obtain ⟨v0, g0, gl, fp2, h1, h2, h3, h4, h5, h6⟩ := z.ex
  have rl := h3.rl
  cases rl with
  | lst rs la => exact ⟨_, _, rfl, la.1, rs.length⟩
theorem Rs.keeps {K : Kx} {F H H' : Hp} {ds : List D} {vs : List V} {g : List Addr} (eT : Tx H H') (r : Rs K F H ds vs g) (n : nopks ds = true) (k : ∀ a o, a ∈ g → H a = some (.lst o) → H' a = some (.lst o)) : Rs K F H' ds vs g := Rs.keep (Ex.refl F) eT r n k
/-- the list there becomes ds'; es is taken out -/
theorem Zd.mut {x : Nat} {is : List Int} {ds : List D} (w0 : Wd K F H env σ fp) (np : npE env) (g : Gr F H F1 H1) (z : Zd K F1 H1 env σ fp x d is (.lst .own ds) v) (nd : fr.Nodup) (frF : ∀ a ∈ fr, F1 a = none) (frH : ∀ a ∈ fr, H a = none) :
    ∃ v0 a vs gi, v = .ref a ∧ H1 a = some (.lst vs) ∧ σ[x]? = some (some v0) ∧ Rs K F1 H1 ds vs gi ∧ nopks ds = true ∧
      ∀ (ds' es : List D) (vs' us : List V) (g' ge : List Addr), Rs K F1 H1 ds' vs' g' → Rs K F1 H1 es us ge → (∀ b ∈ ge ++ g', b ∈ gi ++ fr) → ((gi ++ fr).Nodup → (ge ++ g').Nodup) → nopks ds' = true → nopks es = true →
        ∃ d' gg, putP d is (.lst .own ds') = some d' ∧ nopk d' = true ∧ Ex F1 (upd H1 a (.lst vs')) ∧ Rs K F1 (upd H1 a (.lst vs')) es us ge ∧ Es K F1 (upd H1 a (.lst vs')) (env.set x (some d')) σ gg ∧ (ge ++ gg).Nodup ∧ (∀ b ∈ ge ++ gg, b ∈ fp ∨ H b = none) ∧ (∀ b ∈ ge ++ gg, F1 b = none) ∧
          (∀ b o, isTb o = false → H b = some o → b ∉ fp → upd H1 a (.lst vs') b = some o) ∧ Tx H (upd H1 a (.lst vs')) ∧ HI K (upd H1 a (.lst vs')) := by
  obtain ⟨v0, g0, gl, fp2, h1, h2, h3, h4, h5, h6⟩ := z.ex
  have w1 := w0.gr g
  have rl := h3.rl
  have npd : nopk d = true := np d (List.mem_of_getElem? h1)
  have npl : nopks ds = true := by
    have := h3.np npd
    rw [nopk, Bool.and_eq_true] at this
    exact this.2
  cases rl with
  | @lst _ _ a vs gi _ rs la =>
    obtain ⟨ha, rfl⟩ := la
    refine ⟨v0, a, vs, gi, rfl, ha, h2, rs, npl, fun ds' es vs' us g' ge rd re mem ndp n1 n2 => ?_⟩
    have n6 := List.nodup_append.mp h6
    have ngl := n6.1.sublist h3.sb
    have ngc := List.nodup_cons.mp ngl
    have sub := h3.sb.subset
    have ag0 : a ∈ g0 := sub List.mem_cons_self
    have inF : ∀ b ∈ fp, b ∉ fr := fun b m q => by
      obtain ⟨xs, e⟩ := w0.es.has b m
      rw [frH b q] at e
      cases e
    have g0f : ∀ b ∈ g0, b ∈ fp := fun b m => h5 b (List.mem_append_left _ m)
    have gif : ∀ b ∈ gi, b ∈ g0 := fun b m => sub (List.mem_cons_of_mem _ m)
    have offa : F1 a = none := w1.off a (g0f a ag0)
    have tx : Tx H1 (upd H1 a (.lst vs')) := Tx.mut ha
    have kp : ∀ b ob, b ≠ a → H1 b = some ob → upd H1 a (.lst vs') b = some ob := fun b ob hne e => by rw [upd_ne hne]; exact e
    have sub' : Ex F1 (upd H1 a (.lst vs')) := g.sub.mut ha offa
    have age : a ∉ ge ++ g' := fun m => by
      rcases List.mem_append.mp (mem a m) with q | q
      · exact ngc.1 q
      · exact inF a (g0f a ag0) q
    have nall := ndp (List.nodup_append.mpr ⟨ngc.2, nd, fun b m c m' e => by subst e; exact inF b (g0f b (gif b m)) m'⟩)
    have na := List.nodup_append.mp nall
    have rd' := Rs.keeps tx rd n1 fun b o m e => kp b _ (fun q => age (List.mem_append_right _ (q ▸ m))) e
    have re' := Rs.keeps tx re n2 fun b o m e => kp b _ (fun q => age (List.mem_append_left _ (q ▸ m))) e
    have leaf : R K F1 (upd H1 a (.lst vs')) (.lst .own ds') (.ref a) (a :: g') := .lst rd' ⟨upd_same, rfl⟩
    obtain ⟨d', g1, p1, p2, p3, p4, p5⟩ := h3.up F1 (upd H1 a (.lst vs')) _ _ (Ex.refl _) tx (fun b o m n e => kp b _ (fun q => n (q ▸ List.mem_cons_self)) e) leaf npd n6.1
    have npd' : nopk d' = true := p5 (by rw [nopk, n1]; rfl)
    have es3 := Es.keep (H' := upd H1 a (.lst vs')) (Ex.refl F1) tx h4 (np.set fun d z => by cases z) fun b o m e => kp b _ (fun q => n6.2.2 a ag0 b m q.symm) e
    obtain ⟨gg, q1, q2, q3⟩ := Es.put p2 x es3
    rw [List.set_set, set_self h2] at q1
    have ng1 : g1.Nodup := p4 (List.nodup_cons.mpr ⟨fun m => age (List.mem_append_right _ m), na.2.1⟩) fun b m x => by
      rcases List.mem_cons.mp m with m | m
      · rw [m]; exact List.mem_cons_self
      · rcases List.mem_append.mp (mem b (List.mem_append_right _ m)) with m | m
        · exact List.mem_cons_of_mem _ m
        · exact absurd m (inF b (g0f b x))
    -- where each owned list comes from
    have m1 : ∀ b ∈ g1, b ∈ g0 ∨ b ∈ fr := fun b m => by
      rcases p3 b m with m | m
      · rcases List.mem_cons.mp m with m | m
        · exact .inl (m ▸ ag0)
        · exact (List.mem_append.mp (mem b (List.mem_append_right _ m))).imp (gif b) id
      · exact .inl m.1
    have me : ∀ b ∈ ge, b ∈ gi ∨ b ∈ fr := fun b m => List.mem_append.mp (mem b (List.mem_append_left _ m))
    have fp2f : ∀ b ∈ fp2, b ∈ fp := fun b m => h5 b (List.mem_append_right _ m)
    have dis1 : ∀ b ∈ g1, b ∉ fp2 := fun b m q => by
      rcases m1 b m with m | m
      · exact n6.2.2 b m b q rfl
      · exact inF b (fp2f b q) m
    have ngg : gg.Nodup := q3 (List.nodup_append.mpr ⟨ng1, n6.2.1, fun b m c m' e => by subst e; exact dis1 b m m'⟩)
    have mgg : ∀ b ∈ gg, b ∈ g1 ∨ b ∈ fp2 := q2
    have all : ∀ b ∈ ge ++ gg, b ∈ fp ∨ b ∈ fr := fun b m => by
      rcases List.mem_append.mp m with m | m
      · exact (me b m).imp (fun q => g0f b (gif b q)) id
      · rcases mgg b m with m | m
        · exact (m1 b m).imp (g0f b) id
        · exact .inl (fp2f b m)
    refine ⟨d', gg, p1, npd', sub', re', q1, List.nodup_append.mpr ⟨na.1, ngg, fun b m c m' e => ?_⟩, fun b m => (all b m).imp id (frH b), fun b m => ?_, fun b o ib e n => kp b _ (fun q => n (q ▸ g0f a ag0)) (g.eH.k b o ib e), g.eH.tx.trans tx, (w0.hi.ex g.eH).mut ha⟩
    · subst e
      rcases mgg b m' with m' | m'
      · rcases p3 b m' with m' | m'
        · rcases List.mem_cons.mp m' with m' | m'
          · exact age (m' ▸ List.mem_append_left _ m)
          · exact na.2.2 b m b m' rfl
        · rcases me b m with q | q
          · exact m'.2 (List.mem_cons_of_mem _ q)
          · exact inF b (g0f b m'.1) q
      · rcases me b m with q | q
        · exact n6.2.2 b (gif b q) b m' rfl
        · exact inF b (fp2f b m') q
    · rcases all b m with m | m
      · exact w1.off b m
      · exact frF b m
end
section
variable {G : Tab} {xi : Xi}
variable {K : Kx} {F H F1 H1 : Hp} {env : Env} {σ : L2.St} {fp fr : List Addr} {d : D} {v : V} {mg : Str → Option Value} {W : WX} {E : Ends}
/-- nothing taken out -/
theorem Zd.mut0 {x : Nat} {is : List Int} {ds : List D} (w0 : Wd K F H env σ fp) (np : npE env) (g : Gr F H F1 H1) (z : Zd K F1 H1 env σ fp x d is (.lst .own ds) v) (nd : fr.Nodup) (frF : ∀ a ∈ fr, F1 a = none) (frH : ∀ a ∈ fr, H a = none) :
    ∃ a vs, v = .ref a ∧ H1 a = some (.lst vs) ∧ ds.length = vs.length ∧ nopks ds = true ∧
      ∀ (ds' : List D) (vs' : List V), (∀ gi, Rs K F1 H1 ds vs gi → ∃ g', Rs K F1 H1 ds' vs' g' ∧ (∀ b ∈ g', b ∈ gi ++ fr) ∧ ((gi ++ fr).Nodup → g'.Nodup)) → nopks ds' = true →
        OutW K mg W (((someOk (putP d is (.lst .own ds'))).out env fun d' => .nx (env.set x (some d')))) F H fp E → E.nx σ (upd H1 a (.lst vs')) := by
  obtain ⟨v0, a, vs, gi, rfl, ha, hv, rs, npl, k⟩ := Zd.mut w0 np g z nd frF frH
  refine ⟨a, vs, rfl, ha, rs.length, npl, fun ds' vs' hd n h => ?_⟩
  obtain ⟨g', r1, r2, r3⟩ := hd gi rs
  obtain ⟨d', gg, p1, p2, p3, p4, p5, p6, p7, p8, p9, p10, p11⟩ := k ds' [] vs' [] g' [] r1 .nil r2 r3 n rfl
  rw [p1] at h
  exact h σ _ F1 gg ⟨p3, p5, p6, p8, p11⟩ (np.set fun d z => by cases z; exact p2) ⟨p9, g.eF, fun a h1 h2 => .inr (g.new a h1 h2), p7, p10⟩
theorem ss_pApp (p : Pth) (a : Exp) : SS G xi (.pApp p a) := by
  intro c W X st g h
  rw [chkS.eq_def] at h
  dsimp only at h
  split at h
  · rename_i o f l e q pos
    simp only [Bool.and_eq_true, beq_iff_eq] at h
    obtain ⟨⟨⟨h1, h2⟩, h3⟩, h4⟩ := h
    subst h2
    have hs : starEach [e] X.env = (false, eval e X.env) :: starEach [] X.env := star_cons _ _ _ (chk_star a h3)
    have hl : (l.endLine == q.line) = true := by rw [h4]; exact beq_self_eq_true _
    refine (ps_expr (pe_bm PySem.F.plainAttrs_list PySem.F.slot_list_append PySem.F.type_list_append mt_append (se_pth p g.toGood h1) (pa_cons ((all_e G xi a).se g.toGood h3) pa_nil hs) (nam_base (pth_name h1)) (by rw [hs]; rfl) hl hs rfl) rfl).imp3 fun E σ H hq => ?_
    obtain ⟨env, F, fp, w, np, hq⟩ := hq
    rw [exec] at hq
    refine rdP_at w np hq (Gr.refl w.sub) fun is d ds hx hq v H1 F1 g1 z => ?_
    obtain ⟨a0, vs0, rfl, ha0, _⟩ := z.leaf
    refine ⟨.inl ⟨rfl, _, SqL.of ha0⟩, ?_⟩
    refine rdE_at w np hq g1 fun y hq u H2 F2 fr o => ?_
    have o' := o.comp g1.eH g1.eF g1.sub g1.new fun a m => absurd m List.not_mem_nil
    unfold chkR at hq
    by_cases hc : nopk y = true ∧ ds.length < 1000000
    · rw [if_pos hc] at hq
      obtain ⟨b, vs, e1, hb, hl2, npl, k⟩ := Zd.mut0 (E := E) (W := W) (mg := X.mg) w np (g1.trans o.gr) (z.mono o.eF o.eH) o'.nd o'.off (fun a m => (o'.fresh a m).resolve_left List.not_mem_nil)
      cases e1
      exact ⟨a0, vs, u, rfl, rfl, hb, by rw [← hl2, sizeLine_eq]; omega, k (ds ++ [y]) (vs ++ [u]) (fun gi rs => ⟨gi ++ (fr ++ []), rs.app (.cons o.r .nil), fun b m => by rw [List.append_nil] at m; exact m, fun n => by rw [List.append_nil]; exact n⟩) (nopks_app npl (by show (nopk y && true) = true; rw [hc.1]; rfl)) hq⟩
    · rw [if_neg hc] at hq
      exact hq.elim
  · cases h
theorem ss_pClr (p : Pth) : SS G xi (.pClr p) := by
  intro c W X st g h
  rw [chkS.eq_def] at h
  dsimp only at h
  split at h
  · rename_i o f l q pos
    simp only [Bool.and_eq_true, beq_iff_eq] at h
    obtain ⟨⟨h1, h2⟩, h4⟩ := h
    subst h2
    have hl : (l.endLine == q.line) = true := by rw [h4]; exact beq_self_eq_true _
    refine (ps_expr (pe_bm0 PySem.F.plainAttrs_list PySem.F.slot_list_clear PySem.F.type_list_clear mt_clear (se_pth p g.toGood h1) (nam_base (pth_name h1)) hl) rfl).imp3 fun E σ H hq => ?_
    obtain ⟨env, F, fp, w, np, hq⟩ := hq
    rw [exec] at hq
    refine rdP_at w np hq (Gr.refl w.sub) fun is d ds hx hq v H1 F1 g1 z => ?_
    obtain ⟨b, vs, rfl, hb, hl2, npl, k⟩ := Zd.mut0 (fr := []) (E := E) (W := W) (mg := X.mg) w np g1 z List.nodup_nil (fun a m => absurd m List.not_mem_nil) (fun a m => absurd m List.not_mem_nil)
    exact ⟨.inl ⟨rfl, _, SqL.of hb⟩, b, vs, rfl, rfl, hb, k [] [] (fun gi rs => ⟨[], .nil, fun b m => absurd m List.not_mem_nil, fun _ => List.nodup_nil⟩) rfl hq⟩
  · cases h
theorem ss_pExt (p : Pth) (a : Exp) : SS G xi (.pExt p a) := by
  intro c W X st g h
  rw [chkS.eq_def] at h
  dsimp only at h
  split at h
  · rename_i o f l e q pos
    simp only [Bool.and_eq_true, beq_iff_eq] at h
    obtain ⟨⟨⟨h1, h2⟩, h3⟩, h4⟩ := h
    subst h2
    have hs : starEach [e] X.env = (false, eval e X.env) :: starEach [] X.env := star_cons _ _ _ (chk_star a h3)
    have hl : (l.endLine == q.line) = true := by rw [h4]; exact beq_self_eq_true _
    refine (ps_expr (pe_bm PySem.F.plainAttrs_list PySem.F.slot_list_extend PySem.F.type_list_extend mt_extend (se_pth p g.toGood h1) (pa_cons ((all_e G xi a).se g.toGood h3) pa_nil hs) (nam_base (pth_name h1)) (by rw [hs]; rfl) hl hs rfl) rfl).imp3 fun E σ H hq => ?_
    obtain ⟨env, F, fp, w, np, hq⟩ := hq
    rw [exec] at hq
    refine rdP_at w np hq (Gr.refl w.sub) fun is d ds hx hq v H1 F1 g1 z => ?_
    obtain ⟨a0, vs0, rfl, ha0, _⟩ := z.leaf
    refine ⟨.inl ⟨rfl, _, SqL.of ha0⟩, ?_⟩
    refine rdE_at w np hq g1 fun y hq u H2 F2 fr o => ?_
    have o' := o.comp g1.eH g1.eF g1.sub g1.new fun a m => absurd m List.not_mem_nil
    cases y <;> try (exact hq.elim)
    rename_i fl es
    dsimp only at hq
    unfold chkR at hq
    by_cases hc : nopks es = true ∧ ds.length + es.length ≤ 1000000
    · rw [if_pos hc] at hq
      obtain ⟨b, vs, e1, hb, hl2, npl, k⟩ := Zd.mut0 (E := E) (W := W) (mg := X.mg) w np (g1.trans o.gr) (z.mono o.eF o.eH) o'.nd o'.off (fun a m => (o'.fresh a m).resolve_left List.not_mem_nil)
      cases e1
      obtain ⟨b2, ws, g2, rfl, hb2, rs2, sb2⟩ := R.lst' o.sub o.r
      refine ⟨a0, b2, vs, ws, rfl, rfl, hb, hb2, by rw [← hl2, ← rs2.length, sizeLine_eq]; omega, k (ds ++ es) (vs ++ ws) (fun gi rs => ⟨gi ++ g2, rs.app rs2, fun b m => ?_, fun n => ?_⟩) (nopks_app npl hc.1) hq⟩
      · exact (List.mem_append.mp m).elim (fun z => List.mem_append_left _ z) fun z => List.mem_append_right _ (sb2.subset z)
      · exact n.sublist ((List.Sublist.refl _).append sb2)
    · rw [if_neg hc] at hq
      exact hq.elim
  · cases h
theorem ss_pSet (p : Pth) (i a : Exp) : SS G xi (.pSet p i a) := by
  intro c W X st g h
  rw [chkS.eq_def] at h
  dsimp only at h
  split at h
  · rename_i o j p2 e pos
    simp only [Bool.and_eq_true, Bool.not_eq_true'] at h
    obtain ⟨⟨⟨⟨h1, h2⟩, h3⟩, h4⟩, h5⟩ := h
    have hw : swappedStores [.Subscript o j p2] e X.env = pure none := rfl
    refine (ps_asg ((all_e G xi a).se g.toGood h3) (pg_sub (se_pth p g.toGood h1) ((all_e G xi i).se g.toGood h2) set_list (asg_sub h4)) (show swapsWith e (some (.Subscript o j p2)) pos.line X.env = pure false from noswap e _ _ _ h5) hw (by rfl)).imp3 fun E σ H hq => ?_
    obtain ⟨env, F, fp, w, np, hq⟩ := hq
    rw [exec] at hq
    refine rdE_at w np hq (Gr.refl w.sub) fun y hq u H1 F1 fr o => ?_
    unfold chkR at hq
    by_cases hc : nopk y = true
    · rw [if_pos hc] at hq
      simp only [Res.out_ok] at hq
      refine rdP_at w np hq o.gr fun is d ds hx hq v H2 F2 g2 z => ?_
      refine rdI_at w np hq (o.gr.trans g2) fun k hq H3 F3 g3 => ?_
      cases hj : ixN ds.length k with
      | none => rw [hj] at hq; exact hq.elim
      | some j =>
        rw [hj] at hq
        have g23 := g2.trans g3
        obtain ⟨b, vs, rfl, hb, hl2, npl, kk⟩ := Zd.mut0 (E := E) (W := W) (mg := X.mg) w np (o.gr.trans g23) (z.mono g3.eF g3.eH) o.nd (g23.off o.r o.off) (fun a m => (o.fresh a m).resolve_left List.not_mem_nil)
        exact ⟨b, vs, k, j, rfl, rfl, hb, by rw [← hl2]; exact hj, kk (ds.set j y) (vs.set j u) (fun gi rs => Rs.setN (o.r.mono g23.eF g23.eH) j rs) (nopks_set npl hc) hq⟩
    · rw [if_neg hc] at hq
      exact hq.elim
  · cases h
/-- an item of a list, read -/
theorem get_list {X : Cx} : PGet X (rIxL X.K) := by
  intro pins s σ H x y v u Q I rx ry h
  obtain ⟨p, xs, i, z, rfl, rfl, hq, he, q⟩ := h
  cases rx
  obtain ⟨t, rfl⟩ := ry
  obtain ⟨its, r, pl, hz⟩ := I.list hq
  obtain ⟨j, h1, h2, h3, h4, h5⟩ := atI_get he
  obtain ⟨w, ew, rw'⟩ := r.get h2
  have hl := r.length
  have hn := line63
  have fin : EP X pins σ Q w s := ⟨z, H, I, rw', q⟩
  by_cases h0 : 0 ≤ i
  · have hj : i.toNat = j := by
      rw [seqIndex_of h0 h5] at h1
      exact Option.some.inj h1
    exact wpAny_getItem_list (Q := fun r s' => EP X pins σ Q r s') pl.isList h0 (by omega) (by rw [hj]; simpa using ew) fin
  · have hj : (i + (its.toArray.size : Int)).toNat = j := by
      rw [seqIndex_neg (by omega) h4] at h1
      rw [List.size_toArray, ← hl]
      exact Option.some.inj h1
    exact wpAny_getItem_list_neg (Q := fun r s' => EP X pins σ Q r s') pl.isList (by omega) (by rw [List.size_toArray] <;> omega) (by omega) (by rw [hj]; simpa using ew) fin
theorem aug_sub {i : Expr} (h : slP i = false) : ∀ ov iv new, augStore i ov iv new = (do holding [new, ov, iv] (setItem ov iv new); release [new, ov, iv] []; pure .next) := fun ov iv new => by
  cases i <;> first | rfl | cases h
theorem ss_pAug (p : Pth) (i : Exp) (ob : BOp) (a : Exp) : SS G xi (.pAug p i ob a) := by
  intro c W X st g h
  rw [chkS.eq_def] at h
  dsimp only at h
  split at h
  · rename_i o j p2 op e pos
    simp only [Bool.and_eq_true, Bool.not_eq_true'] at h
    obtain ⟨⟨⟨⟨⟨h1, h2⟩, h3⟩, h4⟩, h5⟩, h6⟩ := h
    have rd : ∀ (f : Int → Int → Int), (∀ x y z, bopD ob x y = some (.int z) → ∃ i j, x = .int i ∧ y = .int j ∧ z = f i j) → ∀ E σ H, rdS ⟨X.K, xi⟩ X.mg W G (.pAug p i ob a) E σ H → tAugS (rdP ⟨X.K, xi⟩ X.mg W G p) (rdE ⟨X.K, xi⟩ X.mg W G i) (rdE ⟨X.K, xi⟩ X.mg W G a) (rIxL X.K) (ipI f) rSetL E σ H := by
      intro f hf E σ H ⟨env, F, fp, w, np, hq⟩
      rw [exec] at hq
      refine rdP_at w np hq (Gr.refl w.sub) fun is d ds hx hq v H1 F1 g1 z => ?_
      refine rdI_at w np hq g1 fun k hq H2 F2 g2 => ?_
      cases hj : ixN ds.length k with
      | none => rw [hj] at hq; exact hq.elim
      | some j =>
        rw [hj] at hq
        simp only [Res.out_ok, someOk_some] at hq
        cases hx : ds[j]? with
        | none => rw [hx] at hq; exact hq.elim
        | some x =>
          rw [hx] at hq
          simp only [Res.out_ok, someOk_some] at hq
          have z2 := z.mono g2.eF g2.eH
          have g12 := g1.trans g2
          obtain ⟨v0, b, vs, gi, rfl, hb, hv0, rs, npl, _⟩ := Zd.mut (fr := []) w np g12 z2 List.nodup_nil (fun a m => absurd m List.not_mem_nil) (fun a m => absurd m List.not_mem_nil)
          obtain ⟨vx, gx, hvx, rx, _⟩ := rs.get hx
          have hat : L2.atI vs k = some vx := by
            unfold L2.atI
            rw [← rs.length, hj]
            exact hvx
          refine ⟨b, vs, k, vx, rfl, rfl, SqL.of hb, hat, ?_⟩
          refine rdE_at w np hq g12 fun y hq u H3 F3 fr o => ?_
          cases eb : bopD ob x y with
          | none => rw [eb] at hq; exact hq.elim
          | some zd =>
            rw [eb] at hq
            cases zd <;> try (exact hq.elim)
            rename_i zi
            simp only [Res.out_ok, someOk_some, asI_int] at hq
            obtain ⟨i1, j1, rfl, rfl, rfl⟩ := hf _ _ _ eb
            obtain ⟨rfl, _⟩ := rx.int'
            obtain ⟨rfl, _⟩ := o.r.int'
            refine ⟨i1, j1, rfl, rfl, ?_⟩
            obtain ⟨b2, vs2, e2, hb2, hl2, npl2, kk⟩ := Zd.mut0 (fr := []) (E := E) (W := W) (mg := X.mg) w np (g12.trans o.gr) (z2.mono o.eF o.eH) List.nodup_nil (fun a m => absurd m List.not_mem_nil) (fun a m => absurd m List.not_mem_nil)
            cases e2
            exact ⟨b, vs2, k, j, rfl, rfl, hb2, by rw [← hl2]; exact hj, kk (ds.set j (.int (f i1 j1))) (vs2.set j (.int (f i1 j1))) (fun gi rs => Rs.setN (.int _) j rs) (nopks_set npl rfl) hq⟩
    rw [Bool.or_eq_true, beq_iff_eq, beq_iff_eq] at h6
    rcases h6 with rfl | rfl
    · cases op <;> try (exact absurd (show false = true from h5) Bool.false_ne_true)
      refine (ps_augS (se_pth p g.toGood h1) ((all_e G xi i).se g.toGood h2) get_list ((all_e G xi a).se g.toGood h3) ip_add set_list (aug_sub h4)).imp3 (rd _ fun x y k e => ?_)
      cases x <;> cases y <;> first
        | (cases (show some (D.int _) = some (D.int k) from e); exact ⟨_, _, rfl, rfl, rfl⟩)
        | (exact absurd (show (none : Option D) = _ from e) (fun z => nomatch z))
        | (have e' := (chkO_some (show chkO _ _ = some (D.int k) from e)).2; cases e')
    · cases op <;> try (exact absurd (show false = true from h5) Bool.false_ne_true)
      refine (ps_augS (se_pth p g.toGood h1) ((all_e G xi i).se g.toGood h2) get_list ((all_e G xi a).se g.toGood h3) ip_sub set_list (aug_sub h4)).imp3 (rd _ fun x y k e => ?_)
      cases x <;> cases y <;> first
        | (cases (show some (D.int _) = some (D.int k) from e); exact ⟨_, _, rfl, rfl, rfl⟩)
        | (exact absurd (show (none : Option D) = _ from e) (fun z => nomatch z))
  · cases h
theorem Rs.del {K : Kx} {F H : Hp} : ∀ {ds : List D} {vs : List V} {g : List Addr} {j : Nat} {d : D}, Rs K F H ds vs g → ds[j]? = some d → ∃ v gj g', vs[j]? = some v ∧ R K F H d v gj ∧ Rs K F H (ds.eraseIdx j) (vs.eraseIdx j) g' ∧ (∀ b ∈ gj ++ g', b ∈ g) ∧ (g.Nodup → (gj ++ g').Nodup)
  | _, _, _, j, d, .nil, h => by simp at h
  | _, _, _, 0, d, .cons (v := v) (f1 := f1) (f2 := f2) r rs, h => by
    simp at h
    subst h
    exact ⟨v, f1, f2, rfl, r, rs, fun b m => m, id⟩
  | _, _, _, j + 1, d, .cons (v := v) (f1 := f1) (f2 := f2) r rs, h => by
    obtain ⟨v', gj, g', h1, h2, h3, h4, h5⟩ := Rs.del (j := j) rs (by simpa using h)
    refine ⟨v', gj, f1 ++ g', by simpa using h1, h2, .cons r h3, fun b m => ?_, fun n => ?_⟩
    · rcases List.mem_append.mp m with m | m
      · exact List.mem_append_right _ (h4 b (List.mem_append_left _ m))
      · rcases List.mem_append.mp m with m | m
        · exact List.mem_append_left _ m
        · exact List.mem_append_right _ (h4 b (List.mem_append_right _ m))
    · have n1 := List.nodup_append.mp n
      have n2 := List.nodup_append.mp (h5 n1.2.1)
      refine List.nodup_append.mpr ⟨n2.1, List.nodup_append.mpr ⟨n1.1, n2.2.1, fun a m b m' e => n1.2.2 a m b (h4 b (List.mem_append_right _ m')) e⟩, fun a m b m' e => ?_⟩
      rcases List.mem_append.mp m' with m' | m'
      · exact n1.2.2 b m' a (h4 a (List.mem_append_left _ m)) e.symm
      · exact n2.2.2 a m b m' e
theorem nopks_del {ds : List D} (j : Nat) (h : nopks ds = true) : nopks (ds.eraseIdx j) = true := by
  rw [nopks_all] at h ⊢
  exact List.all_eq_true.mpr fun x m => List.all_eq_true.mp h x (List.mem_of_mem_eraseIdx m)
theorem ix63 {n : Nat} {i : Int} {j : Nat} (h : ixN n i = some j) (hn : n ≤ 1000000) : -(2 ^ 63) ≤ i ∧ i < 2 ^ 63 ∧ seqIndex? i n = some j := by
  obtain ⟨h1, h2, h3, h4⟩ := ixN_seq h
  exact ⟨by omega, by omega, by first | exact h1 | exact h2 | exact h3 | exact h4⟩
theorem pop_rd {X : Cx} {p : Pth} {a : Exp} {f : D → Env → Out} {Q : VK} (w : Wd ⟨X.K, xi⟩ F H env σ fp) (np : npE env) (hq : OutW ⟨X.K, xi⟩ X.mg W (popD G p a env f) F H fp E)
    (k : ∀ y env', OutW ⟨X.K, xi⟩ X.mg W (f y env') F H fp E → ∀ vy F' H' fr gg, OutP ⟨X.K, xi⟩ F H fp F' H' y vy fr env' σ gg → Q vy H') :
    tBM X.K "list" rPopAt (rdP ⟨X.K, xi⟩ X.mg W G p) (tCons (rdE ⟨X.K, xi⟩ X.mg W G a) tNil) σ H Q := by
  unfold popD at hq
  refine rdP_at w np hq (Gr.refl w.sub) fun is d ds hx hq v H1 F1 g1 z => ?_
  obtain ⟨a0, vs0, rfl, ha0, _⟩ := z.leaf
  refine ⟨.inl ⟨rfl, _, SqL.of ha0⟩, ?_⟩
  refine rdI_at w np hq g1 fun k0 hq H2 F2 g2 => ?_
  unfold chkR at hq
  by_cases hc : ds.length ≤ 1000000
  · rw [if_pos hc] at hq
    simp only [Res.out_ok] at hq
    cases hj : ixN ds.length k0 with
    | none => rw [hj] at hq; exact hq.elim
    | some j =>
      rw [hj] at hq
      simp only [Res.out_ok, someOk_some] at hq
      cases hy : ds[j]? with
      | none => rw [hy] at hq; exact hq.elim
      | some y =>
        rw [hy] at hq
        simp only [Res.out_ok, someOk_some] at hq
        have g12 := g1.trans g2
        obtain ⟨v0, b, vs, gi, e1, hb, hv0, rs, npl, kk⟩ := Zd.mut (fr := []) w np g12 (z.mono g2.eF g2.eH) List.nodup_nil (fun a m => absurd m List.not_mem_nil) (fun a m => absurd m List.not_mem_nil)
        cases e1
        obtain ⟨vy, gy, g', q1, q2, q3, q4, q5⟩ := rs.del hy
        obtain ⟨d', gg, p1, p2, p3, p4, p5, p6, p7, p8, p9, p10, p11⟩ := kk (ds.eraseIdx j) [y] (vs.eraseIdx j) [vy] g' (gy ++ []) q3 (.cons q2 .nil) (fun b m => List.mem_append_left _ (q4 b (by rw [List.append_nil] at m; exact m))) (fun n => by rw [List.append_nil]; exact q5 (List.nodup_append.mp n).1) (nopks_del j npl) (by show (nopk y && true) = true; rw [nopks_get npl hy]; rfl)
        obtain ⟨vy', e2, ry⟩ := rs1 p4
        cases e2
        obtain ⟨b1, b2, b3⟩ := ix63 hj hc
        refine ⟨a0, vs, k0, j, vy, rfl, rfl, hb, b1, b2, by rw [← rs.length]; exact b3, q1, ?_⟩
        unfold toP at hq
        rw [p1] at hq
        exact k y _ hq vy F2 _ (gy ++ []) gg ⟨p9, p10, g12.eF, p3, fun a h1 h2 => .inr (g12.new a h1 h2), ry, p5, p6, p7, p8, nopks_get npl hy, np.set (fun d z => by cases z; exact p2), p11⟩
  · rw [if_neg hc] at hq
    exact hq.elim
theorem ss_popS (x : Nat) (p : Pth) (a : Exp) : SS G xi (.popS x p a) := by
  intro c W X st g h
  rw [chkS.eq_def] at h
  dsimp only at h
  split at h
  · rename_i y p0 o f l e q pos
    simp only [Bool.and_eq_true, beq_iff_eq] at h
    obtain ⟨⟨⟨⟨h0, h1⟩, h2⟩, h3⟩, h4⟩ := h
    subst h2
    obtain ⟨k1, k2, k3⟩ := lof g h0
    have hs : starEach [e] X.env = (false, eval e X.env) :: starEach [] X.env := star_cons _ _ _ (chk_star a h3)
    have hl : (l.endLine == q.line) = true := by rw [h4]; exact beq_self_eq_true _
    refine (ps_set g.nd k1 k2 (pe_bm PySem.F.plainAttrs_list PySem.F.slot_list_pop PySem.F.type_list_pop mt_popAt (se_pth p g.toGood h1) (pa_cons ((all_e G xi a).se g.toGood h3) pa_nil hs) (nam_base (pth_name h1)) (by rw [hs]; rfl) hl hs rfl) (noswap _ _ _ _ rfl) k3).imp3 fun E σ H hq => ?_
    obtain ⟨env, F, fp, w, np, hq⟩ := hq
    rw [exec] at hq
    refine pop_rd w np hq fun y env' hq vy F' H' fr gg o => ?_
    obtain ⟨g2, q1, q2, q3⟩ := o.put x
    exact hq _ _ _ _ q1 q2 q3
  · cases h
theorem ss_popA (y : Nat) (p : Pth) (a : Exp) : SS G xi (.popA y p a) := by
  intro c W X st g h
  rw [chkS.eq_def] at h
  dsimp only at h
  split at h
  · rename_i n pn f l o f2 l2 e q2 q pos
    simp only [Bool.and_eq_true, beq_iff_eq] at h
    obtain ⟨⟨⟨⟨⟨⟨h0, hf⟩, h1⟩, h2⟩, h3⟩, h4⟩, h5⟩ := h
    subst hf
    subst h2
    obtain ⟨v1, v2, v3, v4⟩ := g.toGood.vis h0
    have hs : starEach [e] X.env = (false, eval e X.env) :: starEach [] X.env := star_cons _ _ _ (chk_star a h3)
    have hl : (l.endLine == q.line) = true := by rw [h4]; exact beq_self_eq_true _
    have hl2 : (l2.endLine == q2.line) = true := by rw [h5]; exact beq_self_eq_true _
    have pop := pe_bm (X := X) PySem.F.plainAttrs_list PySem.F.slot_list_pop PySem.F.type_list_pop mt_popAt (se_pth p g.toGood h1) (pa_cons ((all_e G xi a).se g.toGood h3) pa_nil hs) (nam_base (pth_name h1)) (by rw [hs]; rfl) hl2 hs rfl
    have hs2 : starEach [.Call (.Attribute o "pop" l2) [e] [] q2] X.env = (false, eval (.Call (.Attribute o "pop" l2) [e] [] q2) X.env) :: starEach [] X.env := rfl
    refine (ps_expr (pe_bm PySem.F.plainAttrs_list PySem.F.slot_list_append PySem.F.type_list_append mt_append (pe_var (i := y) v1 v2 v3 v4) (pa_cons pop pa_nil hs2) rfl (by rw [hs2]; rfl) hl hs2 rfl) rfl).imp3 fun E σ H hq => ?_
    obtain ⟨env, F, fp, w, np, hq⟩ := hq
    rw [exec] at hq
    cases hx0 : (env[y]?).bind id with
    | none => rw [hx0] at hq; exact hq.elim
    | some dx =>
      rw [hx0] at hq
      obtain ⟨m1, m2⟩ := mem_of_slot hx0
      obtain ⟨vx, gx, hv, rx, _⟩ := w.es.get m1
      cases dx <;> try (exact hq.elim)
      rename_i fl ds0
      cases fl <;> try (exact hq.elim)
      obtain ⟨a0, vs0, g0, rfl, ha0, _, _⟩ := rx.lst' w.sub
      refine ⟨_, hv, .inl ⟨rfl, _, SqL.of ha0⟩, ?_⟩
      dsimp only at hq
      refine pop_rd w np hq fun z env' hq vz F' H' fr gg o => ?_
      cases hx : (env'[y]?).bind id with
      | none => rw [hx] at hq; exact hq.elim
      | some dy =>
        rw [hx] at hq
        cases dy <;> try (exact hq.elim)
        rename_i fl es
        cases fl <;> try (exact hq.elim)
        dsimp only at hq
        unfold chkR at hq
        by_cases hc : es.length < 1000000
        · rw [if_pos hc] at hq
          obtain ⟨b, vs, e1, hb, hlen, mk⟩ := OutP.mut o (slot_own hx)
          rw [hv] at e1
          cases e1
          have hnd : nopks es = true := by
            have z := o.npe _ (mem_of_slot hx).2
            rw [nopk] at z
            exact (Bool.and_eq_true_iff.mp z).2
          obtain ⟨g3, q1, q2, q3⟩ := mk (es ++ [z]) (vs ++ [vz]) (fun g rs => ⟨g ++ (fr ++ []), rs.app (.cons o.r .nil), fun b m => by rw [List.append_nil] at m; exact m, fun n => by rw [List.append_nil]; exact n⟩) (nopks_app hnd (by show (nopk z && true) = true; rw [o.np]; rfl))
          exact ⟨a0, vs, vz, rfl, rfl, hb, by rw [← hlen, sizeLine_eq]; omega, hq _ _ _ _ q1 q2 q3⟩
        · rw [if_neg hc] at hq
          exact hq.elim
  · cases h
end
end L3

set_option maxRecDepth 100000
set_option maxHeartbeats 4000000
/-! L3.Stm7: a number put behind each list of a list. -/
namespace L3
open PySem PySem.Spec PyProof.Rows L2
variable [TbC]

def appD (k : Int) : D → D
  | .lst .own es => .lst .own (es ++ [.int k])
  | d => d
/-- the first i are done -/
def appN (k : Int) (ds : List D) (i : Nat) : List D := ds.mapIdx fun j d => if j < i then appD k d else d
theorem appN_get (k : Int) (ds : List D) (i j : Nat) : (appN k ds i)[j]? = (ds[j]?).map fun d => if j < i then appD k d else d := by
  unfold appN
  rw [List.getElem?_mapIdx]
theorem appN_0 (k : Int) (ds : List D) : appN k ds 0 = ds := by
  apply List.ext_getElem?
  intro j
  rw [appN_get]
  cases ds[j]? <;> simp
theorem appN_len (k : Int) (ds : List D) (i : Nat) : (appN k ds i).length = ds.length := by
  unfold appN
  rw [List.length_mapIdx]
theorem appN_set {k : Int} {ds : List D} {i : Nat} {c : D} (h : ds[i]? = some c) : (appN k ds i).set i (appD k c) = appN k ds (i + 1) := by
  have hi : i < ds.length := (List.getElem?_eq_some_iff.mp h).1
  apply List.ext_getElem?
  intro j
  rw [List.getElem?_set, appN_get, appN_get, appN_len]
  by_cases e : i = j
  · subst e
    rw [if_pos rfl, if_pos hi, h]
    simp
  · rw [if_neg e]
    have : (j < i) ↔ (j < i + 1) := by omega
    simp [this]
theorem appAll_some {k : Int} : ∀ {ds ds' : List D}, appAll k ds = some ds' → ds' = appN k ds ds.length ∧ ∀ d ∈ ds, ∃ es, d = .lst .own es ∧ es.length < 1000000
  | [], ds', h => by
    cases h
    exact ⟨rfl, fun d m => absurd m List.not_mem_nil⟩
  | d :: r, ds', h => by
    unfold appAll at h
    cases d <;> try (cases h)
    rename_i f es
    cases f <;> try (cases h)
    obtain ⟨h1, h2⟩ := chkO_some h
    cases hr : appAll k r with
    | none => rw [hr] at h2; cases h2
    | some s =>
      rw [hr] at h2
      cases h2
      obtain ⟨q1, q2⟩ := appAll_some hr
      refine ⟨?_, fun d m => ?_⟩
      · rw [q1]
        apply List.ext_getElem?
        intro j
        rw [appN_get]
        cases j with
        | zero => simp [appD]
        | succ j =>
          rw [List.getElem?_cons_succ, List.getElem?_cons_succ, appN_get]
          simp
      · rcases List.mem_cons.mp m with m | m
        · exact ⟨es, m, h1⟩
        · exact q2 d m
section
variable {G : Tab} {xi : Xi}
/-- where a loop over the lists stands -/
structure ApW (K : Kx) (F H1 : Hp) (k : Int) (ds : List D) (vs : List V) (gi : List Addr) (a : Addr) (i : Nat) (H : Hp) : Prop where
  rs : ∃ g', Rs K F H (appN k ds i) vs g' ∧ g'.Nodup ∧ (∀ b ∈ g', b ∈ gi)
  np : nopks (appN k ds i) = true
  la : H a = some (.lst vs)
  kp : ∀ b o, b ∉ gi → H1 b = some o → H b = some o
  tx : Tx H1 H
  sub : Ex F H
  hi : HI K H
theorem ss_forA (x : Nat) (p : Pth) (k : Int) : SS G xi (.forA x p k) := by
  intro c W X st g h
  rw [chkS.eq_def] at h
  dsimp only at h
  split at h
  · rename_i y py iter z pz f l e q ps pos
    simp only [Bool.and_eq_true, beq_iff_eq, Bool.not_eq_true', beq_eq_false_iff_ne] at h
    obtain ⟨⟨⟨⟨⟨⟨⟨h0, h1⟩, h2⟩, h3⟩, h4⟩, h5⟩, h6⟩, h7⟩ := h
    subst h4
    have hl : (l.endLine == q.line) = true := by rw [h6]; exact beq_self_eq_true _
    have he : ∃ j2 p2, e = .Constant (.int k) j2 p2 := by
      rw [chkE.eq_def] at h5
      dsimp only at h5
      split at h5
      · have e := of_decide_eq_true h5
        subst e
        exact ⟨_, _, rfl⟩
      · cases h5
    obtain ⟨j2, p2, rfl⟩ := he
    obtain ⟨v1, v2, v3, v4⟩ := g.toGood.vis h3
    have hs : starEach [.Constant (.int k) j2 p2] X.env = (false, eval (.Constant (.int k) j2 p2) X.env) :: starEach [] X.env := rfl
    have body := pss_cons (st := .Expr (.Call (.Attribute (.Name z pz) "append" l) [.Constant (.int k) j2 p2] [] q) ps) (ps_expr (pos := ps) (pe_bm (X := X) PySem.F.plainAttrs_list PySem.F.slot_list_append PySem.F.type_list_append mt_append (pe_var (i := x) v1 v2 v3 v4) (pa_cons (pe_int (i := k) (j := j2) (pos := p2)) pa_nil hs) rfl (by rw [hs]; rfl) hl hs rfl) rfl) pss_nil
    refine (ps_for (g.pas h0) (g.cm h0) (pi_list (se_pth p g.toGood h1)) (pg_of g.fnc g.N g.sc g.nd (g.cm h0) h2) body (fold_none _ _ ?_)).imp3 fun E σ H hq => ?_
    · cases iter <;> first | rfl | (exfalso; cases p <;> (unfold chkP at h1; exact absurd h1 Bool.false_ne_true))
    obtain ⟨env, F, fp, w, np, hq⟩ := hq
    rw [exec] at hq
    refine rdP_at w np hq (Gr.refl w.sub) fun is d ds hx hq v H1 F1 g1 z => ?_
    cases ha : chkO (x < env.length) (appAll k ds) with
    | none => rw [ha] at hq; exact hq.elim
    | some ds' =>
      rw [ha] at hq
      simp only [someOk_some, Res.out_ok] at hq
      obtain ⟨hxl, ha⟩ := chkO_some ha
      obtain ⟨e1, e2⟩ := appAll_some ha
      obtain ⟨v0, g0, gl, fp2, z1, z2, z3, z4, z5, z6⟩ := z.ex
      have w1 := w.gr g1
      have npd : nopk d = true := np d (List.mem_of_getElem? z1)
      have npl : nopks ds = true := by
        have := z3.np npd
        rw [nopk, Bool.and_eq_true] at this
        exact this.2
      have rl := z3.rl
      cases rl with
      | @lst _ _ a vs gi _ rs la =>
        obtain ⟨la, rfl⟩ := la
        have n6 := List.nodup_append.mp z6
        have ngl := n6.1.sublist z3.sb
        have ngc := List.nodup_cons.mp ngl
        have sub := z3.sb.subset
        have ag0 : a ∈ g0 := sub List.mem_cons_self
        have gif : ∀ b ∈ gi, b ∈ g0 := fun b m => sub (List.mem_cons_of_mem _ m)
        have g0f : ∀ b ∈ g0, b ∈ fp := fun b m => z5 b (List.mem_append_left _ m)
        have fp2f : ∀ b ∈ fp2, b ∈ fp := fun b m => z5 b (List.mem_append_right _ m)
        have hlen := rs.length
        refine ⟨a, rfl, ⟨vs, SqL.of la⟩, fun i m σ3 H3 => m = ds.length - i ∧ i ≤ ds.length ∧ ApW ⟨X.K, xi⟩ F1 H1 k ds vs gi a i H3 ∧ (σ3 = σ ∨ ∃ o, σ3 = σ.set x o), ⟨_, rfl, Nat.zero_le _, ⟨⟨gi, by rw [appN_0]; exact rs, ngc.2, fun b m => m⟩, by rw [appN_0]; exact npl, la, fun b o _ e => e, Tx.refl _, w1.sub, w1.hi⟩, .inl rfl⟩, ?_⟩
        rintro i m σ3 H3 ⟨rfl, hi, A, hσ⟩
        by_cases hlt : i < ds.length
        · have hc : ds[i]? = some ds[i] := List.getElem?_eq_getElem hlt
          obtain ⟨es, ec, el⟩ := e2 _ (List.getElem_mem hlt)
          rw [ec] at hc
          have hci : (appN k ds i)[i]? = some (.lst .own es) := by rw [appN_get, hc]; simp
          obtain ⟨g', r1, r2, r3⟩ := A.rs
          obtain ⟨vj, gj, q1, q2, q3, q4⟩ := r1.focus hci
          refine .inr ⟨⟨vs, vj, .inl (.inl A.la), q1⟩, _, fun σ' H' hw => ⟨ds.length - (i + 1), by omega, hw⟩, fun x5 H5 yl => ?_⟩
          obtain ⟨rfl, yl⟩ := yl
          have yl := yl vs (.inl (.inl A.la))
          rw [q1] at yl
          cases yl
          cases q2 with
          | @lst _ _ b us gb _ rb lb =>
            obtain ⟨lb, rfl⟩ := lb
            have nb : b ∈ gi := r3 b (q3.subset List.mem_cons_self)
            have nab : a ≠ b := fun e => ngc.1 (e ▸ nb)
            have nbs := List.nodup_cons.mp (r2.sublist q3)
            have tx : Tx H5 (upd H5 b (.lst (us ++ [.int k]))) := Tx.mut lb
            have kp : ∀ b' o, b' ≠ b → H5 b' = some o → upd H5 b (.lst (us ++ [.int k])) b' = some o := fun b' o hne e => by rw [upd_ne hne]; exact e
            have offb : F1 b = none := w1.off b (g0f b (gif b nb))
            have npi : nopk (.lst .own es) = true := nopks_get A.np hci
            rw [nopk, Bool.and_eq_true] at npi
            have rb' : R ⟨X.K, xi⟩ F1 (upd H5 b (.lst (us ++ [.int k]))) (.lst .own (es ++ [.int k])) (.ref b) (b :: (gb ++ ([] ++ []))) := .lst ((Rs.keeps tx rb npi.2 fun b' o m e => kp b' _ (fun z => nbs.1 (z ▸ m)) e).app (.cons (.int k) .nil)) ⟨upd_same, rfl⟩
            obtain ⟨g2, s1, s2, s3, s4⟩ := q4 F1 _ (.lst .own (es ++ [.int k])) (b :: (gb ++ ([] ++ []))) (Ex.refl _) tx (fun b' o m n e => kp b' _ (fun z => n (z ▸ List.mem_cons_self)) e) rb' A.np r2
            have esz : us.length < 1000000 := by rw [← rb.length]; exact el
            have hx5 : x < σ3.length := by
              rcases hσ with rfl | ⟨o, rfl⟩
              · rw [← w.es.length]; exact hxl
              · rw [List.length_set, ← w.es.length]; exact hxl
            refine ⟨.ref b, by rw [List.getElem?_set_self hx5], .inl ⟨rfl, _, SqL.of lb⟩, ⟨b, us, .int k, rfl, rfl, lb, by rw [sizeLine_eq]; omega, rfl, hlt, ?_, ?_⟩⟩
            · have hset : (appN k ds i).set i (.lst .own (es ++ [.int k])) = appN k ds (i + 1) := appN_set hc
              rw [hset] at s1 s4
              refine ⟨⟨g2, s1, ?_, fun b' m => ?_⟩, s4 ?_, ?_, fun b' o n e => kp b' o (fun z => n (z ▸ nb)) (A.kp b' o n e), A.tx.trans tx, A.sub.mut lb offb, A.hi.mut lb⟩
              · refine s3 ?_ fun b' m _ => ?_
                · rw [List.append_nil]
                  simpa using List.nodup_cons.mpr nbs
                · simpa using m
              · rcases s2 b' m with m | m
                · exact r3 b' (q3.subset (by simpa using m))
                · exact r3 b' m.1
              · rw [nopk, nopks_app npi.2 rfl]
                rfl
              · rw [upd_ne nab]
                exact A.la
            · rcases hσ with rfl | ⟨o, rfl⟩
              · exact .inr ⟨_, rfl⟩
              · exact .inr ⟨_, List.set_set ..⟩
        · have hin : i = ds.length := by omega
          subst hin
          refine .inl ⟨⟨vs, .inl (.inl A.la), by omega⟩, ?_⟩
          obtain ⟨g', r1, r2, r3⟩ := A.rs
          rw [← e1] at r1
          have npn := A.np
          rw [← e1] at npn
          have agn : a ∉ g' := fun m => ngc.1 (r3 a m)
          have leaf : R ⟨X.K, xi⟩ F1 H3 (.lst .own ds') (.ref a) (a :: g') := .lst r1 ⟨A.la, rfl⟩
          obtain ⟨d', g2, p1, p2, p3, p4, p5⟩ := z3.up F1 H3 _ _ (Ex.refl _) A.tx (fun b o m n e => A.kp b _ (fun q => n (List.mem_cons_of_mem _ q)) e) leaf npd n6.1
          have npd' : nopk d' = true := p5 (by rw [nopk, npn]; rfl)
          have es3 := Es.keep (H' := H3) (Ex.refl F1) A.tx z4 (np.set fun d z => by cases z) fun b o m e => A.kp b _ (fun q => n6.2.2 b (gif b q) b m rfl) e
          obtain ⟨gg, q1, q2, q3⟩ := Es.put p2 p.slot es3
          rw [List.set_set, set_self z2] at q1
          have m2 : ∀ b ∈ g2, b ∈ g0 := fun b m => by
            rcases p3 b m with m | m
            · rcases List.mem_cons.mp m with m | m
              · exact m ▸ ag0
              · exact gif b (r3 b m)
            · exact m.1
          have ng2 : g2.Nodup := p4 (List.nodup_cons.mpr ⟨agn, r2⟩) fun b m _ => by
            rcases List.mem_cons.mp m with m | m
            · exact m ▸ List.mem_cons_self
            · exact List.mem_cons_of_mem _ (r3 b m)
          have ngg : gg.Nodup := q3 (List.nodup_append.mpr ⟨ng2, n6.2.1, fun b m c m' e => n6.2.2 b (m2 b m) c m' e⟩)
          have mgg : ∀ b ∈ gg, b ∈ fp := fun b m => (q2 b m).elim (fun m => g0f b (m2 b m)) (fp2f b)
          obtain ⟨gx, x1, x2⟩ : ∃ gx, Es ⟨X.K, xi⟩ F1 H3 ((env.set p.slot (some d')).set x none) σ3 gx ∧ gx.Sublist gg := by
            rcases hσ with rfl | ⟨o, rfl⟩
            · cases e : σ3[x]? with
              | none =>
                have := List.getElem?_eq_none_iff.mp e
                rw [← w.es.length] at this
                omega
              | some o =>
                obtain ⟨gx, x1, x2⟩ := Es.drop x o q1
                rw [set_self e] at x1
                exact ⟨gx, x1, x2⟩
            · exact Es.drop x o q1
          unfold toP at hq
          rw [p1] at hq
          refine hq σ3 H3 F1 gx ⟨A.sub, x1, ngg.sublist x2, fun b m => w1.off b (mgg b (x2.subset m)), A.hi⟩ ((np.set fun d z => by cases z; exact npd').set fun d z => by cases z) ⟨fun b o ib e n => A.kp b _ (fun q => n (g0f b (gif b q))) (g1.eH.k b o ib e), g1.eF, fun b h1 h2 => .inr (g1.new b h1 h2), fun b m => .inl (mgg b (x2.subset m)), g1.eH.tx.trans A.tx⟩
  · cases h
end
end L3

set_option maxRecDepth 100000
set_option maxHeartbeats 4000000
/-! L3.Stm8: an item taken out of a list; the first item that a test holds of. -/
namespace L3
open PySem PySem.Spec PyProof.Rows L2
variable [TbC]

def rRemD (K : PySem.W.Frag) : V → List V → Hp → VK → Prop := fun x xs H Q => ∃ (a : Addr) (y : V) (vs : List V) (d : PyData) (ds : List PyData) (j : Nat) (z : PyData), x = V.ref a ∧ xs = [y] ∧ H a = some (.lst vs) ∧ DpAll K H vs ds ∧ Dp K H y d ∧
  SeqAt.shaped (.list ds) = true ∧ SeqAt.shaped d = true ∧ vs.length ≤ sizeLine ∧ ds[j]? = some z ∧ PyData.eqv z d = true ∧ (∀ (m : Nat) (z' : PyData), m < j → ds[m]? = some z' → PyData.eqv z' d = false) ∧ Q .non (upd H a (.lst (vs.eraseIdx j)))
theorem mt_removeD {X : Cx} (hu : X.A.units + 65 < cLine) : MtM X "list.remove" (rRemD X.K) := by
  intro pins s σ H x xs v us Q I rx rxs h
  obtain ⟨a, y, vs, d, ds, j, z, rfl, rfl, hH, ha, hy, sl, sd, hz0, hz, hzj, hno, q⟩ := h
  cases rx
  obtain ⟨uy, rfl, ry⟩ := rxs.one
  obtain ⟨bs, r1⟩ := Dp.reads I d y uy hy ry
  have hxs : PyData.canLayAll0 ds = true := SeqAt.canLay_of_shaped sl
  have hroom : X.A.units + 1 + min (PyData.depthAll ds) d.depth < cLine := room_in_shaped sd hu
  obtain ⟨zz, its, n, r, hl, e⟩ := I.lstM hH
  obtain ⟨as, h4⟩ := Dp.readsAll I ds _ its ha r
  have hn : its.length = ds.length := SeqAt.ReadsAll.length ds its as h4
  have hmap : its.map (SeqAt.readOf s.heap) = ds := SeqAt.readsAll_map ds its as hxs h4
  obtain ⟨hjd, _⟩ := List.getElem?_eq_some_iff.mp hz
  have hjl : j < its.length := by omega
  have hj : j < its.toArray.size := by simpa using hjl
  have at_ : ∀ (m : Nat) (hm : m < its.toArray.size) (z' : PyData), ds[m]? = some z' → SeqAt.readOf s.heap its.toArray[m] = z' := by
    intro m hm z' hz'
    have hml : m < its.length := by simpa using hm
    rw [← hmap, List.getElem?_map, List.getElem?_eq_getElem hml] at hz'
    have e1 : SeqAt.readOf s.heap its[m] = z' := Option.some.inj (show some (SeqAt.readOf s.heap its[m]) = some z' from hz')
    simpa using e1
  refine call_meets PySem.F.slot_list_remove ⟨_, e, rfl⟩ PySem.F.entry_list_remove (PySem.F.args_list_remove_2 _ _)
    (SeqAt.list_removeAt a its.toArray n none #[] uy (fun u => PyData.eqv (SeqAt.readOf s.heap u) d) j hj ?_ ?_ (by rw [List.size_toArray, ← hl]; exact hz0)) ⟨e, SeqAt.items_eqAt (vs := its.toArray) (show ReadsAll s.heap its.toArray.toList ds as from h4) r1 hxs (SeqAt.canLay_of_shaped sd) hroom, ?_⟩
  · show PyData.eqv (SeqAt.readOf s.heap its.toArray[j]) d = true
    rw [at_ j hj z hz]
    exact hzj
  · intro m hm hmj
    have hmd : m < ds.length := by omega
    have hz' : ds[m]? = some ds[m] := List.getElem?_eq_getElem hmd
    show PyData.eqv (SeqAt.readOf s.heap its.toArray[m]) d = false
    rw [at_ m hm _ hz']
    exact hno m _ hmj hz'
  · refine ⟨.non, _, I.lset (its' := its.eraseIdx j) (t' := s.toks) hH e ?_ (r.eraseIdx j) ?_, rfl, q⟩
    · show its.toArray.eraseIdxIfInBounds j = (its.eraseIdx j).toArray
      rw [List.eraseIdxIfInBounds_toArray]
    · have := List.length_eraseIdx_le vs j
      omega
section
variable {G : Tab} {xi : Xi}
theorem ss_remS (p : Pth) (a : Exp) : SS G xi (.remS p a) := by
  intro c W X st g h
  rw [chkS.eq_def] at h
  dsimp only at h
  split at h
  · rename_i o f l e q pos
    simp only [Bool.and_eq_true, beq_iff_eq] at h
    obtain ⟨⟨⟨h1, h2⟩, h3⟩, h4⟩ := h
    subst h2
    have hs : starEach [e] X.env = (false, eval e X.env) :: starEach [] X.env := star_cons _ _ _ (chk_star a h3)
    have hl : (l.endLine == q.line) = true := by rw [h4]; exact beq_self_eq_true _
    have hu : X.A.units + 65 < cLine := by have := g.hu; omega
    refine (ps_expr (pe_bm PySem.F.plainAttrs_list PySem.F.slot_list_remove PySem.F.type_list_remove (mt_removeD hu) (se_pth p g.toGood h1) (pa_cons ((all_e G xi a).se g.toGood h3) pa_nil hs) (nam_base (pth_name h1)) (by rw [hs]; rfl) hl hs rfl) rfl).imp3 fun E σ H hq => ?_
    obtain ⟨env, F, fp, w, np, hq⟩ := hq
    rw [exec] at hq
    refine rdP_at w np hq (Gr.refl w.sub) fun is d ds hx hq v H1 F1 g1 z => ?_
    obtain ⟨a0, vs0, rfl, ha0, _⟩ := z.leaf
    refine ⟨.inl ⟨rfl, _, SqL.of ha0⟩, ?_⟩
    refine rdE_at w np hq g1 fun y hq u H2 F2 fr o => ?_
    have o' := o.comp g1.eH g1.eF g1.sub g1.new fun a m => absurd m List.not_mem_nil
    unfold chkR at hq
    by_cases hc : cmpOks 59 ds = true ∧ cmpOk 60 y = true ∧ ds.length ≤ 1000000
    · rw [if_pos hc] at hq
      simp only [Res.out_ok] at hq
      obtain ⟨c1, c2, c3⟩ := hc
      cases ei : ixD y ds with
      | none => rw [ei] at hq; exact hq.elim
      | some j =>
        rw [ei] at hq
        simp only [someOk_some, Res.out_ok] at hq
        have g12 := g1.trans o.gr
        obtain ⟨v0, b, vs, gi, e1, hb, hv0, rs, npl, _⟩ := Zd.mut (fr := []) w np g12 (z.mono o.eF o.eH) List.nodup_nil (fun a m => absurd m List.not_mem_nil) (fun a m => absurd m List.not_mem_nil)
        cases e1
        obtain ⟨b2, vs2, e2, hb2, hl2, npl2, kk⟩ := Zd.mut0 (fr := []) (E := E) (W := W) (mg := X.mg) w np g12 (z.mono o.eF o.eH) List.nodup_nil (fun a m => absurd m List.not_mem_nil) (fun a m => absurd m List.not_mem_nil)
        cases e2
        rw [hb] at hb2
        cases hb2
        obtain ⟨⟨zx, z1, z2⟩, z3⟩ := ixD_some ei
        have hc1 : cmpOk 60 (.lst .own ds) = true := c1
        refine ⟨a0, u, vs, py y, pys ds, j, py zx, rfl, rfl, hb, rs.dp o.sub c1, o.r.dp o.sub c2, cmpOk_shaped hc1, cmpOk_shaped c2, by rw [← rs.length, sizeLine_eq]; omega, by rw [pys_get, z1]; rfl, z2, fun m z' hm hz => ?_, ?_⟩
        · rw [pys_get] at hz
          cases hx : ds[m]? with
          | none => rw [hx] at hz; cases hz
          | some x =>
            rw [hx] at hz
            cases hz
            exact z3 m x hm hx
        · refine kk (ds.eraseIdx j) (vs.eraseIdx j) (fun gi rs => ?_) (nopks_del j npl) hq
          obtain ⟨vy, gy, g', q1, q2, q3, q4, q5⟩ := rs.del z1
          exact ⟨g', q3, fun b m => by rw [List.append_nil]; exact q4 b (List.mem_append_right _ m), fun n => by rw [List.append_nil] at n; exact (List.nodup_append.mp (q5 n)).2.1⟩
    · rw [if_neg hc] at hq
      exact hq.elim
  · cases h
theorem ss_forI (x v : Nat) (d e : Exp) : SS G xi (.forI x v d e) := by
  intro c W X st g h
  rw [chkS.eq_def] at h
  dsimp only at h
  split at h
  · rename_i y py iter t r pr pi pos
    simp only [Bool.and_eq_true] at h
    obtain ⟨⟨⟨⟨⟨h0, h1⟩, h2⟩, h3⟩, h4⟩, h5⟩ := h
    refine (ps_for (g.pas h0) (g.cm h0) (pi_list ((all_e G xi (.var v)).se g.toGood h1)) (pg_of g.fnc g.N g.sc g.nd (g.cm h0) h2)
      (pss_cons (st := .If t [.Return (some r) pr] [] pi) (ps_if ((all_e G xi d).st h3 g.toGood h4) (pss_cons (st := .Return (some r) pr) (ps_ret ((all_e G xi e).se g.toGood h5)) pss_nil) pss_nil) pss_nil) (fold_none _ _ (chk_noset (.var v) h1))).imp3 fun E σ H hq => ?_
    obtain ⟨env, F, fp, w, np, hq⟩ := hq
    rw [exec] at hq
    refine ⟨env, F, fp, w, ?_⟩
    rw [ev]
    cases hx : (env[v]?).bind id with
    | none => rw [hx] at hq; exact hq.elim
    | some dv =>
      rw [hx] at hq
      cases dv <;> try (exact hq.elim)
      rename_i f ds
      intro vv H1 F1 fr o
      have key : ∃ a vs, vv = .ref a ∧ H1 a = some (.lst vs) ∧ Rs ⟨X.K, xi⟩ F1 H1 (peeks ds) vs [] := by
        have r := o.r
        have r : R ⟨X.K, xi⟩ F1 H1 (.lst f.peek (peeks ds)) vv fr := r
        cases r with
        | @lst _ _ a vs g0 _ rs la =>
          cases f with
          | own => obtain ⟨l1, rfl, rfl⟩ := la; exact ⟨a, vs, rfl, l1, rs⟩
          | lk => obtain ⟨l1, rfl, rfl⟩ := la; exact ⟨a, vs, rfl, l1, rs⟩
          | fz => obtain ⟨l1, rfl, rfl⟩ := la; exact ⟨a, vs, rfl, o.sub.lst l1, rs⟩
          | pk => obtain ⟨l1, rfl, rfl⟩ := la; exact ⟨a, vs, rfl, l1, rs⟩
      obtain ⟨a, vs, rfl, la, rs⟩ := key
      dsimp only at hq
      unfold chkR at hq
      by_cases hxv : x < env.length ∧ x ≠ v
      · rw [if_pos hxv] at hq
        simp only [Res.out_ok] at hq
        have w1 := w.next o.eH o.eF o.sub o.new
        obtain ⟨g7, w7, sb7⟩ := w1.forgets [x]
        have w7 : Wd ⟨X.K, xi⟩ F1 H1 (env.set x none) σ g7 := w7
        have p7 : Pst F H fp F1 H1 g7 := .trans (.of_ex o.eH o.eF o.new fun a m => .inl m) (.less sb7)
        have q0 := OutW.mono hq p7
        clear hq
        have npx : npE (env.set x none) := np.set fun d z => by cases z
        refine ⟨a, rfl, ⟨vs, SqL.of la⟩, fun i m σ3 H3 => m = ds.length - i ∧ i ≤ ds.length ∧ ∃ F3 fp3, Wd ⟨X.K, xi⟩ F3 H3 (env.set x none) σ3 fp3 ∧ Rs ⟨X.K, xi⟩ F3 H3 (peeks ds) vs [] ∧ H3 a = some (.lst vs) ∧
          OutW ⟨X.K, xi⟩ X.mg W (fiGo (fun q => (ev G d (env.set x (some q))).bind asB) (fun q => ev G e (env.set x (some q))) (env.set x none) (.nx (env.set x none)) (ds.drop i)) F3 H3 fp3 E, ⟨_, rfl, Nat.zero_le _, F1, g7, w7, rs, la, q0⟩, ?_⟩
        rintro i m σ3 H3 ⟨rfl, hi, F3, fp3, w3, rs3, la3, q3⟩
        have hlen : ds.length = vs.length := by
          have := rs3.length
          rw [peeks_map, List.length_map] at this
          exact this
        by_cases hlt : i < ds.length
        · have hd : (peeks ds)[i]? = some (peek ds[i]) := by rw [peeks_map, List.getElem?_map, List.getElem?_eq_getElem hlt]; rfl
          obtain ⟨vi, hvi, ri⟩ := rs3.get0 hd
          rw [List.drop_eq_getElem_cons hlt, fiGo] at q3
          refine .inr ⟨⟨vs, vi, .inl (.inl la3), hvi⟩, _, fun σ' H' hw => ⟨ds.length - (i + 1), by omega, hw⟩, fun x5 H5 yl => ?_⟩
          obtain ⟨rfl, yl⟩ := yl
          have yl := yl vs (.inl (.inl la3))
          rw [hvi] at yl
          cases yl
          unfold chkR at q3
          by_cases hnp : nopk (peek ds[i]) = true
          · rw [if_pos hnp] at q3
            simp only [Res.out_ok] at q3
            have eb : bindT (.one x) (peek ds[i]) (env.set x none) = some (env.set x (some (peek ds[i]))) := by
              show some ((env.set x none).set x (some (peek ds[i]))) = _
              rw [List.set_set]
            refine gTg_of (K := ⟨X.K, xi⟩) (tg := .one x) eb ri w3.es w3.nd fun σ5 fp5 es5 nd5 sb5 _ => ?_
            have w5 : Wd ⟨X.K, xi⟩ F3 H5 (env.set x (some (peek ds[i]))) σ5 fp5 := ⟨w3.sub, es5, nd5, fun a m => w3.off a (sb5 a m), w3.hi⟩
            have np5 : npE (env.set x (some (peek ds[i]))) := np.set fun d z => by cases z; exact hnp
            have p5 : Pst F3 H5 fp3 F3 H5 fp5 := ⟨fun a o _ h _ => h, Ex.refl _, fun a h1 h2 => absurd h1 h2, fun a m => .inl (sb5 a m), Tx.refl _⟩
            obtain ⟨g8, w8, sb8⟩ := w5.forgets [x]
            have w8 : Wd ⟨X.K, xi⟩ F3 H5 ((env.set x (some (peek ds[i]))).set x none) σ5 g8 := w8
            rw [List.set_set] at w8
            have p8 : Pst F3 H5 fp3 F3 H5 g8 := p5.trans (.less sb8)
            refine ⟨env.set x (some (peek ds[i])), F3, fp5, w5, ?_⟩
            cases ec : (ev G d (env.set x (some (peek ds[i])))).bind asB with
            | no => rw [ec] at q3; exact q3.elim
            | ex n =>
              rw [ec] at q3
              exact OutW.rai (OutW.mono q3 p8) w8 npx
            | ok b =>
              rw [ec] at q3
              simp only [Res.out_ok] at q3
              intro H6 F6 eH eF sub new
              have w9 := w5.next eH eF sub new
              have p9 : Pst F3 H5 fp5 F6 H6 fp5 := .of_ex eH eF new fun a m => .inl m
              cases b with
              | true =>
                rw [if_pos rfl] at q3 ⊢
                refine ⟨env.set x (some (peek ds[i])), F6, fp5, w9, ?_⟩
                obtain ⟨g10, w10, sb10⟩ := w9.forgets [x]
                have w10 : Wd ⟨X.K, xi⟩ F6 H6 ((env.set x (some (peek ds[i]))).set x none) σ5 g10 := w10
                rw [List.set_set] at w10
                cases ee : ev G e (env.set x (some (peek ds[i]))) with
                | no => rw [ee] at q3; exact q3.elim
                | ex n =>
                  rw [ee] at q3
                  exact OutW.rai (OutW.mono q3 ((p5.trans p9).trans (.less sb10))) w10 npx
                | ok y =>
                  rw [ee, Res.bind_ok] at q3
                  by_cases hy : nopk y = true
                  · rw [if_pos hy] at q3
                    simp only [Res.out_ok] at q3
                    intro v H' F' fr o2
                    exact q3 v H' F' fr o2.r o2.nd o2.off o2.sub hy ((p5.trans p9).trans (.of_ex o2.eH o2.eF o2.new fun a m => .inr ((o2.fresh a m).resolve_left List.not_mem_nil)))
                  · rw [if_neg hy] at q3
                    exact q3.elim
              | false =>
                rw [if_neg Bool.false_ne_true] at q3 ⊢
                obtain ⟨g10, w10, sb10⟩ := w9.forgets [x]
                have w10 : Wd ⟨X.K, xi⟩ F6 H6 ((env.set x (some (peek ds[i]))).set x none) σ5 g10 := w10
                rw [List.set_set] at w10
                exact ⟨rfl, hlt, F6, g10, w10, rs3.mono eF eH, eH.lst la3, OutW.mono q3 ((p5.trans p9).trans (.less sb10))⟩
          · rw [if_neg hnp] at q3
            exact q3.elim
        · have ed : ds.drop i = [] := List.drop_eq_nil_iff.mpr (by omega)
          rw [ed, fiGo] at q3
          exact .inl ⟨⟨vs, .inl (.inl la3), by omega⟩, q3 σ3 H3 F3 fp3 w3 npx (.refl _ _ _)⟩
      · rw [if_neg hxv] at hq
        exact hq.elim
  · cases h
end
end L3

set_option maxRecDepth 100000
set_option maxHeartbeats 4000000
/-! L3.Stm4: blocks, loops. -/
namespace L3
open PySem PySem.Spec PyProof.Rows L2
variable [TbC]

section
variable {G : Tab} {xi : Xi}
theorem sss_nil : SSs G xi .nil := by
  intro c W X st g h
  cases st with
  | cons s r => exact absurd (show false = true from h) Bool.false_ne_true
  | nil =>
    refine pss_nil.imp3 fun E σ H hq => ?_
    obtain ⟨env, F, fp, w, np, hq⟩ := hq
    rw [execs] at hq
    exact hq σ H F fp w np (.refl _ _ _)
theorem OutW.seq {K : Kx} {mg : Str → Option Value} {W : WX} {o : Out} {r : Stms} {F H : Hp} {fp : List Addr} {E : Ends} (h : OutW K mg W (o.bind (execs G r)) F H fp E) : OutW K mg W o F H fp { E with nx := rdSs K mg W G r E } := by
  cases o with
  | nx e => exact fun σ' H' F' fp' w np p => ⟨e, F', fp', w, np, OutW.mono h p⟩
  | bk e => exact h
  | ct e => exact h
  | rt d => exact h
  | ex n e => exact h
  | no => exact h
theorem sss_cons (s : Stm) (r : Stms) (ih : SS G xi s) (ihr : SSs G xi r) : SSs G xi (.cons s r) := by
  intro c W X st g h
  cases st with
  | nil => exact absurd (show false = true from h) Bool.false_ne_true
  | cons s0 r0 =>
    have h : (chkS c s s0 && chkSs c r r0) = true := h
    rw [Bool.and_eq_true] at h
    refine (pss_cons (ih g h.1) (ihr g h.2)).imp3 fun E σ H hq => ?_
    obtain ⟨env, F, fp, w, np, hq⟩ := hq
    rw [execs] at hq
    exact ⟨env, F, fp, w, np, OutW.seq hq⟩
theorem sss_frzv (i : Nat) (r : Stms) (ihr : SSs G xi r) : SSs G xi (.frzv i r) := by
  intro c W X st g h
  have h : chkSs c r st = true := h
  refine (ihr g h).imp3 fun E σ H hq => ?_
  obtain ⟨env, F, fp, w, np, hq⟩ := hq
  rw [execs] at hq
  cases hx : (env[i]?).bind id with
  | none => rw [hx] at hq; exact hq.elim
  | some d =>
    rw [hx] at hq
    obtain ⟨m1, m2⟩ := mem_of_slot hx
    obtain ⟨v, gv, fp', q1, q2, q3, q4, q5⟩ := w.es.take m1
    have n1 := List.nodup_append.mp (q5 w.nd)
    have eG : Ex F (addF F H gv) := addF_ex fun a m => w.off a (q4 a (List.mem_append_left _ m))
    have r2 := q2.frz eG (np d m2) fun a m => addF_in m
    obtain ⟨g2, s1, s2, s3⟩ := Es.put r2 i (q3.mono eG (Ex.refl _))
    rw [List.set_set, set_self q1] at s1
    have mem : ∀ a ∈ g2, a ∈ fp' := fun a m => (s2 a m).resolve_left List.not_mem_nil
    refine ⟨env.set i (some (frz d)), addF F H gv, g2, ⟨addF_sub w.sub fun a m => q2.has a m, s1, s3 n1.2.1, fun a m => ?_, w.hi⟩, np.set fun d' e => by cases e; exact nopk_frz d, OutW.mono hq ⟨fun a o _ h _ => h, eG, fun a h1 h2 => ?_, fun a m => .inl (q4 a (List.mem_append_right _ (mem a m))), Tx.refl _⟩⟩
    · rw [addF_out fun z => n1.2.2 a z a (mem a m) rfl]
      exact w.off a (q4 a (List.mem_append_right _ (mem a m)))
    · by_cases m : a ∈ gv
      · exact .inl (q4 a (List.mem_append_left _ m))
      · rw [addF_out m] at h2
        exact absurd h1 h2
theorem sss_forget (i : Nat) (r : Stms) (ihr : SSs G xi r) : SSs G xi (.forget i r) := by
  intro c W X st g h
  have h : chkSs c r st = true := h
  refine (ihr g h).imp3 fun E σ H hq => ?_
  obtain ⟨env, F, fp, w, np, hq⟩ := hq
  rw [execs] at hq
  obtain ⟨g2, w2, sb⟩ := w.forgets [i]
  exact ⟨env.set i none, F, g2, w2, np.set (fun d z => nomatch z), OutW.mono hq (.less sb)⟩
theorem ss_ifs (d : Exp) (a b : Stms) (iha : SSs G xi a) (ihb : SSs G xi b) : SS G xi (.ifs d a b) := by
  intro c W X st g h
  rw [chkS.eq_def] at h
  dsimp only at h
  split at h
  · simp only [Bool.and_eq_true] at h
    obtain ⟨⟨⟨h1, h2⟩, h3⟩, h4⟩ := h
    refine (ps_if ((all_e G xi d).st h1 g.toGood h2) (iha g h3) (ihb g h4)).imp3 fun E σ H hq => ?_
    obtain ⟨env, F, fp, w, np, hq⟩ := hq
    rw [exec] at hq
    refine rdT_out w np hq fun k hq H' F' eH eF sub new => ?_
    have w' := w.next eH eF sub new
    have p' : Pst F H fp F' H' fp := .of_ex eH eF new fun a m => .inl m
    cases k with
    | true =>
      rw [if_pos rfl] at hq ⊢
      exact ⟨env, F', fp, w', np, OutW.mono hq p'⟩
    | false =>
      rw [if_neg Bool.false_ne_true] at hq ⊢
      exact ⟨env, F', fp, w', np, OutW.mono hq p'⟩
  · cases h
/-! ### loops -/
theorem items_np {k : ItK} {ds xs : List D} (e : items k ds = some xs) (h : nopks ds = true) : ∀ x ∈ xs, nopk x = true := by
  have allInt : ∀ (n : Nat) (f : Nat → Int), ∀ x ∈ (List.range n).map (fun k => D.int (f k)), nopk x = true := fun n f x m => by
    obtain ⟨k, _, rfl⟩ := List.mem_map.mp m
    rfl
  unfold items at e
  split at e
  · cases e
    rw [nopks, nopk, Bool.and_eq_true, Bool.and_eq_true, nopks_all] at h
    exact fun x m => List.all_eq_true.mp h.1.2 x m
  · cases e
    rw [nopks, nopk, Bool.and_eq_true, nopks_all] at h
    exact fun x m => List.all_eq_true.mp h.1 x m
  · have e' := (chkO_some e).2
    cases e'
    intro x m
    obtain ⟨k, _, rfl⟩ := List.mem_map.mp m
    rfl
  · have e' := (chkO_some e).2
    cases e'
    exact allInt _ _
  · have e' := (chkO_some e).2
    cases e'
    exact allInt _ _
  · have e' := (chkO_some e).2
    cases e'
    exact allInt _ _
  · cases e
    rw [nopks, nopk, Bool.and_eq_true, Bool.and_eq_true, nopks_all] at h
    intro x m
    obtain ⟨i, hi⟩ := List.mem_iff_getElem?.mp m
    rw [enmD_get] at hi
    rename_i f zs
    cases hz : zs[i]? with
    | none => rw [hz] at hi; cases hi
    | some z =>
      rw [hz] at hi
      cases hi
      have z1 := List.all_eq_true.mp h.1.2 z (List.mem_of_getElem? hz)
      show (true && (nopk z && true)) = true
      rw [z1]
      rfl
  · have e' := (chkO_some e).2
    cases e'
    rw [nopks, nopks, nopk, nopk, Bool.and_eq_true, Bool.and_eq_true, Bool.and_eq_true, Bool.and_eq_true, nopks_all, nopks_all] at h
    intro x m
    obtain ⟨i, hi⟩ := List.mem_iff_getElem?.mp m
    obtain ⟨y, z, h1, h2, rfl⟩ := zipD_get _ _ _ _ hi
    have z1 := List.all_eq_true.mp h.1.2 y (List.mem_of_getElem? h1)
    have z2 := List.all_eq_true.mp h.2.1.2 z (List.mem_of_getElem? h2)
    show (nopk y && (nopk z && true)) = true
    rw [z1, z2]
    rfl
  · cases e
theorem ss_for (k : ItK) (its : Exps) (tg : Tg) (clr : List Nat) (b : Stms) (ihb : SSs G xi b) : SS G xi (.for_ k its tg clr b) := by
  intro c W X st g h
  rw [chkS.eq_def] at h
  dsimp only at h
  split at h
  · rename_i t iter body pos
    simp only [Bool.and_eq_true] at h
    obtain ⟨⟨⟨h0, h1⟩, h2⟩, h3⟩ := h
    have ii : ItIH G xi its := by
      cases its with
      | nil => trivial
      | cons a r => exact ⟨(all_e G xi a).se, all_a G xi r⟩
    obtain ⟨pi, hs⟩ := pi_of g.toGood h1 (all_a G xi its) ii
    refine (ps_for (g.pas h0) (g.cm h0) pi (pg_of g.fnc g.N g.sc g.nd (g.cm h0) h2) (ihb g h3) hs).imp3 fun E σ H hq => ?_
    obtain ⟨env, F, fp, w, np, hq⟩ := hq
    rw [exec] at hq
    refine rdA_of w np hq fun ds hq vs H1 F1 f1 o1 => ?_
    unfold chkR at hq
    by_cases hn : nopks ds = true
    · rw [if_pos hn] at hq
      cases ei : items k (frzs ds) with
      | none => rw [ei] at hq; exact hq.elim
      | some xs =>
        rw [ei, someOk_some, Res.out_ok] at hq
        have eG : Ex F1 (addF F1 H1 f1) := addF_ex o1.off
        have sub2 := addF_sub o1.sub (fp := f1) fun a m => o1.r.has a m
        have rz := Rs.frz eG o1.r hn fun a m => addF_in m
        refine rIt_of (K := ⟨X.K, xi⟩) sub2 rz ei fun J wk => ?_
        have w1 := w.next o1.eH o1.eF o1.sub o1.new
        have dis : ∀ a ∈ fp, a ∉ f1 := fun a m z => by
          obtain ⟨ys, hz⟩ := w.es.has a m
          have := (o1.fresh a z).resolve_left List.not_mem_nil
          rw [hz] at this
          cases this
        have w2 : Wd ⟨X.K, xi⟩ (addF F1 H1 f1) H1 env σ fp := ⟨sub2, w1.es.mono eG (Ex.refl _), w1.nd, fun a m => by rw [addF_out (dis a m)]; exact w1.off a m, w1.hi⟩
        have p2 : Pst F H fp (addF F1 H1 f1) H1 fp := .of_ex o1.eH (o1.eF.trans eG) (fun a h1 h2 => by
          by_cases m : a ∈ f1
          · exact (o1.fresh a m).resolve_left List.not_mem_nil
          · rw [addF_out m] at h2
            exact o1.new a h1 h2) fun a m => .inl m
        have np0 := items_np ei (nopks_frzs ds)
        have q0 := OutW.mono hq p2
        clear hq
        refine ⟨fun i m σ H => m = xs.length - i ∧ i ≤ xs.length ∧ ∃ env F fp, Wd ⟨X.K, xi⟩ F H env σ fp ∧ npE env ∧ Rs ⟨X.K, xi⟩ F H (frzs ds) vs [] ∧ OutW ⟨X.K, xi⟩ X.mg W (forGo (fun x e => (someOk (bindT tg x e)).out e fun e' => execs G b e') clr (xs.drop i) env) F H fp E,
          ⟨_, rfl, Nat.zero_le _, env, _, fp, w2, np, rz, q0⟩, ?_⟩
        rintro i m σ3 H3 ⟨rfl, hi, env3, F3, fp3, w3, np3, rs3, q3⟩
        by_cases hlt : i < xs.length
        · refine .inr ⟨wk.go F3 H3 i w3.sub rs3 hlt, _, fun σ' H' hw => ⟨xs.length - (i + 1), by omega, hw⟩, fun x H4 yl => ?_⟩
          have hx : xs[i]? = some xs[i] := List.getElem?_eq_getElem hlt
          obtain ⟨eH, rx⟩ := wk.yld F3 H3 i _ x H4 w3.sub rs3 hx yl
          have npx := np0 _ (List.mem_of_getElem? hx)
          have w4 := w3.next eH (Ex.refl _) (w3.sub.trans eH) fun a h1 h2 => absurd h1 h2
          have p4 : Pst F3 H3 fp3 F3 H4 fp3 := .of_ex eH (Ex.refl _) (fun a h1 h2 => absurd h1 h2) fun a m => .inl m
          have q4 := OutW.mono q3 p4
          have rs4 := rs3.mono (Ex.refl F3) eH
          rw [List.drop_eq_getElem_cons hlt, forGo] at q4
          cases eb : bindT tg xs[i] env3 with
          | none => rw [eb] at q4; exact q4.elim
          | some e5 =>
            rw [eb, someOk_some, Res.out_ok] at q4
            refine gTg_of (K := ⟨X.K, xi⟩) eb rx w4.es w4.nd fun σ5 fp5 es5 nd5 sb5 _ => ?_
            have w5 : Wd ⟨X.K, xi⟩ F3 H4 e5 σ5 fp5 := ⟨w4.sub, es5, nd5, fun a m => w4.off a (sb5 a m), w4.hi⟩
            have p5 : Pst F3 H4 fp3 F3 H4 fp5 := ⟨fun a o _ h _ => h, Ex.refl _, fun a h1 h2 => absurd h1 h2, fun a m => .inl (sb5 a m), Tx.refl _⟩
            refine ⟨e5, F3, fp5, w5, setT_np eb npx np3, ?_⟩
            have again : ∀ e6 : Env, OutW ⟨X.K, xi⟩ X.mg W (forGo (fun x e => (someOk (bindT tg x e)).out e fun e' => execs G b e') clr (xs.drop (i + 1)) (wipeE e6 clr)) F3 H4 fp3 E → ∀ σ' H' F' fp', Wd ⟨X.K, xi⟩ F' H' e6 σ' fp' → npE e6 → Pst F3 H4 fp5 F' H' fp' →
                (xs.length - (i + 1) = xs.length - (i + 1) ∧ i + 1 ≤ xs.length ∧ ∃ env F fp, Wd ⟨X.K, xi⟩ F H' env σ' fp ∧ npE env ∧ Rs ⟨X.K, xi⟩ F H' (frzs ds) vs [] ∧ OutW ⟨X.K, xi⟩ X.mg W (forGo (fun x e => (someOk (bindT tg x e)).out e fun e' => execs G b e') clr (xs.drop (i + 1)) env) F H' fp E) := by
              intro e6 q6 σ' H' F' fp' w6 np6 p6
              obtain ⟨g7, w7, sb7⟩ := w6.forgets clr
              exact ⟨rfl, hlt, wipeE e6 clr, F', g7, w7, np6.forgets clr, rs4.keep p6.eF p6.tx (nopks_frzs ds) (fun a o m => absurd m List.not_mem_nil), OutW.mono q6 ((p5.trans p6).trans (.less sb7))⟩
            cases ee : execs G b e5 with
            | nx e6 => rw [ee] at q4; exact again e6 q4
            | ct e6 => rw [ee] at q4; exact again e6 q4
            | bk e6 =>
              rw [ee] at q4
              intro σ' H' F' fp' w6 np6 p6
              obtain ⟨g7, w7, sb7⟩ := w6.forgets clr
              exact q4 σ' H' F' g7 w7 (np6.forgets clr) ((p5.trans p6).trans (.less sb7))
            | rt d => rw [ee] at q4; exact OutW.mono (o := .rt d) q4 p5
            | ex n e => rw [ee] at q4; exact OutW.mono (o := .ex n e) q4 p5
            | no => rw [ee] at q4; exact q4
        · have ed : xs.drop i = [] := List.drop_eq_nil_iff.mpr (by omega)
          rw [ed, forGo] at q3
          exact .inl ⟨wk.stop F3 H3 i w3.sub rs3 (by omega), q3 σ3 H3 F3 fp3 w3 np3 (.refl _ _ _)⟩
    · rw [if_neg hn] at hq
      exact hq.elim
  · cases h
theorem ss_whl (fuel : Env → Nat) (d : Exp) (clr : List Nat) (b : Stms) (ihb : SSs G xi b) : SS G xi (.whl fuel d clr b) := by
  intro c W X st g h
  rw [chkS.eq_def] at h
  dsimp only at h
  split at h
  · rename_i t body pos
    simp only [Bool.and_eq_true] at h
    obtain ⟨⟨⟨h0, h1⟩, h2⟩, h3⟩ := h
    refine (ps_while (g.pas h0) ((all_e G xi d).st h1 g.toGood h2) (ihb g h3)).imp3 fun E σ H hq => ?_
    obtain ⟨env, F, fp, w, np, hq⟩ := hq
    rw [exec] at hq
    refine ⟨fun m σ H => ∃ env F fp, Wd ⟨X.K, xi⟩ F H env σ fp ∧ npE env ∧ OutW ⟨X.K, xi⟩ X.mg W (whlGo (fun e => (ev G d e).bind asB) (execs G b) clr m env) F H fp E, ⟨fuel env, env, F, fp, w, np, hq⟩, ?_⟩
    rintro m σ3 H3 ⟨env3, F3, fp3, w3, np3, q3⟩
    cases m with
    | zero => exact q3.elim
    | succ m =>
      rw [whlGo] at q3
      refine rdT_out w3 np3 q3 fun k q3 H4 F4 eH eF sub new => ?_
      have w4 := w3.next eH eF sub new
      have p4 : Pst F3 H3 fp3 F4 H4 fp3 := .of_ex eH eF new fun a m => .inl m
      have q4 := OutW.mono q3 p4
      cases k with
      | false =>
        rw [if_neg Bool.false_ne_true] at q4 ⊢
        exact q4 σ3 H4 F4 fp3 w4 np3 (.refl _ _ _)
      | true =>
        rw [if_pos rfl] at q4 ⊢
        refine ⟨fun σ H => ∃ env F fp, Wd ⟨X.K, xi⟩ F H env σ fp ∧ npE env ∧ OutW ⟨X.K, xi⟩ X.mg W (whlGo (fun e => (ev G d e).bind asB) (execs G b) clr m env) F H fp E, fun σ' H' hw => ⟨m, Nat.lt_succ_self m, hw⟩, env3, F4, fp3, w4, np3, ?_⟩
        have again : ∀ e6 : Env, OutW ⟨X.K, xi⟩ X.mg W (whlGo (fun e => (ev G d e).bind asB) (execs G b) clr m (wipeE e6 clr)) F4 H4 fp3 E → ∀ σ' H' F' fp', Wd ⟨X.K, xi⟩ F' H' e6 σ' fp' → npE e6 → Pst F4 H4 fp3 F' H' fp' →
            ∃ env F fp, Wd ⟨X.K, xi⟩ F H' env σ' fp ∧ npE env ∧ OutW ⟨X.K, xi⟩ X.mg W (whlGo (fun e => (ev G d e).bind asB) (execs G b) clr m env) F H' fp E := by
          intro e6 q6 σ' H' F' fp' w6 np6 p6
          obtain ⟨g7, w7, sb7⟩ := w6.forgets clr
          exact ⟨wipeE e6 clr, F', g7, w7, np6.forgets clr, OutW.mono q6 (p6.trans (.less sb7))⟩
        cases ee : execs G b env3 with
        | nx e6 => rw [ee] at q4; exact again e6 q4
        | ct e6 => rw [ee] at q4; exact again e6 q4
        | bk e6 =>
          rw [ee] at q4
          intro σ' H' F' fp' w6 np6 p6
          obtain ⟨g7, w7, sb7⟩ := w6.forgets clr
          exact q4 σ' H' F' g7 w7 (np6.forgets clr) (p6.trans (.less sb7))
        | rt d => rw [ee] at q4; exact q4
        | ex n e => rw [ee] at q4; exact q4
        | no => rw [ee] at q4; exact q4
  · cases h
end
end L3

set_option maxRecDepth 100000
set_option maxHeartbeats 4000000
/-! L3.Clo: two functions made in a def and handed over. -/
namespace L3
open PySem PySem.Spec PyProof.Rows L2
variable [TbC]

section
variable {xi : Xi}
/-- the function made by a def's text within X -/
def nfOf (X : Cx) (x : Str) (ps : Arguments) (body : List Stmt) (sc : Scope) (c : Addr) : NdefX.NF := ⟨x, X.env.qual ++ x, ps, body, sc, cloFrom X.env.cells sc.names [], c⟩
theorem pick_one {Kx : Kx} {F H : Hp} {env : Env} {σ : L2.St} {fp : List Addr} (s : Ex F H) (es : Es Kx F H env σ fp) (m : Nat) : ∃ o, Es Kx H H [((env[m]?).bind id).map frz] [o] [] ∧ o = NdefX.slotAt σ m := by
  refine ⟨_, ?_, rfl⟩
  cases he : (env[m]?).bind id with
  | none => exact .no _ .emp
  | some d =>
    obtain ⟨v, g, h1, h2, _⟩ := es.get (mem_of_slot he).1
    have e : NdefX.slotAt σ m = some v := by
      unfold NdefX.slotAt
      rw [h1]
    rw [e]
    exact .ye (f1 := []) (f2 := []) (h2.all s) .emp
theorem Es.pick {Kx : Kx} {F H : Hp} {env : Env} {σ : L2.St} {fp : List Addr} (s : Ex F H) (es : Es Kx F H env σ fp) : ∀ js : List Nat, Es Kx H H (cloE js env) (js.map (NdefX.slotAt σ)) []
  | [] => .emp
  | m :: js => by
    obtain ⟨o, h1, rfl⟩ := pick_one s es m
    have ih := Es.pick s es js
    show Es Kx H H (((env[m]?).bind id).map frz :: cloE js env) (NdefX.slotAt σ m :: js.map (NdefX.slotAt σ)) []
    cases he : ((env[m]?).bind id).map frz with
    | none => exact .no _ ih
    | some d =>
      rw [he] at h1
      generalize hf : ([] : List Addr) = f at h1
      generalize ho : NdefX.slotAt σ m = o at h1
      cases h1 with
      | ye r q =>
        obtain ⟨e1, e2⟩ := List.append_eq_nil_iff.mp hf.symm
        subst e1
        subst e2
        exact .ye (f1 := []) (f2 := []) r ih
/-- what such a function promises -/
def spC (K : PySem.W.Frag) (xi : Xi) (k : Clo) : List (Option V) → Sp := fun ws vs H Q _ => HI ⟨K, xi⟩ H ∧ ∃ ds i j b, Es ⟨K, xi⟩ H H ds ws [] ∧ vs = [.int i, .int j] ∧ ev tab0 k.e (some (.int i) :: some (.int j) :: ds) = .ok (.bl b) ∧ ds.length = k.js.length ∧ ∀ H', Ex H H' → Q (.bl b) H'
theorem good_ncx {P : Program} {w : World} {K : PySem.W.Frag} {mg : Str → Option Value} {base : Heap} {N : List Str} {F : NdefX.NF} {f : Addr} {A : Around} {outer : List PySem.Env} {s : Shared} {H : Hp} {E : XK} (blt : ∀ x ∈ bltL, mg x = none) (vae : mg "ValueError" = none) (nd : N.Nodup)
    (hr : Room 0 (A.deeper (NdefX.envF F f s.heap.objs.size))) (hx : ∀ a n, ¬ xi.ex a n) : Good { N := N, sc := F.scope, fns := [], csts := [], exs := [] } tab0 xi W0 (NdefX.ncx C8.CX0 P w K mg base N F f A outer s H E) where
  N := rfl
  sc := rfl
  nd := nd
  cm := fun _ => rfl
  hu := by
    have := hr.un
    show (A.deeper (NdefX.envF F f s.heap.objs.size)).units + 70 < cLine
    omega
  blt := blt
  fns := rfl
  csts := rfl
  calls := fun cl h => absurd h List.not_mem_nil
  glo := fun p h => absurd h List.not_mem_nil
  tk := takes0
  exs := fun x h => absurd h List.not_mem_nil
  vae := vae
  isx := fun a n h => (hx a n h).elim
  xno := fun _ => hx
  fnc := fun x h => absurd (show false = true from h) Bool.false_ne_true
  clo := fun h => absurd (show false = true from h) Bool.false_ne_true
  vst := fun x h => nomatch h
  xnv := fun h => absurd rfl h
  mkc := fun h => absurd rfl h
  dik := fun h => absurd (show false = true from h) Bool.false_ne_true
  z := fun h => absurd (show false = true from h) Bool.false_ne_true
/-- the text of such a function, looked at -/
structure CloText (c : Cc) (k : Clo) (x : Str) (ps : Arguments) (body : List Stmt) (sc : Scope) (e : Expr) : Prop where
  S : NdefX.NScope k.N ["number", "quota"] (k.N.drop 2) sc
  at_ : k.js.map (fun j => c.N[j]?) = (k.N.drop 2).map some
  len : k.N.length = k.js.length + 2
  par : ∃ p q, ps = ⟨[], [⟨"number", none, p⟩, ⟨"quota", none, q⟩], none, [], [], none, []⟩
  bod : ∃ pos, body = [.Return (some e) pos]
  chk : chkE { N := k.N, sc := sc, fns := [], csts := [], exs := [] } k.e e = true
  nd : NdefX.ndefB c.sc sc (k.N.drop 2) = true
theorem clo_nok {P : Program} {w : World} {K : PySem.W.Frag} {mg : Str → Option Value} {base : Heap} {f : Addr} {c : Cc} {k : Clo} {x q : Str} {ps : Arguments} {body : List Stmt} {sc : Scope} {cl : List (Str × Addr)} {cd : Addr} {e : Expr} (T : CloText c k x ps body sc e)
    (blt : ∀ x ∈ bltL, mg x = none) (vae : mg "ValueError" = none) (hx : ∀ a n, ¬ xi.ex a n) : NdefX.NOk P w K mg base C8.CX0 1 f ⟨x, q, ps, body, sc, cl, cd⟩ ["number", "quota"] (k.N.drop 2) (spC K xi k) := by
  obtain ⟨p1, p2, hp⟩ := T.par
  obtain ⟨pos, hb⟩ := T.bod
  refine NdefX.nok_of (N := k.N) T.S (fun doc pm ctv us hl => ?_) (fun ws vs H Q E h => by obtain ⟨_, ds, i, j, b, _, rfl, _⟩ := h; rfl) (fun A outer s H vs ws Q E hr hf hc hw hsp => ?_)
  · subst hp
    exact match us, hl with
      | [_, _], _ => rfl
  · obtain ⟨hi, ds, i, j, b, es, rfl, hev, hl, hQ⟩ := hsp
    have g := good_ncx (P := P) (w := w) (K := K) (base := base) (N := k.N) (F := ⟨x, q, ps, body, sc, cl, cd⟩) (f := f) (A := A) (outer := outer) (s := s) (H := H) (E := E) blt vae T.S.nd hr hx
    have pe := (all_e tab0 xi k.e).se g T.chk
    refine ⟨_, by rw [show (NdefX.NF.mk x q ps body sc cl cd).body = [.Return (some e) pos] from hb]; exact pss_one (ps_ret pe), ?_⟩
    have e0 : NdefX.startF k.N [V.int i, V.int j] ws = some (V.int i) :: some (V.int j) :: ws := by
      unfold NdefX.startF
      have hz : k.N.length - [V.int i, V.int j].length - ws.length = 0 := by
        rw [T.len, ← es.length, hl]
        simp
      rw [hz]
      simp
    rw [e0]
    refine ⟨some (.int i) :: some (.int j) :: ds, H, [], ⟨Ex.refl H, .ye (f1 := []) (f2 := []) (.int i) (.ye (f1 := []) (f2 := []) (.int j) es), List.nodup_nil, fun a m => absurd m List.not_mem_nil, hi⟩, ?_⟩
    rw [hev]
    intro v H' F' fr o
    obtain ⟨rfl, _⟩ := o.r.bl'
    exact hQ H' o.eH
/-- such a function, called by what its maker calls -/
theorem clo_call {c : Cc} {k : Clo} {x : Str} {ps : Arguments} {body : List Stmt} {sc : Scope} {e : Expr} {X : Cx} {pins : List (Addr × Obj)} {σ : L2.St} {H F : Hp} {s : Shared} {env : Env} {fp : List Addr} {a cd : Addr} {lf : Int → Int → Option Bool} (T : CloText c k x ps body sc e) (hN : X.N = c.N) (hs : X.env.scope = c.sc)
    (hfn : ∀ x, X.fn x = true) (blt : ∀ x ∈ bltL, X.mg x = none) (vae : X.mg "ValueError" = none) (hx : ∀ a n, ¬ xi.ex a n) (I : Inv X pins σ H s) (w : Wd ⟨X.K, xi⟩ F H env σ fp) (hf : H a = some (NdefX.FnO a (nfOf X x ps body sc cd))) (hc : H cd = some (LamX.CodeO cd (X.env.qual ++ x))) (hr : Room 2 X.A) (hl : ∀ i j, lf i j = cloS k env i j)
    (N : List Str) (q : Str) (sc' : Scope) (g : Addr) (cdv : Value) (E : XK) : CallR (cxOf (L2.CX X.prog X.w) X.prog X.w X.K X.mg X.base N q sc' g cdv X.A X.stack s H E) (.ref a) (rClo lf H) := by
  intro pins' s' σ' H' vs us Q J rv h
  obtain ⟨eH, i, j, b, rfl, hg, hQ⟩ := h
  have C := NdefX.cells_of I (NdefX.Caps.made (scope := sc) (fr := k.N.drop 2) (js := k.js) I.ok (by rw [hs]; exact NdefX.ndef_free T.nd) (NdefX.ndef_fr T.nd) (by rw [hN]; exact T.at_))
  have hcell : ∀ y d, (cloFrom X.env.cells sc.names []).lookup y = some d → X.env.cells.lookup y = some d := fun y d h => (NdefX.Caps.made (scope := sc) (fr := k.N.drop 2) (js := k.js) I.ok (by rw [hs]; exact NdefX.ndef_free T.nd) (NdefX.ndef_fr T.nd) (by rw [hN]; exact T.at_)).sub y d h
  have C' := NdefX.CellsAt.later (X := cxOf (L2.CX X.prog X.w) X.prog X.w X.K X.mg X.base N q sc' g cdv X.A X.stack s H E) C (fun y d h z => by
    rcases List.mem_cons.mp (I.stkSub d z) with e | m
    · exact I.cne y d (hcell y d h) e
    · obtain ⟨_, o, ho, _⟩ := I.ok.funs.mem m
      exact Nat.lt_irrefl _ (Nat.lt_of_lt_of_le (Heap.lt_size ho) (I.ok.cab y d (hfn y) (hcell y d h)))) (fun y d h z => absurd (show d ∈ ([] : List Addr) from z) List.not_mem_nil) J
  rw [hl] at hg
  have hev : ev tab0 k.e (some (.int i) :: some (.int j) :: cloE k.js env) = .ok (.bl b) := by
    unfold cloS at hg
    split at hg
    · rename_i b' e'
      cases hg
      exact e'
    · cases hg
  refine wpAny_call (codeAny_mono ((clo_nok (xi := xi) (P := X.prog) (w := X.w) (K := X.K) (mg := X.mg) (base := X.base) (f := a) (x := x) (q := X.env.qual ++ x) (cl := cloFrom X.env.cells sc.names []) (cd := cd) T blt vae hx).run (X.A.deeper (envOfC q sc' s.heap.objs.size g cdv)) (envOfC q sc' s.heap.objs.size g cdv :: X.stack) s' H' us _ _ Q (fun _ _ _ => False) (hr.deeper _) J.env0 (eH.k _ _ rfl hf) (eH.k _ _ rfl hc) C' rv
    ⟨w.hi.ex eH, cloE k.js env, i, j, b, (w.es.pick w.sub k.js).mono eH eH, rfl, hev, by unfold cloE; rw [List.length_map], hQ⟩) fun r s2 hq => ?_)
  cases r with
  | error e => exact (show False from hq).elim
  | ok fl => cases fl with
    | ret u => exact J.after hq
    | _ => exact (show False from hq).elim
section
variable {G : Tab}
theorem ndefC_ok {c : Cc} {i : Nat} {k : Clo} {x y : Str} {ps : Arguments} {body : List Stmt} {sc : Scope} {pos : Pos} (h : ndefC c i k x y ps body sc pos = true) : x = y ∧ c.cel = true ∧ lofC c i x = true ∧ c.nml.lookup (pos.line, pos.col) = some (c.qual ++ x) ∧ ∃ e, CloText c k x ps body sc e := by
  unfold ndefC at h
  simp only [Bool.and_eq_true, beq_iff_eq, decide_eq_true_eq] at h
  obtain ⟨⟨⟨⟨⟨⟨⟨⟨⟨h1, h2⟩, h3⟩, h4⟩, h5⟩, h6⟩, h7⟩, h8⟩, h9⟩, h10⟩ := h
  refine ⟨h1, h2, h3, h4, ?_⟩
  split at h10
  · rename_i e p0
    refine ⟨e, ⟨NdefX.nscope_by h6, h7, h8, ?_, ⟨p0, rfl⟩, h10, h5⟩⟩
    split at h9
    · rename_i p pp q qq
      simp only [Bool.and_eq_true, beq_iff_eq] at h9
      exact ⟨pp, qq, by rw [h9.1, h9.2]⟩
    · cases h9
  · cases h10
theorem params_plain {c : Cc} {k : Clo} {x : Str} {ps : Arguments} {body : List Stmt} {sc : Scope} {e : Expr} (T : CloText c k x ps body sc e) : ps.defaults = [] ∧ ps.kw_defaults = [] ∧ ∀ env, annTrees ps none env = [] := by
  obtain ⟨p, q, rfl⟩ := T.par
  exact ⟨rfl, rfl, fun env => rfl⟩
/-- what is known of the two functions -/
def xiC (a0 a1 c0 c1 : Addr) (N0 N1 : NdefX.NF) : Xi where
  ex := fun _ _ => False
  fo := fun n a _ => (n = 0 ∧ a = a0) ∨ (n = 1 ∧ a = a1)
  mono := fun _ h => h
  obs := [(a0, NdefX.FnO a0 N0), (c0, LamX.CodeO c0 N0.qual), (a1, NdefX.FnO a1 N1), (c1, LamX.CodeO c1 N1.qual)]
  obx := fun p m => by
    simp only [List.mem_cons, List.not_mem_nil, or_false] at m
    rcases m with rfl | rfl | rfl | rfl <;> rfl
end
end
end L3

set_option maxRecDepth 100000
set_option maxHeartbeats 4000000
/-! L3.Stm5: try; all statements. -/
namespace L3
open PySem PySem.Spec PyProof.Rows L2
variable [TbC]

section
variable {K : PySem.W.Frag} {xi xj : Xi} {F H : Hp}
/-- more errors held -/
theorem R.xim (hx : ∀ a n, xi.ex a n → xj.ex a n) (hf : ∀ n a, xi.fo n a F → xj.fo n a F) : ∀ {d : D} {v : V} {fp : List Addr}, R ⟨K, xi⟩ F H d v fp → R ⟨K, xj⟩ F H d v fp
  | _, _, _, .non => .non
  | _, _, _, .bl b => .bl b
  | _, _, _, .int i => .int i
  | _, _, _, .str x => .str x
  | .tup ds, _, _, .tup s r => .tup s (Rs.xim r)
  | .lst f ds, _, _, .lst r la => .lst (Rs.xim r) la
  | _, _, _, .scr s => .scr s
  | _, _, _, .exc h => .exc (hx _ _ h)
  | _, _, _, .clo h => .clo (hf _ _ h)
where Rs.xim : ∀ {ds : List D} {vs : List V} {fp : List Addr}, Rs ⟨K, xi⟩ F H ds vs fp → Rs ⟨K, xj⟩ F H ds vs fp
  | _, _, _, .nil => .nil
  | _ :: _, _, _, .cons r rs => .cons (R.xim hx hf r) (Rs.xim rs)
mutual
/-- no error within -/
theorem R.xno (hx : True) : ∀ {d : D} {v : V} {fp : List Addr}, R ⟨K, xi⟩ F H d v fp → noexc d = true → R ⟨K, xj⟩ F H d v fp
  | _, _, _, .non, _ => .non
  | _, _, _, .bl b, _ => .bl b
  | _, _, _, .int i, _ => .int i
  | _, _, _, .str x, _ => .str x
  | .tup ds, _, _, .tup s r, h => .tup s (Rs.xno hx r h)
  | .lst f ds, _, _, .lst r la, h => .lst (Rs.xno hx r h) la
  | _, _, _, .scr s, _ => .scr s
  | .exc n, _, _, .exc _, h => absurd (show false = true from h) Bool.false_ne_true
  | .clo n, _, _, .clo _, h => absurd (show false = true from h) Bool.false_ne_true
theorem Rs.xno (hx : True) : ∀ {ds : List D} {vs : List V} {fp : List Addr}, Rs ⟨K, xi⟩ F H ds vs fp → noexcs ds = true → Rs ⟨K, xj⟩ F H ds vs fp
  | _, _, _, .nil, _ => .nil
  | d :: ds, _, _, .cons r rs, h => by
    rw [noexcs, Bool.and_eq_true] at h
    exact .cons (R.xno hx r h.1) (Rs.xno hx rs h.2)
end
/-- .. of a list -/
theorem Rs.xims (hx : ∀ a n, xi.ex a n → xj.ex a n) (hf : ∀ n a, xi.fo n a F → xj.fo n a F) : ∀ {ds : List D} {vs : List V} {fp : List Addr}, Rs ⟨K, xi⟩ F H ds vs fp → Rs ⟨K, xj⟩ F H ds vs fp
  | _, _, _, .nil => .nil
  | _ :: _, _, _, .cons r rs => .cons (R.xim hx hf r) (Rs.xims hx hf rs)
theorem Es.xim (hx : ∀ a n, xi.ex a n → xj.ex a n) (hf : ∀ n a, xi.fo n a F → xj.fo n a F) : ∀ {e : Env} {s : L2.St} {fp : List Addr}, Es ⟨K, xi⟩ F H e s fp → Es ⟨K, xj⟩ F H e s fp
  | _, _, _, .emp => .emp
  | _, _, _, .no o q => .no o (Es.xim hx hf q)
  | _, _, _, .ye r q => .ye (R.xim hx hf r) (Es.xim hx hf q)
theorem Es.xno : ∀ {e : Env} {s : L2.St} {fp : List Addr}, Es ⟨K, xi⟩ F H e s fp → noexcE e = true → Es ⟨K, xj⟩ F H e s fp
  | _, _, _, .emp, _ => .emp
  | _, _, _, .no o q, h => .no o (Es.xno q h)
  | _, _, _, .ye r q, h => by
    rw [noexcE, Bool.and_eq_true] at h
    exact .ye (R.xno trivial r h.1) (Es.xno q h.2)
end
section
variable {G : Tab}
/-- a def that calls others holds no error and no function -/
theorem fns_xi {c : Cc} {xi : Xi} {W : WX} {X : Cx} (g : Good c G xi W X) (h : (!c.fns.isEmpty) = true) : xi = xi0 := by
  rw [g.fns] at h
  cases hz : G.fns with
  | nil => rw [hz] at h; cases h
  | cons cl r => exact (g.calls cl (by rw [hz]; exact List.mem_cons_self)).1
/-- the error n is held at a -/
def xiN (a : Addr) (n : Str) : Xi := ⟨fun b m => b = a ∧ m = n, fun _ _ _ => False, fun _ h => h, [], fun p m => absurd m List.not_mem_nil⟩
theorem good_try {c : Cc} {xi : Xi} {W W' : WX} {X : Cx} (g : GoodS c G xi W X) (pn : List (Addr × Obj)) (xe : Value → Shared → Prop) (tk : Takes (X.tr pn xe) W') (hp : PassesOwn (model X.prog X.w) X.A X.env xe) (hi : xi = xi0) : GoodS { c with clo := false, vis := none, nml := [] } G xi W' (X.tr pn xe) where
  N := g.N
  sc := g.sc
  nd := g.nd
  cm := g.cm
  hu := g.hu
  blt := g.blt
  fns := g.fns
  csts := g.csts
  calls := fun cl h => ⟨(g.calls cl h).1, ⟨(g.calls cl h).2.ex⟩⟩
  glo := g.glo
  tk := tk
  exs := g.exs
  vae := g.vae
  isx := fun a n h => by
    rw [hi] at h
    exact h.elim
  xno := g.xno
  clo := fun h => absurd (show false = true from h) Bool.false_ne_true
  vst := fun x h => nomatch h
  xnv := fun h => absurd rfl h
  mkc := fun h => absurd rfl h
  dik := g.dik
  z := g.z
  ndf := fun h => absurd rfl h
  fnc := g.fnc
  pas := fun _ => hp
  fn := g.fn
  stk := g.stk
  frm := g.frm
  err := fun n hn C hC => ⟨(g.err n hn C hC).exc, (g.err n hn C hC).kp, (g.err n hn C hC).rs, (g.err n hn C hC).ec⟩
  exm := g.exm
  isk := g.isk
theorem kit_errs {es : List Str} {X : Cx} {C : Addr} {n : Str} (hk : ∀ w v, IsCls es X w v → ∃ u, (∀ z, RelV v z → z = u) ∧ PySem.W.kitOne X.K (.ref C) u = some (subX n w)) : ∀ {cvs : List V} {ws : List Str} {us : List Value}, Paired (fun v w => IsCls es X w v) cvs ws → Vals cvs us → PySem.W.kitAny X.K (.ref C) us = some (ws.any (subX n))
  | _, _, _, .nil, .nil => rfl
  | v :: vs, w :: ws, _ :: us, .cons h r, .cons q s => by
    obtain ⟨u, hu, ku⟩ := hk w v h
    have e := hu _ q
    subst e
    refine kitAny_cons ku (fun e => ?_) (fun e => ?_)
    · rw [kit_errs hk r s, List.any_cons, e]
      first | rfl | simp
    · rw [List.any_cons, e]
      first | rfl | simp
theorem call_isX {es : List Str} {X : Cx} {a C : Addr} {n : Str} {oe : Obj} {pn : List (Addr × Obj)} (ec : ExcC X.K C) (hz : Zc (.ref C) none oe) (hf : ∃ vs, oe.data = .fields vs) (hk : ∀ w v, IsCls es X w v → ∃ u, (∀ z, RelV v z → z = u) ∧ PySem.W.kitOne X.K (.ref C) u = some (subX n w)) :
    CallR (X.suite a ((a, oe) :: pn)) (.builtin "isinstance") (rIsX es (X.suite a ((a, oe) :: pn)) n a) := by
  intro pins s σ H xs us Q I r h
  rcases h with ⟨w, cv, rfl, hcv, q⟩ | ⟨tp, ws, cvs, rfl, htp, hp, q⟩
  · obtain ⟨u, hu, ku⟩ := hk w cv hcv
    exact call_isE ec hz hf pins s σ H _ us Q I r ⟨cv, u, _, rfl, hu, ku, q⟩
  · cases r with
    | cons rx rr =>
      cases rr with
      | cons rt rr =>
        cases rr
        cases rx
        cases rt
        obtain ⟨hget, _⟩ := I.pin (a, oe) (List.mem_append.mpr (.inl List.mem_cons_self))
        obtain ⟨vs, hv⟩ := hf
        have J : PySem.W.InstAt s.heap a oe C none := by
          obtain ⟨oc, od, oda, osl⟩ := oe
          obtain ⟨h1, h2⟩ := hz
          dsimp only at h1 h2 hv
          subst h1 h2 hv
          exact ⟨hget, rfl, rfl, trivial⟩
        obtain ⟨_, its, rv, o, h1, h2, k, h3⟩ := (show ObjOk X.prog X.w H s.heap tp (.tup cvs) from I.hok tp _ htp)
        obtain ⟨oc, od, dt, sl⟩ := o
        simp only at h2 h3
        subst h2 h3
        exact PySem.W.kia_tup (PySem.W.handS_kitx_exc ec.hg ec.hk ec.hs ec.hd ec.ha ec.hn ec.ht ec.hm) I.kIn J h1 (kit_errs hk hp rv) (fun z => nomatch z) fun tk => ⟨.bl _, H, I.kept (t' := tk) fun _ _ z => z, rfl, q⟩
theorem good_suite {c : Cc} {W : WX} {X : Cx} (g : GoodS c G xi0 W X) {a C : Addr} {n : Str} {oe : Obj} {pn : List (Addr × Obj)} (hn : n ∈ G.errs) (hC : X.mg n = some (.ref C)) (hz : Zc (.ref C) none oe) (hf : ∃ vs, oe.data = .fields vs) :
    GoodS { c with cm := false, fns := [], clo := false, vis := none, nml := [], dic := false, z := false } { G with fns := [] } (xiN a n) W0 (X.suite a ((a, oe) :: pn)) where
  N := g.N
  sc := g.sc
  nd := g.nd
  cm := fun h => absurd (show false = true from h) Bool.false_ne_true
  hu := g.hu
  blt := g.blt
  fns := rfl
  csts := g.csts
  calls := fun cl h => absurd h List.not_mem_nil
  glo := fun p hp => by
    obtain ⟨u, v, h1, h2, h3⟩ := g.glo p hp
    exact ⟨u, v, h1, h2, fun F H => R.xim (xi := xi0) (fun a n h => False.elim h) (fun n a h => False.elim h) (h3 F H)⟩
  tk := takes0
  exs := g.exs
  vae := g.vae
  isx := fun b m h => by
    obtain ⟨rfl, rfl⟩ := h
    exact call_isX (g.err m hn C hC).ec hz hf (g.isk m hn C hC)
  xno := fun h => absurd (show false = true from h) Bool.false_ne_true
  clo := fun h => absurd (show false = true from h) Bool.false_ne_true
  vst := fun x h => nomatch h
  xnv := fun h => absurd rfl h
  mkc := fun h => absurd rfl h
  dik := fun h => absurd (show false = true from h) Bool.false_ne_true
  z := fun h => absurd (show false = true from h) Bool.false_ne_true
  ndf := fun h => absurd rfl h
  fnc := g.fnc
  pas := fun h => absurd (show false = true from h) Bool.false_ne_true
  fn := g.fn
  stk := g.stk
  frm := g.frm
  err := fun n hn C hC => ⟨(g.err n hn C hC).exc, (g.err n hn C hC).kp, (g.err n hn C hC).rs, (g.err n hn C hC).ec⟩
  exm := g.exm
  isk := g.isk
theorem ss_tryx (b : Stms) (n : Str) (i : Nat) (s : Stms) (ihb : ∀ G xi, SSs G xi b) (ihs : ∀ G xi, SSs G xi s) (xi : Xi) : SS G xi (.tryx b n i s) := by
  intro c W X st g h
  rw [chkS.eq_def] at h
  dsimp only at h
  split at h
  · rename_i _ body x np y s0 su pos' pos
    simp only [Bool.and_eq_true] at h
    obtain ⟨⟨⟨⟨⟨⟨⟨h0, hne⟩, h1⟩, h2⟩, h3⟩, h4⟩, h5⟩, h6⟩ := h
    have e : x = n := by simpa using h1
    subst e
    have hxi : xi = xi0 := fns_xi g.toGood hne
    subst hxi
    obtain ⟨D, hD⟩ := g.exs x (by simpa using h3)
    obtain ⟨k1, k2, k3⟩ := g.toGood.gl h2
    obtain ⟨l1, l2⟩ := loc g.toGood h4
    refine (ps_try_as (x := x) (c := .ref D) (i := i) (tb := fun W' => rdSs ⟨X.K, xi0⟩ X.mg W' G b)
      (ts := fun a cls d E σ H => ∃ m C, cls = .ref C ∧ d = none ∧ m ∈ G.errs ∧ X.mg m = some (.ref C) ∧ rdSs ⟨X.K, xiN a m⟩ X.mg W0 { G with fns := [] } s E σ H)
      g.stk g.frm g.nd l1 l2 ⟨k1, k2, .inl hD⟩ g.tk (fun W' pn xe tk hp => ihb G xi0 (good_try g pn xe tk hp rfl) h5) (fun a oe cls d pn hz hf => ?_)).imp3 fun E σ H hq => ?_
    · refine ⟨fun pins s' σ H E I hw => ?_⟩
      obtain ⟨m, C, rfl, rfl, hm, hC, hw⟩ := hw
      exact (ihs _ _ (good_suite g hm hC hz hf) h6).run pins s' σ H E I hw
    · obtain ⟨env, F, fp, w, np, hq⟩ := hq
      rw [exec] at hq
      refine ⟨env, F, fp, w, np, ?_⟩
      cases eb : execs G b env with
      | nx e => rw [eb] at hq; exact hq
      | bk e => rw [eb] at hq; exact hq
      | ct e => rw [eb] at hq; exact hq
      | rt d => rw [eb] at hq; exact hq
      | no => rw [eb] at hq; exact hq
      | ex m e =>
        rw [eb] at hq
        dsimp only at hq
        intro C σ1 H1 F1 fp1 hC w1 np1 p1
        by_cases hin : (G.errs.contains m && G.cats.contains x) = true
        · rw [if_pos hin] at hq
          rw [Bool.and_eq_true] at hin
          have hm : m ∈ G.errs := by simpa using hin.1
          refine ⟨_, g.exm m hm x (by simpa using hin.2) C D hC hD, fun hs a ha => ?_, fun hs => ?_⟩
          · rw [if_pos hs] at hq
            refine ⟨m, C, rfl, rfl, hm, hC, ?_⟩
            have es1 : Es ⟨X.K, xiN a m⟩ F1 H1 e σ1 fp1 := w1.es.xim (xi := xi0) (fun a n h => False.elim h) (fun n a h => False.elim h)
            obtain ⟨g2, q1, q2, q3⟩ := Es.put (K := ⟨X.K, xiN a m⟩) (d := .exc m) (v := .ref a) (g := []) (.exc ⟨rfl, rfl⟩) i es1
            have mem : ∀ b ∈ g2, b ∈ fp1 := fun b z => (q2 b z).resolve_left List.not_mem_nil
            have w2 : Wd ⟨X.K, xiN a m⟩ F1 H1 (e.set i (some (.exc m))) (σ1.set i (some (.ref a))) g2 := ⟨w1.sub, q1, q3 w1.nd, fun b z => w1.off b (mem b z), ⟨w1.hi.t, fun p m => absurd m List.not_mem_nil⟩⟩
            have p2 : Pst F1 H1 fp1 F1 H1 g2 := ⟨fun a o _ h _ => h, Ex.refl _, fun a h1 h2 => absurd h1 h2, fun a m => .inl (mem a m), Tx.refl _⟩
            refine ⟨_, F1, g2, w2, np1.set fun d z => by cases z; rfl, ?_⟩
            cases es : execs { G with fns := [] } s (e.set i (some (.exc m))) with
            | bk _ => rw [es] at hq; exact hq.elim
            | ct _ => rw [es] at hq; exact hq.elim
            | ex _ _ => rw [es] at hq; exact hq.elim
            | no => rw [es] at hq; exact hq.elim
            | rt d =>
              rw [es] at hq
              dsimp only at hq
              by_cases hd : noexc d = true
              · rw [if_pos hd] at hq
                intro v H' F' fr r n o e' np' p'
                exact hq v H' F' fr (R.xno trivial r hd) n o e' np' ((p1.trans p2).trans p')
              · rw [if_neg hd] at hq
                exact hq.elim
            | nx e' =>
              rw [es] at hq
              dsimp only at hq
              by_cases hd : noexcE (e'.set i none) = true
              · rw [if_pos hd] at hq
                intro σ' H' F' fp' w' np' p'
                obtain ⟨g3, r1, r2⟩ := Es.drop i none w'.es
                exact hq _ H' F' g3 ⟨w'.sub, r1.xno hd, w'.nd.sublist r2, fun a m => w'.off a (r2.subset m), ⟨w'.hi.t, fun p m => absurd m List.not_mem_nil⟩⟩ (np'.set fun d z => by cases z) (((p1.trans p2).trans p').trans (.less r2))
              · rw [if_neg hd] at hq
                exact hq.elim
          · rw [if_neg (by rw [hs]; exact Bool.false_ne_true)] at hq
            exact hq C σ1 H1 F1 fp1 hC w1 np1 p1
        · rw [if_neg hin] at hq
          exact hq.elim
  · cases h
theorem lof_loc {c : Cc} {xi : Xi} {W : WX} {X : Cx} {i : Nat} {x : Str} (g : Good c G xi W X) (h : lofC c i x = true) : X.N[i]? = some x ∧ L2.Loc X.env.scope x := by
  unfold lofC at h
  rw [Bool.and_eq_true, beq_iff_eq] at h
  refine ⟨by rw [g.N]; exact h.1, ?_⟩
  unfold L2.Loc
  rw [g.sc]
  have h2 := h.2
  unfold isLoc at h2
  split at h2
  · rename_i e; exact .inl e
  · rename_i e; exact .inr e
  · cases h2
theorem good_clos {c : Cc} {W : WX} {X : Cx} {k0 k1 : Clo} {x x' : Str} {ps ps' : Arguments} {body body' : List Stmt} {sc sc' : Scope} {e e' : Expr} (g : GoodS c G xi0 W X) (hc : c.clo = false) (hr : Room 2 X.A) (TA : CloText c k0 x ps body sc e) (TZ : CloText c k1 x' ps' body' sc' e') (f0 f1 c0 c1 : Addr) :
    GoodS { c with fns := [], dic := false, z := false } { G with fns := [], cl := cloT k0 k1 } (xiC f0 f1 c0 c1 (nfOf X x ps body sc c0) (nfOf X x' ps' body' sc' c1)) W X where
  N := g.N
  sc := g.sc
  nd := g.nd
  cm := g.cm
  hu := g.hu
  blt := g.blt
  fns := rfl
  csts := g.csts
  calls := fun cl h => absurd h List.not_mem_nil
  glo := fun p hp => by
    obtain ⟨u, v, h1, h2, h3⟩ := g.glo p hp
    exact ⟨u, v, h1, h2, fun F H => R.xim (xi := xi0) (fun a n h => False.elim h) (fun n a h => False.elim h) (h3 F H)⟩
  tk := g.tk
  exs := g.exs
  vae := g.vae
  isx := fun a n h => h.elim
  xno := fun _ _ _ h => h
  dik := fun h => absurd (show false = true from h) Bool.false_ne_true
  z := fun h => absurd (show false = true from h) Bool.false_ne_true
  clo := fun h => by
    have h : c.clo = true := h
    rw [hc] at h
    cases h
  vst := g.vst
  xnv := fun _ _ _ h => h
  mkc := fun hv pins σ H s env F fp I w n a F0 hfo => by
    have o := w.hi.o
    rcases hfo with ⟨rfl, rfl⟩ | ⟨rfl, rfl⟩
    · have h1 := o _ List.mem_cons_self
      exact ⟨⟨_, h1⟩, clo_call TA g.N g.sc g.fn g.blt g.vae (fun _ _ h => h) I w h1 (o _ (List.mem_cons_of_mem _ List.mem_cons_self)) hr fun i j => rfl⟩
    · have h1 := o _ (List.mem_cons_of_mem _ (List.mem_cons_of_mem _ List.mem_cons_self))
      exact ⟨⟨_, h1⟩, clo_call TZ g.N g.sc g.fn g.blt g.vae (fun _ _ h => h) I w h1 (o _ (List.mem_cons_of_mem _ (List.mem_cons_of_mem _ (List.mem_cons_of_mem _ List.mem_cons_self)))) hr fun i j => rfl⟩
  fnc := g.fnc
  pas := g.pas
  fn := g.fn
  stk := g.stk
  frm := g.frm
  err := g.err
  exm := g.exm
  ndf := g.ndf
  isk := g.isk
theorem ex_ndef {H H1 : Hp} (e1 : LamX.ExtN H H1) (n1 : ∀ b, H1 b = none → H b = none) (t1 : NdefX.TabsN TbC.T H1) : Ex H H1 := ⟨fun a o nt h => e1 a o h (fun ps z => by rw [z] at nt; cases nt), n1, fun _ => t1⟩
theorem sss_clos (i0 i1 : Nat) (k0 k1 : Clo) (r : Stms) (ih : ∀ G xi, SSs G xi r) (xi : Xi) : SSs G xi (.clos i0 i1 k0 k1 r) := by
  intro c W X st g h
  rw [chkSs.eq_def] at h
  dsimp only at h
  split at h
  · rename_i x ps body sc y pos x' ps' body' sc' y' pos' ss
    simp only [Bool.and_eq_true] at h
    obtain ⟨⟨⟨⟨⟨⟨h0, hne⟩, hcl⟩, hi⟩, hA⟩, hB⟩, hr⟩ := h
    have hxi : xi = xi0 := fns_xi g.toGood hne
    subst hxi
    have hcl : c.clo = false := by simpa using hcl
    obtain ⟨rfl, a1, a2, a3, e, TA⟩ := ndefC_ok hA
    obtain ⟨rfl, b1, b2, b3, e', TZ⟩ := ndefC_ok hB
    have hnm : c.nml ≠ [] := fun z => by rw [z] at a3; cases a3
    obtain ⟨hroom, cd, P, hcode, hTB, hm, hu, hq⟩ := g.ndf hnm
    obtain ⟨u1, u2⟩ := lof_loc g.toGood a2
    obtain ⟨v1, v2⟩ := lof_loc g.toGood b2
    obtain ⟨pa1, pa2, pa3⟩ := params_plain TA
    obtain ⟨pb1, pb2, pb3⟩ := params_plain TZ
    have p0 := NdefX.ps_ndefM (X := X) (T := TbC.T) (nm := nmOf c.nml) (i := i0) (body := body) (scope := sc) (params := ps) (pos := pos) (name := x) hTB hcode hm (by unfold nmOf; rw [a3, hq]; rfl) hu (by rw [g.sc]; exact NdefX.ndef_free TA.nd) pa1 pa2 (pa3 _) g.nd u1 u2 (.inl (g.fn x))
    have p1 := NdefX.ps_ndefM (X := X) (T := TbC.T) (nm := nmOf c.nml) (i := i1) (body := body') (scope := sc') (params := ps') (pos := pos') (name := x') hTB hcode hm (by unfold nmOf; rw [b3, hq]; rfl) hu (by rw [g.sc]; exact NdefX.ndef_free TZ.nd) pb1 pb2 (pb3 _) g.nd v1 v2 (.inl (g.fn x'))
    have pr : PSs X ss (fun E σ H => ∃ f0 c0 f1 c1, rdSs ⟨X.K, xiC f0 f1 c0 c1 (nfOf X x ps body sc c0) (nfOf X x' ps' body' sc' c1)⟩ X.mg W { G with fns := [], cl := cloT k0 k1 } r E σ H) :=
      ⟨fun pins s σ H E I ⟨f0, c0, f1, c1, hw⟩ => (ih _ _ (good_clos g hcl hroom TA TZ f0 f1 c0 c1) hr).run pins s σ H E I hw⟩
    refine (pss_cons p0 (pss_cons p1 pr)).imp3 fun E σ H hq => ?_
    obtain ⟨env, F, fp, w, np, hq⟩ := hq
    rw [execs] at hq
    refine ⟨w.hi.t, fun f0 c0 H1 e1 n1 t1 z0 y0 x0 => ⟨t1, fun f1 c1 H2 e2 n2 t2 z1 y1 x1 => ?_⟩⟩
    have E1 : Ex H H1 := ex_ndef e1 n1 t1
    have E2 : Ex H1 H2 := ex_ndef e2 n2 t2
    have w2 := w.next (E1.trans E2) (Ex.refl F) (w.sub.trans (E1.trans E2)) fun a h1 h2 => absurd h1 h2
    have es1 : Es ⟨X.K, xiC f0 f1 c0 c1 (nfOf X x ps body sc c0) (nfOf X x' ps' body' sc' c1)⟩ F H2 env σ fp := w2.es.xim (xi := xi0) (fun a n h => False.elim h) (fun n a h => False.elim h)
    obtain ⟨g1, q1, q2, q3⟩ := Es.put (d := .clo 0) (v := .ref f0) (g := []) (R.clo (show (xiC f0 f1 c0 c1 (nfOf X x ps body sc c0) (nfOf X x' ps' body' sc' c1)).fo 0 f0 F from .inl ⟨rfl, rfl⟩)) i0 es1
    obtain ⟨g2, r1, r2, r3⟩ := Es.put (d := .clo 1) (v := .ref f1) (g := []) (R.clo (show (xiC f0 f1 c0 c1 (nfOf X x ps body sc c0) (nfOf X x' ps' body' sc' c1)).fo 1 f1 F from .inr ⟨rfl, rfl⟩)) i1 q1
    have mem : ∀ b ∈ g2, b ∈ fp := fun b z => (q2 b ((r2 b z).resolve_left List.not_mem_nil)).resolve_left List.not_mem_nil
    have hI : HI ⟨X.K, xiC f0 f1 c0 c1 (nfOf X x ps body sc c0) (nfOf X x' ps' body' sc' c1)⟩ H2 := ⟨t2, fun p m => by
      have m : p ∈ [(f0, NdefX.FnO f0 (nfOf X x ps body sc c0)), (c0, LamX.CodeO c0 (X.env.qual ++ x)), (f1, NdefX.FnO f1 (nfOf X x' ps' body' sc' c1)), (c1, LamX.CodeO c1 (X.env.qual ++ x'))] := m
      simp only [List.mem_cons, List.not_mem_nil, or_false] at m
      rcases m with rfl | rfl | rfl | rfl
      · exact E2.k _ _ rfl y0
      · exact E2.k _ _ rfl x0
      · exact y1
      · exact x1⟩
    have w3 : Wd ⟨X.K, xiC f0 f1 c0 c1 (nfOf X x ps body sc c0) (nfOf X x' ps' body' sc' c1)⟩ F H2 ((env.set i0 (some (.clo 0))).set i1 (some (.clo 1))) ((σ.set i0 (some (.ref f0))).set i1 (some (.ref f1))) g2 := ⟨w2.sub, r1, r3 (q3 w.nd), fun b z => w2.off b (mem b z), hI⟩
    have np3 : npE ((env.set i0 (some (.clo 0))).set i1 (some (.clo 1))) := (np.set fun d z => by cases z; rfl).set fun d z => by cases z; rfl
    have pst : Pst F H fp F H2 g2 := .of_ex (E1.trans E2) (Ex.refl F) (fun a h1 h2 => absurd h1 h2) fun a m => .inl (mem a m)
    refine ⟨f0, c0, f1, c1, _, F, g2, w3, np3, ?_⟩
    cases eb : execs { G with fns := [], cl := cloT k0 k1 } r ((env.set i0 (some (.clo 0))).set i1 (some (.clo 1))) with
    | bk _ => rw [eb] at hq; exact hq.elim
    | ct _ => rw [eb] at hq; exact hq.elim
    | ex _ _ => rw [eb] at hq; exact hq.elim
    | no => rw [eb] at hq; exact hq.elim
    | rt d =>
      rw [eb] at hq
      dsimp only at hq
      by_cases hd : noexc d = true
      · rw [if_pos hd] at hq
        intro v H' F' fr rr n o e' np' p'
        exact hq v H' F' fr (R.xno trivial rr hd) n o e' np' (pst.trans p')
      · rw [if_neg hd] at hq
        exact hq.elim
    | nx en =>
      rw [eb] at hq
      dsimp only at hq
      by_cases hd : noexcE ((en.set i0 none).set i1 none) = true
      · rw [if_pos hd] at hq
        intro σ' H' F' fp' w' np' p'
        obtain ⟨g3, s1, s2⟩ := Es.forget i0 w'.es
        obtain ⟨g4, s3, s4⟩ := Es.forget i1 s1
        have sb := s4.trans s2
        exact hq _ H' F' g4 ⟨w'.sub, s3.xno hd, w'.nd.sublist sb, fun a m => w'.off a (sb.subset m), ⟨w'.hi.t, fun p m => absurd m List.not_mem_nil⟩⟩ ((np'.set fun d z => by cases z).set fun d z => by cases z) ((pst.trans p').trans (.less sb))
      · rw [if_neg hd] at hq
        exact hq.elim
  · cases h
end
end L3

set_option maxRecDepth 100000
set_option maxHeartbeats 4000000
/-! L3.Stm9: a dict filled from a list; all statements. -/
namespace L3
open PySem PySem.Spec PyProof.Rows L2
variable [TbC]

theorem wipeE_len {e : Env} : ∀ {vs : List Nat}, (wipeE e vs).length = e.length
  | [] => rfl
  | v :: vs => by rw [wipeE, List.length_set]; exact wipeE_len
theorem wipeE_get {s : Env} : ∀ {vs : List Nat} {i : Nat}, (wipeE s vs)[i]? = if i ∈ vs ∧ i < s.length then some none else s[i]?
  | [], i => by simp
  | v :: vs, i => by
    rw [wipeE]
    rw [List.getElem?_set]
    by_cases h : v = i
    · subst h
      rw [if_pos rfl, wipeE_len]
      by_cases hl : v < s.length
      · rw [if_pos hl, if_pos ⟨List.mem_cons_self, hl⟩]
      · rw [if_neg hl, if_neg (fun z => hl z.2)]
        exact (List.getElem?_eq_none_iff.mpr (by omega)).symm
    · rw [if_neg h, wipeE_get]
      by_cases hm : i ∈ vs ∧ i < s.length
      · rw [if_pos hm, if_pos ⟨List.mem_cons_of_mem _ hm.1, hm.2⟩]
      · rw [if_neg hm, if_neg (fun z => hm ⟨(List.mem_cons.mp z.1).resolve_left (Ne.symm h), z.2⟩)]
theorem wipeE_put {s : Env} {vs : List Nat} {i : Nat} {x : Option D} (h : i ∈ vs) : wipeE (s.set i x) vs = wipeE s vs := by
  apply List.ext_getElem?
  intro j
  rw [wipeE_get, wipeE_get, List.length_set]
  by_cases hj : j ∈ vs ∧ j < s.length
  · rw [if_pos hj, if_pos hj]
  · rw [if_neg hj, if_neg hj, List.getElem?_set]
    by_cases e : i = j
    · subst e
      have hl : ¬ i < s.length := fun z => hj ⟨h, z⟩
      rw [if_pos rfl, if_neg hl]
      exact (List.getElem?_eq_none_iff.mpr (by omega)).symm
    · rw [if_neg e]
theorem wipeE_wipeE {s : Env} {vs : List Nat} : wipeE (wipeE s vs) vs = wipeE s vs := by
  apply List.ext_getElem?
  intro j
  rw [wipeE_get, wipeE_len]
  by_cases hj : j ∈ vs ∧ j < s.length
  · rw [if_pos hj, wipeE_get, if_pos hj]
  · rw [if_neg hj]
theorem tabs_dT {H : Hp} {a : Addr} {xs ys : List (List Key × V)} {T : List NdefX.NTab} (h : H a = some (.dT xs)) (t : NdefX.TabsN T H) : NdefX.TabsN T (upd H a (.dT ys)) := fun p hp => by
  obtain ⟨ps, h1, h2, h3⟩ := t p hp
  refine ⟨ps, (upd_ne fun z => ?_).trans h1, h2, fun pos cv hc => ?_⟩
  · rw [z, h] at h1
    cases h1
  · obtain ⟨c, e1, e2⟩ := h3 pos cv hc
    refine ⟨c, e1, (upd_ne fun z => ?_).trans e2⟩
    rw [z, h] at e2
    unfold LamX.CodeO at e2
    cases e2
theorem none_dT {H : Hp} {a b : Addr} {o : HO} (e : upd H a o b = none) : b ≠ a ∧ H b = none := by
  by_cases z : b = a
  · rw [z, upd_same] at e
    cases e
  · rw [upd_ne z] at e
    exact ⟨z, e⟩
theorem Ex.mutD {F H : Hp} {a : Addr} {xs ys : List (List Key × V)} (s : Ex F H) (ha : H a = some (.dT xs)) (off : F a = none) : Ex F (upd H a (.dT ys)) :=
  ⟨fun b u n e => (upd_ne fun z => by rw [z, off] at e; cases e).trans (s.k b u n e), fun b e => s.f b (none_dT e).2, fun h => tabs_dT ha (s.t h)⟩
theorem Tx.mutD {H : Hp} {a : Addr} {xs ys : List (List Key × V)} (h : H a = some (.dT xs)) : Tx H (upd H a (.dT ys)) := ⟨fun b u e => by
  have n : b ≠ a := fun z => by
    subst z
    rcases e with e | ⟨o, e⟩ <;> (rw [h] at e; cases e)
  rcases e with e | ⟨o, e⟩
  · exact .inl ((upd_ne n).trans e)
  · exact .inr ⟨o, (upd_ne n).trans e⟩, fun b e => (none_dT e).2, tabs_dT h⟩
/-- the same new thing on both sides -/
theorem Ex.both {F H : Hp} {q : Addr} {o : HO} (s : Ex F H) (hq : H q = none) (nt : ∀ F' : Hp, NdefX.TabsN TbC.T (upd F' q o) → F' q = none → NdefX.TabsN TbC.T F') : Ex (upd F q o) (upd H q o) := by
  have fq : F q = none := Ex.free s hq
  refine ⟨fun a u n e => ?_, fun a e => ?_, fun h => (Ex.new hq).t (s.t (nt F h fq))⟩
  · by_cases z : a = q
    · subst z
      rw [upd_same] at e ⊢
      exact e
    · rw [upd_ne z] at e ⊢
      exact s.k a u n e
  · obtain ⟨z, e⟩ := none_dT e
    rw [upd_ne z]
    exact s.f a e
theorem tabs_back {F : Hp} {q : Addr} {xs : List V} {T : List NdefX.NTab} (h : NdefX.TabsN T (upd F q (.tup xs))) : NdefX.TabsN T F := fun p hp => by
  obtain ⟨ps, h1, h2, h3⟩ := h p hp
  refine ⟨ps, ?_, h2, fun pos cv hc => ?_⟩
  · by_cases z : p.1 = q
    · rw [z, upd_same] at h1
      cases h1
    · rw [upd_ne z] at h1
      exact h1
  · obtain ⟨c, e1, e2⟩ := h3 pos cv hc
    refine ⟨c, e1, ?_⟩
    by_cases z : c = q
    · rw [z, upd_same] at e2
      unfold LamX.CodeO at e2
      cases e2
    · rw [upd_ne z] at e2
      exact e2
section
variable {K : Kx} {F H : Hp}
theorem R.flatV {d : D} {v : V} {fr : List Addr} (r : R K F H d v fr) (h : flatD d = true) : FlatV d v := by
  refine ⟨h, fun Kx F' H' => ?_⟩
  cases r <;> first | exact .non | exact .bl _ | exact .int _ | exact .str _ | (exact absurd (show false = true from h) Bool.false_ne_true)
theorem DicAt.mono {K : PySem.W.Frag} {F F' : Hp} {kvs : List (List Key × V)} {m : Int → Int → Option D} (e : Ex F F') (h : DicAt K F kvs m) : DicAt K F' kvs m := fun i j => by
  have := h i j
  cases hm : m i j with
  | none => rw [hm] at this; exact this
  | some d =>
    rw [hm] at this
    obtain ⟨x, y, vx, vy, t, h1, h2, h3, h4, h5⟩ := this
    exact ⟨x, y, vx, vy, t, h1, h2, h3, h4, tx_t e.tx h5⟩
theorem DicAt.nil {K : PySem.W.Frag} {F : Hp} : DicAt K F [] fun _ _ => none := fun i j => rfl
theorem DicAt.put {K : PySem.W.Frag} {F : Hp} {kvs : List (List Key × V)} {m : Int → Int → Option D} (h : DicAt K F kvs m) (a b : Int) {x y : D} {vx vy : V} {t : Addr} (hx : FlatV x vx) (hy : FlatV y vy) (ht : SqT K F t [vx, vy]) :
    DicAt K F (putK kvs [.inl a, .inl b] (.ref t)) fun i j => if i = a ∧ j = b then some (.tup [x, y]) else m i j := fun i j => by
  have hv := valV_put kvs [.inl a, .inl b] [.inl i, .inl j] (.ref t)
  by_cases e : i = a ∧ j = b
  · obtain ⟨rfl, rfl⟩ := e
    simp only [and_self, if_true]
    exact ⟨x, y, vx, vy, t, rfl, hx, hy, by rw [hv, if_pos rfl], ht⟩
  · have en : ¬ ([.inl i, .inl j] : List Key) = [.inl a, .inl b] := fun z => e (by
      injection z with z1 z2
      injection z2 with z2 _
      injection z1 with z1
      injection z2 with z2
      exact ⟨z1, z2⟩)
    have := h i j
    rw [if_neg en] at hv
    simp only [if_neg e]
    cases hm : m i j with
    | none => rw [hm] at this; rw [hv]; exact this
    | some d =>
      rw [hm] at this
      obtain ⟨x', y', vx', vy', t', h1, h2, h3, h4, h5⟩ := this
      exact ⟨x', y', vx', vy', t', h1, h2, h3, by rw [hv]; exact h4, h5⟩
end
theorem dicO_cons {d : D} {r : List D} {m m' : Int → Int → Option D} (h : dicO (d :: r) m = some m') : ∃ a b x y, d = .tup [.int a, .int b, x, y] ∧ flatD x = true ∧ flatD y = true ∧ dicO r (fun i j => if i = a ∧ j = b then some (.tup [x, y]) else m i j) = some m' := by
  rw [dicO.eq_def] at h
  split at h
  · rename_i e; cases e
  · rename_i e
    cases e
    split at h
    · rename_i hf
      exact ⟨_, _, _, _, rfl, hf.1, hf.2, h⟩
    · cases h
  · cases h
/-- what is known of the dict at p -/
def xiD (K : PySem.W.Frag) (p : Addr) (kvs : List (List Key × V)) (m : Int → Int → Option D) : Xi where
  ex := fun _ _ => False
  fo := fun n a F => a = p ∧ DicAt K F kvs m
  mono := fun e h => ⟨h.1, h.2.mono e⟩
  obs := [(p, .dT kvs)]
  obx := fun q h => by
    rw [List.mem_singleton] at h
    subst h
    rfl
section
variable {G : Tab}
theorem good_dic {c : Cc} {W : WX} {X : Cx} (g : GoodS c G xi0 W X) (p : Addr) (kvs : List (List Key × V)) (m : Int → Int → Option D) :
    GoodS { c with fns := [], clo := false, vis := none, nml := [], dic := true, z := false } { G with fns := [], dk := m } (xiD X.K p kvs m) W X where
  N := g.N
  sc := g.sc
  nd := g.nd
  cm := g.cm
  hu := g.hu
  blt := g.blt
  fns := rfl
  csts := g.csts
  calls := fun cl h => absurd h List.not_mem_nil
  glo := fun p hp => by
    obtain ⟨u, v, h1, h2, h3⟩ := g.glo p hp
    exact ⟨u, v, h1, h2, fun F H => R.xim (xi := xi0) (fun a n h => False.elim h) (fun n a h => False.elim h) (h3 F H)⟩
  tk := g.tk
  exs := g.exs
  vae := g.vae
  isx := fun a n h => h.elim
  xno := fun _ _ _ h => h
  dik := fun _ n a F h => ⟨kvs, by
    have : a = p := h.1
    subst this
    exact List.mem_cons_self, h.2⟩
  z := fun h => absurd (show false = true from h) Bool.false_ne_true
  clo := fun h => absurd (show false = true from h) Bool.false_ne_true
  vst := fun x h => nomatch h
  xnv := fun h => absurd rfl h
  mkc := fun h => absurd rfl h
  fnc := g.fnc
  pas := g.pas
  fn := g.fn
  stk := g.stk
  frm := g.frm
  err := g.err
  exm := g.exm
  ndf := fun h => absurd rfl h
  isk := g.isk
/-- where the filling stands -/
structure DcW (K : PySem.W.Frag) (F0 H0 : Hp) (fp0 : List Addr) (envW : Env) (p : Addr) (slot : Nat) (ds : List D) (vs : List V) (mf : Int → Int → Option D) (i : Nat) (σ : L2.St) (H : Hp) (F : Hp) (fp : List Addr) (kvs : List (List Key × V)) (m : Int → Int → Option D) : Prop where
  w : Wd ⟨K, xi0⟩ F H envW σ fp
  rs : Rs ⟨K, xi0⟩ F H (frzs [.lst .fz ds]) vs []
  at_ : H p = some (.dT kvs)
  off : F p = none
  sl : σ[slot]? = some (some (.ref p))
  dic : DicAt K F kvs m
  le : kvs.length ≤ i
  go : dicO ((frzs ds).drop i) m = some mf
  pst : Pst F0 H0 fp0 F H fp
theorem frz_flat {d : D} (h : flatD d = true) : frz d = d := by
  cases d <;> first | rfl | (exact absurd (show false = true from h) Bool.false_ne_true)
theorem dicO_frz : ∀ {ds : List D} {m mf : Int → Int → Option D}, dicO ds m = some mf → frzs ds = ds
  | [], _, _, _ => rfl
  | d :: r, m, mf, h => by
    obtain ⟨a, b, x, y, rfl, hx, hy, hr⟩ := dicO_cons h
    simp [dicO_frz hr, frz_flat hx, frz_flat hy]
theorem dicS_some {env : Env} {js : List Nat} {d : D} {m : Int → Int → Option D} (h : dicS env js d = some m) : ∃ f ds, d = .lst f ds ∧ ds.length ≤ 1000000 ∧ (∀ j ∈ js, j < env.length) ∧ nopk (.lst f ds) = true ∧ dicO ds (fun _ _ => none) = some m := by
  unfold dicS at h
  split at h
  · rename_i f ds
    split at h
    · rename_i hc
      exact ⟨f, ds, rfl, hc.1, fun j hj => of_decide_eq_true (List.all_eq_true.mp hc.2.1 j hj), hc.2.2, h⟩
    · cases h
  · cases h
theorem upd2 {H : Hp} {a : Addr} {o o' : HO} : upd (upd H a o) a o' = upd H a o' := by
  funext b
  by_cases z : b = a
  · rw [z, upd_same, upd_same]
  · rw [upd_ne z, upd_ne z, upd_ne z]
theorem sss_dic (i ja jb jc jd : Nat) (e : Exp) (r : Stms) (ihe : SE G xi0 e) (iha : SA G xi0 (.cons e .nil)) (ihn : SA G xi0 .nil) (ih : ∀ G xi, SSs G xi r) (xi : Xi) : SSs G xi (.dic i ja jb jc jd e r) := by
  intro c W X st g h
  rw [chkSs.eq_def] at h
  dsimp only at h
  split at h
  · rename_i x q1 q2 q3 a1 p1 b1 p2 c1 p3 d1 p4 k0 q0 iter x2 q4 a2 q5 b2 q6 k1 q7 q8 c2 q9 d2 q10 k2 q11 q12 q13 ss
    simp only [Bool.and_eq_true, decide_eq_true_eq] at h
    obtain ⟨⟨⟨⟨⟨⟨⟨⟨⟨⟨⟨h0, hz⟩, hx⟩, he⟩, ht⟩, vx⟩, va⟩, vb⟩, vc⟩, vd⟩, hnd⟩, hr⟩ := h
    have hxi : xi = xi0 := g.toGood.z hz
    subst hxi
    obtain ⟨x1, x3, x4⟩ := lof g hx
    have hIt : chkIt c .sql (.cons e .nil) (.Tuple [.Name a1 p1, .Name b1 p2, .Name c1 p3, .Name d1 p4] k0 q0) iter = true := by
      rw [chkIt.eq_def]
      simp [he]
    obtain ⟨pi, hs⟩ := pi_of g.toGood hIt iha ⟨ihe, ihn⟩
    have pg := pg_of g.fnc g.N g.sc g.nd (g.cm h0) (tg := .many [ja, jb, jc, jd]) (t := .Tuple [.Name a1 p1, .Name b1 p2, .Name c1 p3, .Name d1 p4] k0 q0) ht
    obtain ⟨m1, m2, m3, m4⟩ := g.toGood.vis vx
    obtain ⟨ma1, ma2, ma3, ma4⟩ := g.toGood.vis va
    obtain ⟨mb1, mb2, mb3, mb4⟩ := g.toGood.vis vb
    obtain ⟨mc1, mc2, mc3, mc4⟩ := g.toGood.vis vc
    obtain ⟨md1, md2, md3, md4⟩ := g.toGood.vis vd
    have hu : X.A.units + 1 < cLine := by have := g.hu; omega
    have st1 : ∀ (y : Str) (p : Pos) (es : List Expr), starEach (.Name y p :: es) X.env = (false, eval (.Name y p) X.env) :: starEach es X.env := fun y p es => rfl
    have pv := pe_tup (x1 := k2) (pos := q11) (pa_cons (pe_var (i := jc) (pos := q9) mc1 mc2 mc3 mc4) (pa_cons (pe_var (i := jd) (pos := q10) md1 md2 md3 md4) pa_nil (st1 _ _ _)) (st1 _ _ _))
    have pk := pe_tup (x1 := k1) (pos := q7) (pa_cons (pe_var (i := ja) (pos := q5) ma1 ma2 ma3 ma4) (pa_cons (pe_var (i := jb) (pos := q6) mb1 mb2 mb3 mb4) pa_nil (st1 _ _ _)) (st1 _ _ _))
    have pb := pss_cons (ps_dput (pos := q12) (pos' := q8) hu (pe_var (i := i) (pos := q4) m1 m2 m3 m4) pk pv (noswap _ _ _ _ rfl)) pss_nil
    have P1 := ps_set (pos := q3) (pos' := q1) g.nd x1 x3 (pe_dnewT (X := X) (pos := q2)) (noswap _ _ _ _ rfl) x4
    have P2 := ps_for (pos := q13) (g.pas h0) (g.cm h0) pi pg pb hs
    have PR : PSs X ss (fun E σ H => ∃ p kvs m, rdSs ⟨X.K, xiD X.K p kvs m⟩ X.mg W { G with fns := [], dk := m } r E σ H) :=
      ⟨fun pins s σ H E I ⟨p, kvs, m, hw⟩ => (ih _ _ (good_dic g p kvs m) hr).run pins s σ H E I hw⟩
    refine (pss_cons P1 (pss_cons P2 PR)).imp3 fun E σ H hq => ?_
    obtain ⟨env, F, fp, w, np, hq⟩ := hq
    rw [execs] at hq
    intro p hp
    have eH : Ex H (upd H p (.dT [])) := Ex.new hp
    obtain ⟨g0, z1, z2⟩ := Es.drop i (some (.ref p)) w.es
    have w0 : Wd ⟨X.K, xi0⟩ F (upd H p (.dT [])) (env.set i none) (σ.set i (some (.ref p))) g0 := ⟨w.sub.trans eH, z1.mono (Ex.refl F) eH, w.nd.sublist z2, fun a m => w.off a (z2.subset m), w.hi.ex eH⟩
    have np0 : npE (env.set i none) := np.set fun d z => nomatch z
    have pst0 : Pst F H fp F (upd H p (.dT [])) g0 := .of_ex eH (Ex.refl F) (fun a h1 h2 => absurd h1 h2) fun a m => .inl (z2.subset m)
    show rdA ⟨X.K, xi0⟩ X.mg W G (.cons e .nil) (σ.set i (some (.ref p))) (upd H p (.dT [])) _
    refine ⟨env.set i none, F, g0, w0, ?_⟩
    rw [evs]
    cases ee : ev G e (env.set i none) with
    | no => rw [ee] at hq; exact hq.elim
    | ex n => rw [ee] at hq; exact OutW.rai (OutW.mono hq pst0) w0 np0
    | ok d =>
    rw [ee, Res.out_ok] at hq
    rw [Res.bind_ok, evs, Res.bind_ok]
    intro vs H1 F1 f1 o1
    cases hd : dicS env [i, ja, jb, jc, jd] d with
    | none => rw [hd] at hq; exact hq.elim
    | some mf =>
      rw [hd, someOk_some, Res.out_ok] at hq
      obtain ⟨f, ds, rfl, dl, jl, npd, hdo⟩ := dicS_some hd
      have hfz : frzs ds = ds := dicO_frz hdo
      have hn : nopks [D.lst f ds] = true := by rw [nopks, npd]; rfl
      have ei : items .sql (frzs [D.lst f ds]) = some ds := by rw [frzs, frz, hfz]; rfl
      have eG : Ex F1 (addF F1 H1 f1) := addF_ex o1.off
      have sub2 := addF_sub o1.sub (fp := f1) fun a m => o1.r.has a m
      have rz := Rs.frz eG o1.r hn fun a m => addF_in m
      refine rIt_of (K := ⟨X.K, xi0⟩) sub2 rz ei fun J wk => ?_
      have w1 := w0.next o1.eH o1.eF o1.sub o1.new
      have dis : ∀ a ∈ g0, a ∉ f1 := fun a m z => by
        obtain ⟨ys, hz⟩ := w0.es.has a m
        have := (o1.fresh a z).resolve_left List.not_mem_nil
        rw [hz] at this
        cases this
      have w2 : Wd ⟨X.K, xi0⟩ (addF F1 H1 f1) H1 (env.set i none) (σ.set i (some (.ref p))) g0 := ⟨sub2, w1.es.mono eG (Ex.refl _), w1.nd, fun a m => by rw [addF_out (dis a m)]; exact w1.off a m, w1.hi⟩
      have p2 : Pst F (upd H p (.dT [])) g0 (addF F1 H1 f1) H1 g0 := .of_ex o1.eH (o1.eF.trans eG) (fun a h1 h2 => by
        by_cases m : a ∈ f1
        · exact (o1.fresh a m).resolve_left List.not_mem_nil
        · rw [addF_out m] at h2
          exact o1.new a h1 h2) fun a m => .inl m
      have hp0 : (upd H p (.dT [])) p = some (.dT []) := upd_same
      have hp1 : H1 p = some (.dT []) := o1.eH.k _ _ rfl hp0
      have offp : addF F1 H1 f1 p = none := by
        have np1 : p ∉ f1 := fun m => by
          have := (o1.fresh p m).resolve_left List.not_mem_nil
          rw [hp0] at this
          cases this
        rw [addF_out np1]
        cases e1 : F1 p with
        | none => rfl
        | some o =>
          have := o1.new p (Ex.free w.sub hp) (by rw [e1]; exact fun q => nomatch q)
          rw [hp0] at this
          cases this
      obtain ⟨g3, w3, sb3⟩ := w2.forgets [ja, jb, jc, jd]
      have np3 : npE (wipeE (env.set i none) [ja, jb, jc, jd]) := np0.forgets _
      have hil : i < σ.length := by rw [← w.es.length]; exact jl i List.mem_cons_self
      have hsl : (σ.set i (some (.ref p)))[i]? = some (some (.ref p)) := List.getElem?_set_self hil
      have pst1 := (pst0.trans p2).trans (.less sb3)
      generalize henvW : wipeE (env.set i none) [ja, jb, jc, jd] = envW at w3 np3 hq
      refine ⟨fun n m σ3 H3 => m = ds.length - n ∧ n ≤ ds.length ∧ ∃ F3 fp3 kvs mm, DcW X.K F H fp envW p i ds vs mf n σ3 H3 F3 fp3 kvs mm, ⟨_, rfl, Nat.zero_le _, _, g3, [], _, ⟨w3, ?_, hp1, offp, hsl, DicAt.nil, Nat.le_refl _, ?_, pst1⟩⟩, ?_⟩
      · rw [show frzs [D.lst .fz ds] = frzs [D.lst f ds] by simp]
        exact rz
      · rw [hfz, List.drop_zero]
        exact hdo
      rintro n m σ3 H3 ⟨rfl, hn2, F3, fp3, kvs, mm, C⟩
      have rs3 : Rs ⟨X.K, xi0⟩ F3 H3 (frzs [D.lst f ds]) vs [] := by
        have := C.rs
        rw [show frzs [D.lst .fz ds] = frzs [D.lst f ds] by simp] at this
        exact this
      have hgo := C.go
      rw [hfz] at hgo
      by_cases hlt : n < ds.length
      · rw [List.drop_eq_getElem_cons hlt] at hgo
        obtain ⟨a, b, xx, yy, hde, fx, fy, hgo2⟩ := dicO_cons hgo
        have hxd : ds[n]? = some (.tup [.int a, .int b, xx, yy]) := by rw [List.getElem?_eq_getElem hlt, hde]
        refine .inr ⟨wk.go F3 H3 n C.w.sub rs3 hlt, _, fun σ' H' hw => ⟨ds.length - (n + 1), by omega, hw⟩, fun x5 H4 yl => ?_⟩
        obtain ⟨eH4, rx⟩ := wk.yld F3 H3 n _ x5 H4 C.w.sub rs3 hxd yl
        have w4 := C.w.next eH4 (Ex.refl _) (C.w.sub.trans eH4) fun a h1 h2 => absurd h1 h2
        have eb : bindT (.many [ja, jb, jc, jd]) (.tup [.int a, .int b, xx, yy]) envW = some ((((envW.set ja (some (.int a))).set jb (some (.int b))).set jc (some xx)).set jd (some yy)) := rfl
        refine gTg_of (K := ⟨X.K, xi0⟩) eb rx w4.es w4.nd fun σ5 fp5 es5 nd5 sb5 wp => ?_
        have hWl : envW.length = env.length := by rw [← henvW, wipeE_len, List.length_set]
        simp only [List.nodup_cons, List.mem_cons, List.not_mem_nil, or_false, not_or, not_false_eq_true, List.nodup_nil, and_true] at hnd
        obtain ⟨⟨nia, nib, nic, nid⟩, ⟨nab, nac, nad⟩, ⟨nbc, nbd⟩, ncd⟩ := hnd
        have la : ja < envW.length := by rw [hWl]; exact jl ja (by simp)
        have lb : jb < envW.length := by rw [hWl]; exact jl jb (by simp)
        have lc : jc < envW.length := by rw [hWl]; exact jl jc (by simp)
        have ld : jd < envW.length := by rw [hWl]; exact jl jd (by simp)
        have ea : ((((envW.set ja (some (.int a))).set jb (some (.int b))).set jc (some xx)).set jd (some yy))[ja]? = some (some (.int a)) := by
          rw [List.getElem?_set_ne (Ne.symm nad), List.getElem?_set_ne (Ne.symm nac), List.getElem?_set_ne (Ne.symm nab), List.getElem?_set_self la]
        have ebb : ((((envW.set ja (some (.int a))).set jb (some (.int b))).set jc (some xx)).set jd (some yy))[jb]? = some (some (.int b)) := by
          rw [List.getElem?_set_ne (Ne.symm nbd), List.getElem?_set_ne (Ne.symm nbc), List.getElem?_set_self (by rw [List.length_set]; exact lb)]
        have ec : ((((envW.set ja (some (.int a))).set jb (some (.int b))).set jc (some xx)).set jd (some yy))[jc]? = some (some xx) := by
          rw [List.getElem?_set_ne (Ne.symm ncd), List.getElem?_set_self (by rw [List.length_set, List.length_set]; exact lc)]
        have ed : ((((envW.set ja (some (.int a))).set jb (some (.int b))).set jc (some xx)).set jd (some yy))[jd]? = some (some yy) := by
          rw [List.getElem?_set_self (by rw [List.length_set, List.length_set, List.length_set]; exact ld)]
        obtain ⟨va, ga, sa, ra, _⟩ := es5.get ea
        obtain ⟨vb, gb, sb, rb, _⟩ := es5.get ebb
        obtain ⟨vx, gx, sx, rxx, _⟩ := es5.get ec
        obtain ⟨vy, gy, sy, ryy, _⟩ := es5.get ed
        cases ra
        cases rb
        have fvx := rxx.flatV fx
        have fvy := ryy.flatV fy
        have si : σ5[i]? = some (some (.ref p)) := by
          have e1 := congrArg (fun l => l[i]?) wp
          simp only [Tg.slots] at e1
          rw [wipe_get, wipe_get, if_neg (fun z => by simp [nia, nib, nic, nid] at z), if_neg (fun z => by simp [nia, nib, nic, nid] at z)] at e1
          rw [e1]
          exact C.sl
        have h4p : H4 p = some (.dT kvs) := eH4.k _ _ rfl C.at_
        refine ⟨vx, sx, vy, sy, by rw [sizeLine_eq]; simp, fun t1 ht1 => ⟨.ref p, si, .int a, sa, .int b, sb, by rw [sizeLine_eq]; simp, fun t2 ht2 => ?_⟩⟩
        have n1 : p ≠ t1 := fun z => by rw [z] at h4p; rw [ht1] at h4p; cases h4p
        have n12 : t2 ≠ t1 := fun z => by rw [z, upd_same] at ht2; cases ht2
        have h4t2 : H4 t2 = none := by rw [upd_ne n12] at ht2; exact ht2
        have n2 : p ≠ t2 := fun z => by rw [z] at h4p; rw [h4t2] at h4p; cases h4p
        have h5p : (upd (upd H4 t1 (.tup [vx, vy])) t2 (.tup [.int a, .int b])) p = some (.dT kvs) := by rw [upd_ne n2, upd_ne n1]; exact h4p
        have kl := C.le
        refine ⟨p, _, rfl, DPut.t (kvs := kvs) (k := [.inl a, .inl b]) h5p upd_same (by rw [sizeLine_eq]; omega), ?_⟩
        have E5 : Ex H4 (upd (upd H4 t1 (.tup [vx, vy])) t2 (.tup [.int a, .int b])) := (Ex.new ht1).trans (Ex.new ht2)
        have sub5 : Ex (upd F3 t1 (.tup [vx, vy])) (upd (upd H4 t1 (.tup [vx, vy])) t2 (.tup [.int a, .int b])) := (w4.sub.both ht1 fun F' h _ => tabs_back h).trans (Ex.new ht2)
        have f3t1 : F3 t1 = none := Ex.free w4.sub ht1
        have eF : Ex F3 (upd F3 t1 (.tup [vx, vy])) := Ex.new f3t1
        have off5 : (upd F3 t1 (.tup [vx, vy])) p = none := by rw [upd_ne n1]; exact C.off
        have tx6 := Tx.mutD (ys := putK kvs [.inl a, .inl b] (.ref t1)) h5p
        have sub6 := sub5.mutD (ys := putK kvs [.inl a, .inl b] (.ref t1)) h5p off5
        have npx5 : npE ((((envW.set ja (some (.int a))).set jb (some (.int b))).set jc (some xx)).set jd (some yy)) := by
          refine (((np3.set fun d z => ?_).set fun d z => ?_).set fun d z => ?_).set fun d z => ?_
          · cases z; rfl
          · cases z; rfl
          · cases z; revert fx; cases xx <;> intro fx <;> first | rfl | (exact absurd (show false = true from fx) Bool.false_ne_true)
          · cases z; revert fy; cases yy <;> intro fy <;> first | rfl | (exact absurd (show false = true from fy) Bool.false_ne_true)
        have mfp : ∀ b' ∈ fp5, b' ∈ fp3 := sb5
        have h5fp : ∀ b' o, b' ∈ fp5 → H4 b' = some (.lst o) → (upd (upd (upd H4 t1 (.tup [vx, vy])) t2 (.tup [.int a, .int b])) p (.dT (putK kvs [.inl a, .inl b] (.ref t1)))) b' = some (.lst o) := fun b' o m e => by
          have e5 := E5.k _ _ rfl e
          rw [upd_ne (fun z => by rw [z, h5p] at e5; cases e5)]
          exact e5
        have es6 := Es.keep eF (E5.tx.trans tx6) es5 npx5 h5fp
        have w6 : Wd ⟨X.K, xi0⟩ (upd F3 t1 (.tup [vx, vy])) (upd (upd (upd H4 t1 (.tup [vx, vy])) t2 (.tup [.int a, .int b])) p (.dT (putK kvs [.inl a, .inl b] (.ref t1)))) _ σ5 fp5 := ⟨sub6, es6, nd5, fun b' m => by
          have z0 := C.w.off b' (mfp b' m)
          obtain ⟨ys, hy⟩ := es5.has b' m
          exact (upd_ne (fun z => by rw [z, ht1] at hy; cases hy)).trans z0, ⟨tabs_dT h5p (E5.t w4.hi.t), fun p m => absurd m List.not_mem_nil⟩⟩
        obtain ⟨g7, w7, sb7⟩ := w6.forgets [ja, jb, jc, jd]
        have eW : wipeE ((((envW.set ja (some (.int a))).set jb (some (.int b))).set jc (some xx)).set jd (some yy)) [ja, jb, jc, jd] = envW := by
          rw [wipeE_put (by simp), wipeE_put (by simp), wipeE_put (by simp), wipeE_put (by simp), ← henvW, wipeE_wipeE]
        rw [eW] at w7
        have pst3 := C.pst
        have hp3 : H p = none := hp
        refine ⟨rfl, hlt, _, g7, _, _, ⟨w7, ?_, upd_same, off5, si, (C.dic.mono eF).put a b fvx fvy (.inl (.inl upd_same)), ?_, ?_, ?_⟩⟩
        · exact (C.rs.mono (Ex.refl F3) eH4).keep eF (E5.tx.trans tx6) (nopks_frzs _) (fun a o m => absurd m List.not_mem_nil)
        · have := length_putK kvs [.inl a, .inl b] (.ref t1)
          omega
        · rw [hfz]
          exact hgo2
        · refine ⟨fun a' o nt e n => ?_, pst3.eF.trans eF, fun a' h1 h2 => ?_, fun a' m => pst3.fresh a' (mfp a' (sb7.subset m)), pst3.tx.trans (eH4.tx.trans (E5.tx.trans tx6))⟩
          · refine (upd_ne fun z => ?_).trans (E5.k _ _ nt (eH4.k _ _ nt (pst3.keep a' o nt e n)))
            rw [z, hp3] at e
            cases e
          · cases e3 : F3 a' with
            | some u => exact pst3.new a' h1 (by rw [e3]; exact fun q => nomatch q)
            | none =>
              by_cases z : a' = t1
              · exact .inr (pst3.tx.f _ (Ex.free eH4 (z ▸ ht1)))
              · rw [upd_ne z] at h2
                exact absurd e3 h2
      · have hge : ds.drop n = [] := List.drop_eq_nil_iff.mpr (by omega)
        rw [hge] at hgo
        have emf : mm = mf := Option.some.inj hgo
        subst emf
        refine .inl ⟨wk.stop F3 H3 n C.w.sub rs3 (by omega), p, kvs, mm, ?_⟩
        have es1 : Es ⟨X.K, xiD X.K p kvs mm⟩ F3 H3 envW σ3 fp3 := C.w.es.xim (xi := xi0) (fun a n h => False.elim h) (fun n a h => False.elim h)
        obtain ⟨g8, y1, y2, y3⟩ := Es.put (d := .clo 0) (v := .ref p) (g := []) (R.clo (show (xiD X.K p kvs mm).fo 0 p F3 from ⟨rfl, C.dic⟩)) i es1
        rw [set_self C.sl] at y1
        have mem : ∀ b ∈ g8, b ∈ fp3 := fun b z => (y2 b z).resolve_left List.not_mem_nil
        have w8 : Wd ⟨X.K, xiD X.K p kvs mm⟩ F3 H3 (envW.set i (some (.clo 0))) σ3 g8 := ⟨C.w.sub, y1, y3 C.w.nd, fun b z => C.w.off b (mem b z), ⟨C.w.hi.t, fun q m => by
          rw [List.mem_singleton.mp (show q ∈ [(p, HO.dT kvs)] from m)]
          exact C.at_⟩⟩
        have np8 : npE (envW.set i (some (.clo 0))) := np3.set fun d z => by cases z; rfl
        have pst8 : Pst F H fp F3 H3 g8 := C.pst.trans ⟨fun a o _ h _ => h, Ex.refl _, fun a h1 h2 => absurd h1 h2, fun a m => .inl (mem a m), Tx.refl _⟩
        refine ⟨_, F3, g8, w8, np8, ?_⟩
        cases eb : execs { G with fns := [], dk := mm } r (envW.set i (some (.clo 0))) with
        | bk _ => rw [eb] at hq; exact hq.elim
        | ct _ => rw [eb] at hq; exact hq.elim
        | ex _ _ => rw [eb] at hq; exact hq.elim
        | no => rw [eb] at hq; exact hq.elim
        | rt d =>
          rw [eb] at hq
          dsimp only at hq
          by_cases hd : noexc d = true
          · rw [if_pos hd] at hq
            intro v H' F' fr rr n o e' np' p'
            exact hq v H' F' fr (R.xno trivial rr hd) n o e' np' (pst8.trans p')
          · rw [if_neg hd] at hq
            exact hq.elim
        | nx en =>
          rw [eb] at hq
          dsimp only at hq
          by_cases hd : noexcE (en.set i none) = true
          · rw [if_pos hd] at hq
            intro σ' H' F' fp' w' np' p'
            obtain ⟨g9, s1, s2⟩ := Es.forget i w'.es
            exact hq _ H' F' g9 ⟨w'.sub, s1.xno hd, w'.nd.sublist s2, fun a m => w'.off a (s2.subset m), ⟨w'.hi.t, fun p m => absurd m List.not_mem_nil⟩⟩ (np'.set fun d z => by cases z) ((pst8.trans p').trans (.less s2))
          · rw [if_neg hd] at hq
            exact hq.elim
  · cases h
end
end L3

set_option maxRecDepth 100000
set_option maxHeartbeats 4000000
/-! L3.Stp: a dict's int keys from rows of numbers, sorted. -/
namespace L3
open PySem PySem.Spec PyProof.Rows L2
/-- sorted(d) of a dict, its keys ints, any number of them -/
theorem cr_sortedDN {X : Cx} (hcalm : X.calm = true) : CallR X (.builtin "sorted") (fun xs H Q => ∃ (a : Addr) (kvs : List (Key × V)) (ks : List Int), xs = [.ref a] ∧ Rd H a (.dK kvs) ∧ kvs.map (·.1) = ks.map Sum.inl ∧ ks.length ≤ 1000000 ∧
    ∀ (ys : List Int) (p : Addr), ys.Perm ks → ys.Pairwise (· ≤ ·) → H p = none → Q (.ref p) (upd H p (.lst (ys.map V.int)))) := by
  intro pins s σ H xs us Q I r q
  obtain ⟨a, kvs, ks, ex, hd, hks, h64, q⟩ := q
  subst ex
  obtain ⟨u, eu, rx⟩ := vals1 r
  subst eu
  cases rx
  obtain ⟨z, lo, vs, rel, dd⟩ := dk_rd I.hok hd
  obtain ⟨ep, hat⟩ := dd.dictAt
  have hkeys : vs.map (·.1) = ks.map Sum.inl := rel.keys.symm.trans hks
  have hl : vs.length = ks.length := by
    have e := congrArg List.length hkeys
    rw [List.length_map, List.length_map] at e
    exact e
  have h16 : vs.length ≤ sizeLine := by rw [hl, sizeLine_eq]; omega
  refine Calls.call_function_entry PyProof.Rows.kind_sorted PyProof.Rows.plain_sorted PyProof.Rows.entry_sorted (PyProof.Rows.args_sorted1 _) ?_
  unfold Builtin.«sorted»
  refine wpAny_bind (m := checkCount "sorted" 1 1 _) (wpAny_pure ?_)
  refine wpAny_bind (PySem.W.kdu_collect (A := X.A.in1) (PySem.W.kdl_dict (knd := mixKind X.prog X.w) (kvs := vs) (ep := ep) lo) (I.ok.hd hcalm) hat h16 fun h' tk acc hk hacc => ?_)
  have hal : acc.toList.length = ks.length := by rw [Array.length_toList, hacc.1, hl]
  have hS : IntsAre acc.toList ks := ints_each hal fun j v e => by
    obtain ⟨k, x, e1, e2⟩ := hacc.2 j v (by rw [← Array.getElem?_toList]; exact e)
    have e3 : (vs.map (·.1))[j]? = some k := by rw [List.getElem?_map, e1]; rfl
    rw [hkeys, List.getElem?_map] at e3
    cases e4 : ks[j]? with
    | none => rw [e4] at e3; cases e3
    | some y =>
      rw [e4] at e3
      have e5 : Sum.inl y = k := Option.some.inj e3
      subst e5
      rcases keyIs_shape (show keyIs (Sum.inl y) v = true from e2) with ⟨i, t, ek, ev⟩ | ⟨z, t, ek, ev⟩
      · cases ek
        exact ⟨y, t, rfl, ev⟩
      · cases ek
  have I1 : Inv X pins σ H { s with heap := h', toks := tk } := I.kept hk
  refine wpAny_bind (wpAny_newList ?_ (by rw [hal, sizeLine_eq]; omega))
  have hoL : (h'.push (seqObj "list" acc.toList.toArray 0)).get? h'.objs.size = some (seqObj "list" acc.toList.toArray 0) := Heap.get?_push_size _ rfl
  show wpAny _ _ _ _ _ { s with heap := h'.push (seqObj "list" acc.toList.toArray 0), toks := tk }
  refine wpAny_bind (wpAny_holding (wpAny_call_entry PyProof.Rows.slot_list_sort ⟨_, hoL, rfl⟩ PyProof.Rows.entry_list_sort
    (SrtO.list_sort_ord (s := { s with heap := h'.push (seqObj "list" acc.toList.toArray 0), toks := tk }) SrtO.swo_int hoL (by rw [hal, sizeLine_eq]; omega) (fun h2 => SrtO.ints_sortable hS h2) fun out h1 h2 => ⟨_, rfl, ?_⟩) (PyProof.Rows.args_list_sort _)))
  obtain ⟨g1, g2, g3⟩ := SrtO.ints_out hS h1 h2
  obtain ⟨e', he'⟩ := PyProof.Rows.sortedHeap_at (vs := acc.toList) (out := out.toArray) hoL
  have hlen : ((out.map SrtO.iv).map V.int).length ≤ sizeLine := by
    rw [List.length_map, g2.length_eq, sizeLine_eq]
    omega
  refine wpAny_pure ⟨_, rfl, .ref h'.objs.size, upd H h'.objs.size (.lst ((out.map SrtO.iv).map V.int)), I1.laid (t' := tk) (fun b u e => ?_) (Nat.le_refl _)
    (show ObjOk X.prog X.w _ _ _ (.lst ((out.map SrtO.iv).map V.int)) from ⟨hlen, out, e', vals_of_ints g1, he'⟩), rfl, q _ _ g2 g3 (I1.hok.fresh (Nat.le_refl _))⟩
  have hb : b < h'.objs.size := Heap.lt_size e
  rw [PyProof.Rows.sortedHeap_old (Nat.ne_of_lt hb) (by rw [size_push']; exact Nat.lt_succ_of_lt hb)]
  exact Heap.get?_push_of_some _ e
/-! ### sorted lists of ints -/
theorem insI_perm (x : Int) : ∀ l : List Int, (insI x l).Perm (x :: l)
  | [] => List.Perm.refl _
  | y :: r => by
    rw [insI]
    split
    · exact List.Perm.refl _
    · exact ((insI_perm x r).cons y).trans (List.Perm.swap x y r)
theorem sortI_perm : ∀ l : List Int, (sortI l).Perm l
  | [] => List.Perm.refl _
  | x :: r => (insI_perm x _).trans ((sortI_perm r).cons x)
theorem insI_sort (x : Int) : ∀ {l : List Int}, l.Pairwise (· ≤ ·) → (insI x l).Pairwise (· ≤ ·)
  | [], _ => List.pairwise_singleton _ _
  | y :: r, h => by
    obtain ⟨h1, h2⟩ := List.pairwise_cons.mp h
    rw [insI]
    split
    · rename_i hxy
      refine List.pairwise_cons.mpr ⟨fun z hz => ?_, h⟩
      rcases List.mem_cons.mp hz with e | hz
      · rw [e]; exact hxy
      · exact Int.le_trans hxy (h1 z hz)
    · rename_i hxy
      refine List.pairwise_cons.mpr ⟨fun z hz => ?_, insI_sort x h2⟩
      rcases List.mem_cons.mp ((insI_perm x r).mem_iff.mp hz) with e | hz
      · rw [e]; omega
      · exact h1 z hz
theorem sortI_sort : ∀ l : List Int, (sortI l).Pairwise (· ≤ ·)
  | [] => List.Pairwise.nil
  | x :: r => insI_sort x (sortI_sort r)
theorem sort_unique {l m : List Int} (h : l.Perm m) (hs : l.Pairwise (· ≤ ·)) : l = sortI m :=
  List.Perm.eq_of_pairwise (le := (· ≤ ·)) (fun a b _ _ h1 h2 => Int.le_antisymm h1 h2) hs (sortI_sort m) (h.trans (sortI_perm m).symm)
theorem addK_len (acc : List Int) (k : Int) : (addK acc k).length ≤ acc.length + 1 := by
  unfold addK
  split
  · omega
  · simp
theorem stpK_len (b : Int) (acc : List Int) (q : Int) : (stpK b acc q).length ≤ acc.length + 2 := by
  unfold stpK
  have := addK_len acc (q.fmod b)
  have := addK_len (addK acc (q.fmod b)) ((-q).fmod b)
  omega
theorem put_keys {kvs : List (Key × V)} {ks : List Int} (h : kvs.map (·.1) = ks.map Sum.inl) (k : Int) (v : V) : (putK kvs (.inl k) v).map (·.1) = (addK ks k).map Sum.inl := by
  have hany : (kvs.any fun kv => decide (kv.1 = (.inl k : Key))) = decide (k ∈ ks) := by
    have e1 : (kvs.any fun kv => decide (kv.1 = (.inl k : Key))) = (kvs.map (·.1)).any fun z => decide (z = (.inl k : Key)) := by rw [List.any_map]; rfl
    rw [e1, h, List.any_map]
    by_cases m : k ∈ ks
    · rw [decide_eq_true m]
      exact List.any_eq_true.mpr ⟨k, m, by simp⟩
    · rw [decide_eq_false m]
      rw [List.any_eq_false]
      intro z hz e
      have : (Sum.inl z : Key) = .inl k := of_decide_eq_true e
      injection this with this
      exact m (this ▸ hz)
  unfold putK addK
  rw [hany]
  by_cases m : k ∈ ks
  · rw [if_pos (decide_eq_true m), if_pos m, List.map_map, ← h]
    apply List.map_congr_left
    intro kv _
    show (if kv.1 = _ then (kv.1, v) else kv).1 = kv.1
    split <;> rfl
  · rw [if_neg (by simpa using m), if_neg m, List.map_append, List.map_append, h]
    rfl
variable [TbC]
theorem tabs_dK {H : Hp} {a : Addr} {xs ys : List (Key × V)} {T : List NdefX.NTab} (h : H a = some (.dK xs)) (t : NdefX.TabsN T H) : NdefX.TabsN T (upd H a (.dK ys)) := fun p hp => by
  obtain ⟨ps, h1, h2, h3⟩ := t p hp
  refine ⟨ps, (upd_ne fun z => ?_).trans h1, h2, fun pos cv hc => ?_⟩
  · rw [z, h] at h1
    cases h1
  · obtain ⟨c, e1, e2⟩ := h3 pos cv hc
    refine ⟨c, e1, (upd_ne fun z => ?_).trans e2⟩
    rw [z, h] at e2
    unfold LamX.CodeO at e2
    cases e2
theorem Ex.mutK {F H : Hp} {a : Addr} {xs ys : List (Key × V)} (s : Ex F H) (ha : H a = some (.dK xs)) (off : F a = none) : Ex F (upd H a (.dK ys)) :=
  ⟨fun b u n e => (upd_ne fun z => by rw [z, off] at e; cases e).trans (s.k b u n e), fun b e => s.f b (none_dT e).2, fun h => tabs_dK ha (s.t h)⟩
theorem Tx.mutK {H : Hp} {a : Addr} {xs ys : List (Key × V)} (h : H a = some (.dK xs)) : Tx H (upd H a (.dK ys)) := ⟨fun b u e => by
  have n : b ≠ a := fun z => by
    subst z
    rcases e with e | ⟨o, e⟩ <;> (rw [h] at e; cases e)
  rcases e with e | ⟨o, e⟩
  · exact .inl ((upd_ne n).trans e)
  · exact .inr ⟨o, (upd_ne n).trans e⟩, fun b e => (none_dT e).2, tabs_dK h⟩
/-- where the filling stands -/
structure StW (K : PySem.W.Frag) (F0 H0 : Hp) (fp0 : List Addr) (env : Env) (p : Addr) (slot : Nat) (ks : List Int) (σ : L2.St) (H F : Hp) (fp : List Addr) : Prop where
  w : Wd ⟨K, xi0⟩ F H env σ fp
  np : npE env
  at_ : ∃ kvs : List (Key × V), H p = some (.dK kvs) ∧ kvs.map (·.1) = ks.map Sum.inl
  off : F p = none
  sl : σ[slot]? = some (some (.ref p))
  fre : H0 p = none
  pst : Pst F0 H0 fp0 F H fp
section
variable {G : Tab} {W : WX} {mg : Str → Option Value} {K : PySem.W.Frag} {F0 H0 F H : Hp} {fp0 fp : List Addr} {env : Env} {p : Addr} {slot : Nat} {ks : List Int} {σ : L2.St}
/-- more is known -/
theorem StW.next (C : StW K F0 H0 fp0 env p slot ks σ H F fp) {H' F' : Hp} (eH : Ex H H') (eF : Ex F F') (sub : Ex F' H') (new : ∀ a, F a = none → F' a ≠ none → H a = none) : StW K F0 H0 fp0 env p slot ks σ H' F' fp := by
  obtain ⟨kvs, h1, h2⟩ := C.at_
  refine ⟨C.w.next eH eF sub new, C.np, ⟨kvs, eH.k _ _ rfl h1, h2⟩, ?_, C.sl, C.fre, C.pst.trans (.of_ex eH eF new fun a m => .inl m)⟩
  cases e : F' p with
  | none => rfl
  | some o =>
    have := new p C.off (by rw [e]; exact fun q => nomatch q)
    rw [h1] at this
    cases this
/-- one put -/
theorem st_put {kx : Exp} {k : Int} (C : StW K F0 H0 fp0 env p slot ks σ H F fp) (hl : ks.length ≤ 900000) (hk : ev G kx env = .ok (.int k)) {E : Ends}
    (h : ∀ H' F', Ex F F' → Tx H H' → StW K F0 H0 fp0 env p slot (addK ks k) σ H' F' fp → E.nx σ H') : sDPut (tVar slot) (rdE ⟨K, xi0⟩ mg W G kx) (rdE ⟨K, xi0⟩ mg W G (.bl true)) E σ H := by
  refine ⟨env, F, fp, C.w, ?_⟩
  rw [ev]
  intro v H1 F1 f1 o1
  have C1 := C.next o1.eH o1.eF o1.sub o1.new
  refine ⟨_, C1.sl, env, F1, fp, C1.w, ?_⟩
  rw [hk]
  intro y H3 F3 f3 o3
  obtain ⟨rfl, _⟩ := o3.r.int'
  have C3 := C1.next o3.eH o3.eF o3.sub o3.new
  obtain ⟨kvs, h1, h2⟩ := C3.at_
  have hlen : kvs.length = ks.length := by
    have := congrArg List.length h2
    rw [List.length_map, List.length_map] at this
    exact this
  refine ⟨p, _, rfl, DPut.k (kvs := kvs) (k := .inl k) h1 (by rw [sizeLine_eq]; omega), ?_⟩
  have tx := Tx.mutK (ys := putK kvs (.inl k) v) h1
  have sub := C3.w.sub.mutK (ys := putK kvs (.inl k) v) h1 C3.off
  have nep : ∀ b ∈ fp, b ≠ p := fun b m z => by
    obtain ⟨ys, hy⟩ := C3.w.es.has b m
    rw [z, h1] at hy
    cases hy
  refine h _ F3 (o1.eF.trans o3.eF) ((o1.eH.tx.trans o3.eH.tx).trans tx) ⟨⟨sub, Es.keep (Ex.refl _) tx C3.w.es C3.np fun b o m e => (upd_ne (nep b m)).trans e, C3.w.nd, C3.w.off, ⟨tabs_dK h1 C3.w.hi.t, fun p m => absurd m List.not_mem_nil⟩⟩, C3.np, ⟨_, upd_same, put_keys h2 k v⟩, C3.off, C3.sl, C3.fre, ?_⟩
  exact ⟨fun a o nt e n => (upd_ne fun z => by rw [z, C.fre] at e; cases e).trans (C3.pst.keep a o nt e n), C3.pst.eF, C3.pst.new, C3.pst.fresh, C3.pst.tx.trans tx⟩
/-- a target takes what is walked -/
theorem StW.bind (C : StW K F0 H0 fp0 env p slot ks σ H F fp) {j : Nat} {d : D} {x : V} (hj : slot ≠ j) (rx : R ⟨K, xi0⟩ F H d x []) (nd : nopk d = true) {Q : L2.St → Hp → Prop}
    (h : ∀ σ' fp', StW K F0 H0 fp0 (env.set j (some d)) p slot ks σ' H F fp' → Q σ' H) : gTg K (.one j) x σ H Q := by
  refine gTg_of (K := ⟨K, xi0⟩) (tg := .one j) (env := env) rfl rx C.w.es C.w.nd fun σ5 fp5 es5 nd5 sb5 wp => h σ5 fp5 ⟨⟨C.w.sub, es5, nd5, fun a m => C.w.off a (sb5 a m), C.w.hi⟩, C.np.set fun d' z => by cases z; exact nd, C.at_, C.off, ?_, C.fre, C.pst.trans ⟨fun a o _ h _ => h, Ex.refl _, fun a h1 h2 => absurd h1 h2, fun a m => .inl (sb5 a m), Tx.refl _⟩⟩
  have e1 := congrArg (fun l => l[slot]?) wp
  simp only [Tg.slots] at e1
  rw [wipe_get, wipe_get, if_neg (fun z => by simp [hj] at z), if_neg (fun z => by simp [hj] at z)] at e1
  rw [e1]
  exact C.sl
/-- .. and is forgotten -/
theorem StW.forget (C : StW K F0 H0 fp0 env p slot ks σ H F fp) (j : Nat) : ∃ fp', StW K F0 H0 fp0 (env.set j none) p slot ks σ H F fp' := by
  obtain ⟨g7, w7, sb7⟩ := C.w.forgets [j]
  exact ⟨g7, w7, C.np.set (fun d z => nomatch z), C.at_, C.off, C.sl, C.fre, C.pst.trans (.less sb7)⟩
end
theorem set_back {env : Env} {j : Nat} {d : Option D} (h : env[j]? = some none) : (env.set j d).set j none = env := by
  rw [List.set_set, set_self h]
theorem rows_frz : ∀ {ds : List D} {rs : List (List Int)}, rowsI ds = some rs → frzs ds = rs.map fun ns => D.lst .fz (ns.map .int)
  | [], rs, h => by cases h; rfl
  | d :: r, rs, h => by
    unfold rowsI at h
    cases d <;> try (cases h)
    rename_i f dn
    have h : (intsD dn).bind (fun ns => (rowsI r).map (ns :: ·)) = some rs := h
    cases e1 : intsD dn with
    | none => rw [e1] at h; cases h
    | some ns =>
      rw [e1] at h
      cases e2 : rowsI r with
      | none => rw [e2] at h; cases h
      | some rs' =>
        rw [e2] at h
        cases h
        have en : dn = ns.map .int := by
          have z : ∀ {l : List D} {m : List Int}, intsD l = some m → l = m.map .int := by
            intro l
            induction l with
            | nil => intro m h; cases h; rfl
            | cons d t ih =>
              intro m h
              unfold intsD at h
              cases d <;> try (cases h)
              rename_i k
              have h : (intsD t).map (k :: ·) = some m := h
              cases e : intsD t with
              | none => rw [e] at h; cases h
              | some m' =>
                rw [e] at h
                cases h
                rw [ih e]
                rfl
          exact z e1
        have hz : ∀ l : List Int, frzs (l.map .int) = l.map .int := by
          intro l
          induction l with
          | nil => rfl
          | cons a l ih => rw [List.map_cons, frzs, ih]; rfl
        rw [frzs, frz, rows_frz e2, en, hz]
        rfl
theorem foldl_len (b : Int) : ∀ (l : List Int) (ks : List Int), (l.foldl (stpK b) ks).length ≤ ks.length + 2 * l.length
  | [], ks => by simp
  | q :: l, ks => by
    have h1 := foldl_len b l (stpK b ks q)
    have h2 := stpK_len b ks q
    rw [List.foldl_cons, List.length_cons]
    omega
theorem stpD_some {b : Int} {d v : D} (h : stpD b d = some v) : ∃ f ds rs, d = .lst f ds ∧ b ≠ 0 ∧ nopk (.lst f ds) = true ∧ rowsI ds = some rs ∧ (rs.map List.length).sum ≤ 400000 ∧ v = .lst .own ((sortI (rs.flatten.foldl (stpK b) [0])).map .int) := by
  unfold stpD at h
  cases d <;> try (cases h)
  rename_i f ds
  dsimp only at h
  split at h
  · rename_i hc
    cases e : rowsI ds with
    | none => rw [e] at h; cases h
    | some rs =>
      rw [e, Option.bind_some] at h
      split at h
      · rename_i hl
        cases h
        exact ⟨f, ds, rs, rfl, hc.1, hc.2, e, hl, rfl⟩
      · cases h
  · cases h
theorem rsInts {K : Kx} {F H : Hp} : ∀ ns : List Int, Rs K F H (ns.map .int) (ns.map V.int) []
  | [] => .nil
  | n :: ns => .cons (f1 := []) (.int n) (rsInts ns)
theorem take_flat {rs : List (List Int)} {n : Nat} {ns : List Int} (h : rs[n]? = some ns) : (rs.take (n + 1)).flatten = (rs.take n).flatten ++ ns := by
  rw [List.take_add_one, h]
  simp
theorem flat_len : ∀ (rs : List (List Int)) (n : Nat), (rs.take n).flatten.length ≤ (rs.map List.length).sum
  | [], n => by simp
  | r :: rs, 0 => by simp
  | r :: rs, n + 1 => by
    have := flat_len rs n
    simp at this ⊢
    omega
section
variable {G : Tab}
theorem sss_stp (i jr jq ib : Nat) (e : Exp) (he : ∀ x, SE G xi0 x) (ha : ∀ es, SA G xi0 es) (xi : Xi) : SSs G xi (.stp i jr jq ib e) := by
  intro c W X st g h
  rw [chkSs.eq_def] at h
  dsimp only at h
  split at h
  · rename_i x q1 k0 v0 q2 q3 r1 p1 iter nq1 p2 r2 p3 x2 q4 k1 q5 v1 q6 x3 q7 k2 q8 v2 q9 q10 q11 so q12 x4 p4 q13 q14
    simp only [Bool.and_eq_true, Bool.not_eq_true', decide_eq_true_eq, beq_iff_eq] at h
    obtain ⟨⟨⟨⟨⟨⟨⟨⟨⟨⟨⟨⟨⟨⟨⟨⟨⟨⟨⟨⟨⟨⟨h0, hz⟩, hx⟩, hk0⟩, hv0⟩, hit⟩, hr1⟩, hq1⟩, hr2⟩, hx2⟩, hx3⟩, hx4⟩, hk1⟩, hv1⟩, hk2⟩, hv2⟩, cv1⟩, cv2⟩, sk1⟩, sk2⟩, hso⟩, hgs⟩, hnd⟩ := h
    have hxi : xi = xi0 := g.toGood.z hz
    subst hxi
    simp only [List.nodup_cons, List.mem_cons, List.not_mem_nil, or_false, not_or, not_false_eq_true, List.nodup_nil, and_true] at hnd
    obtain ⟨⟨nij, niq, nib⟩, ⟨njq, njb⟩, nqb⟩ := hnd
    obtain ⟨x1, x3', x4'⟩ := lof g hx
    obtain ⟨m1, m2, m3, m4⟩ := g.toGood.vis hx2
    obtain ⟨n1, n2, n3, n4⟩ := g.toGood.vis hx3
    obtain ⟨l1, l2, l3, l4⟩ := g.toGood.vis hx4
    have hu : X.A.units + 1 < cLine := by have := g.hu; omega
    have P1 := ps_set (pos := q3) (pos' := q1) g.nd x1 x3' (pe_disp (pos := q2) (pps_cons (he (.int 0) g.toGood hk0) (he (.bl true) g.toGood hv0) pps_nil) rfl rfl (by simp) (by simp)) (noswap _ _ _ _ rfl) x4'
    have hItO : chkIt c .sql (.cons e .nil) (.Name r1 p1) iter = true := by
      rw [chkIt.eq_def]
      simp [hit]
    have hItI : chkIt c .sql (.cons (.var jr) .nil) (.Name nq1 p2) (.Name r2 p3) = true := by
      have : chkE c (.var jr) (.Name r2 p3) = true := by
        rw [chkE.eq_def]
        exact hr2
      rw [chkIt.eq_def]
      simp [this]
    obtain ⟨piO, hsO⟩ := pi_of g.toGood hItO (ha (.cons e .nil)) ⟨he e, ha .nil⟩
    obtain ⟨piI, hsI⟩ := pi_of g.toGood hItI (ha (.cons (.var jr) .nil)) ⟨he (.var jr), ha .nil⟩
    have pgO := pg_of g.fnc g.N g.sc g.nd (g.cm h0) (tg := .one jr) (t := .Name r1 p1) hr1
    have pgI := pg_of g.fnc g.N g.sc g.nd (g.cm h0) (tg := .one jq) (t := .Name nq1 p2) hq1
    have b1 := ps_dput (pos' := q5) (pos := q6) hu (pe_var (i := i) (pos := q4) m1 m2 m3 m4) (he _ g.toGood hk1) (he _ g.toGood hv1) (noswap _ _ _ _ cv1)
    have b2 := ps_dput (pos' := q8) (pos := q9) hu (pe_var (i := i) (pos := q7) n1 n2 n3 n4) (he _ g.toGood hk2) (he _ g.toGood hv2) (noswap _ _ _ _ cv2)
    have inner := ps_for (pos := q10) (g.pas h0) (g.cm h0) piI pgI (pss_cons b1 (pss_cons b2 pss_nil)) hsI
    have outer := ps_for (pos := q11) (g.pas h0) (g.cm h0) piO pgO (pss_cons inner pss_nil) hsO
    obtain ⟨s1, s2, s3⟩ := g.toGood.gl hgs
    have hm : X.mg so = none := by rw [hso]; exact g.blt _ (by decide +kernel)
    have PRt := ps_ret (pos := q14) (pe_callB (pos := q13) (p := q12) (cr_sortedDN (g.cm h0)) s1 hm (by rw [hso]; exact boot_sorted) (pa_cons (pe_var (i := i) (pos := p4) l1 l2 l3 l4) pa_nil rfl) s3 s2 rfl rfl)
    refine (pss_cons P1 (pss_cons outer (pss_cons PRt pss_nil))).imp3 fun E σ H hq => ?_
    obtain ⟨env, F, fp, w, np, hq⟩ := hq
    rw [execs] at hq
    -- the new dict
    show ∀ p, H p = none → tPairs _ σ (upd H p (.dK [])) _
    intro p hp
    have eH0 : Ex H (upd H p (.dK [])) := Ex.new hp
    have w0 := w.next eH0 (Ex.refl F) (w.sub.trans eH0) fun a h1 h2 => absurd h1 h2
    refine ⟨env, F, fp, w0, ?_⟩
    rw [ev]
    intro v0' H1 F1 f1 o1
    have w1 := w0.next o1.eH o1.eF o1.sub o1.new
    refine ⟨env, F1, fp, w1, ?_⟩
    rw [ev]
    intro v1' H2 F2 f2 o2
    obtain ⟨rfl, _⟩ := o1.r.int'
    have w2 := w1.next o2.eH o2.eF o2.sub o2.new
    have hp2 : H2 p = some (.dK []) := o2.eH.k _ _ rfl (o1.eH.k _ _ rfl upd_same)
    refine ⟨hp2, [(.inl 0, v1')], rfl, by simp, ?_⟩
    have ek : mergeK [] [((.inl 0 : Key), v1')] = [(.inl 0, v1')] := rfl
    rw [ek]
    show tSeq _ _ _ _ _
    have off2 : F2 p = none := by
      have f1n : F1 p = none := by
        cases e1 : F1 p with
        | none => rfl
        | some o =>
          have := o1.new p (Ex.free w.sub hp) (by rw [e1]; exact fun q => nomatch q)
          rw [upd_same] at this
          cases this
      cases e1 : F2 p with
      | none => rfl
      | some o =>
        have := o2.new p f1n (by rw [e1]; exact fun q => nomatch q)
        rw [o1.eH.k _ _ rfl upd_same] at this
        cases this
    have tx2 := Tx.mutK (ys := [((.inl 0 : Key), v1')]) hp2
    have sub2 := w2.sub.mutK (ys := [((.inl 0 : Key), v1')]) hp2 off2
    have es2 := Es.keep (H' := upd H2 p (.dK [((.inl 0 : Key), v1')])) (Ex.refl F2) tx2 w2.es np fun b o m e => (upd_ne fun z => by rw [z, hp2] at e; cases e).trans e
    obtain ⟨g3, es3, sb3⟩ := Es.drop i (some (.ref p)) es2
    have pst2 : Pst F H fp F2 (upd H2 p (.dK [((.inl 0 : Key), v1')])) g3 := by
      have new1 : ∀ a, F a = none → F2 a ≠ none → H a = none := fun a h1 h2 => by
        cases e1 : F1 a with
        | none => exact Ex.free eH0 (Ex.free o1.eH (o2.new a e1 h2))
        | some u => exact Ex.free eH0 (o1.new a h1 (by rw [e1]; exact fun q => nomatch q))
      refine ⟨fun a o nt e n => (upd_ne fun z => by rw [z, hp] at e; cases e).trans (o2.eH.k _ _ nt (o1.eH.k _ _ nt (eH0.k _ _ nt e))), o1.eF.trans o2.eF, fun a h1 h2 => .inr (new1 a h1 h2), fun a m => .inl (sb3.subset m), ((eH0.trans o1.eH).trans o2.eH).tx.trans tx2⟩
    have hlen : ∀ {b : Int}, env[ib]? = some (some (.int b)) → True := fun _ => trivial
    have hil : i < σ.length → (σ.set i (some (.ref p)))[i]? = some (some (.ref p)) := fun h => List.getElem?_set_self h
    -- what is walked
    show rdA ⟨X.K, xi0⟩ X.mg W G (.cons e .nil) (σ.set i (some (.ref p))) (upd H2 p (.dK [((.inl 0 : Key), v1')])) _
    have w3 : Wd ⟨X.K, xi0⟩ F2 (upd H2 p (.dK [((.inl 0 : Key), v1')])) (env.set i none) (σ.set i (some (.ref p))) g3 := ⟨sub2, es3, w2.nd.sublist sb3, fun a m => w2.off a (sb3.subset m), ⟨tabs_dK hp2 w2.hi.t, fun p m => absurd m List.not_mem_nil⟩⟩
    have np3 : npE (env.set i none) := np.set fun d z => nomatch z
    refine ⟨env.set i none, F2, g3, w3, ?_⟩
    rw [evs]
    cases ee : ev G e (env.set i none) with
    | no => rw [ee] at hq; exact hq.elim
    | ex n => rw [ee] at hq; exact OutW.rai (OutW.mono hq pst2) w3 np3
    | ok d =>
    rw [ee, Res.out_ok] at hq
    rw [Res.bind_ok, evs, Res.bind_ok]
    cases eib : env[ib]? with
    | none => rw [eib] at hq; exact hq.elim
    | some ob =>
    rw [eib] at hq
    cases ob with
    | none => exact hq.elim
    | some db =>
    cases db <;> try (exact hq.elim)
    rename_i b
    dsimp only at hq
    cases hst : (if ([i, jr, jq, ib].all fun j => decide (j < env.length)) = true then stpD b d else none) with
    | none => rw [hst] at hq; exact hq.elim
    | some v =>
    rw [hst, someOk_some, Res.out_ok] at hq
    have hall : ([i, jr, jq, ib].all fun j => decide (j < env.length)) = true := by
      by_cases z : ([i, jr, jq, ib].all fun j => decide (j < env.length)) = true
      · exact z
      · rw [if_neg z] at hst; cases hst
    rw [if_pos hall] at hst
    have jl : ∀ j ∈ [i, jr, jq, ib], j < env.length := fun j hj => of_decide_eq_true (List.all_eq_true.mp hall j hj)
    obtain ⟨f, ds, rs, rfl, hb0, npd, hrs, hsum, rfl⟩ := stpD_some hst
    intro vs H4 F4 f4 o4
    have hfz := rows_frz hrs
    have hn : nopks [D.lst f ds] = true := by rw [nopks, npd]; rfl
    have ei : items .sql (frzs [D.lst f ds]) = some (rs.map fun ns => D.lst .fz (ns.map .int)) := by rw [frzs, frz, hfz]; rfl
    have eG : Ex F4 (addF F4 H4 f4) := addF_ex o4.off
    have sub4 := addF_sub o4.sub (fp := f4) fun a m => o4.r.has a m
    have rz := Rs.frz eG o4.r hn fun a m => addF_in m
    refine rIt_of (K := ⟨X.K, xi0⟩) sub4 rz ei fun J wk => ?_
    have C0 : StW X.K F H fp (env.set i none) p i [0] (σ.set i (some (.ref p))) (upd H2 p (.dK [((.inl 0 : Key), v1')])) F2 g3 :=
      ⟨w3, np3, ⟨_, upd_same, rfl⟩, off2, hil (by rw [← w.es.length]; exact jl i (by simp)), hp, pst2⟩
    have C1 := C0.next (F' := addF F4 H4 f4) o4.eH (o4.eF.trans eG) sub4 fun a h1 h2 => by
      by_cases m : a ∈ f4
      · exact (o4.fresh a m).resolve_left List.not_mem_nil
      · rw [addF_out m] at h2
        exact o4.new a h1 h2
    obtain ⟨gA, CA⟩ := C1.forget jr
    obtain ⟨gB, CB⟩ := CA.forget jq
    generalize henv : ((env.set i none).set jr none).set jq none = envW at CB
    have hWl : envW.length = env.length := by rw [← henv, List.length_set, List.length_set, List.length_set]
    have eWr : envW[jr]? = some none := by rw [← henv, List.getElem?_set_ne (Ne.symm njq), List.getElem?_set_self (by rw [List.length_set]; exact jl jr (by simp))]
    have eWq : envW[jq]? = some none := by rw [← henv, List.getElem?_set_self (by rw [List.length_set, List.length_set]; exact jl jq (by simp))]
    have eWb : envW[ib]? = some (some (.int b)) := by rw [← henv, List.getElem?_set_ne nqb, List.getElem?_set_ne njb, List.getElem?_set_ne nib, eib]
    have hkl : ∀ n, ((rs.take n).flatten.foldl (stpK b) [0]).length ≤ 800001 := fun n => by
      have h1 := foldl_len b (rs.take n).flatten [0]
      have h2 := flat_len rs n
      rw [List.length_singleton] at h1
      omega
    refine ⟨fun n m σ3 H3 => m = rs.length - n ∧ n ≤ rs.length ∧ ∃ F3 fp3, StW X.K F H fp envW p i ((rs.take n).flatten.foldl (stpK b) [0]) σ3 H3 F3 fp3 ∧ Rs ⟨X.K, xi0⟩ F3 H3 (frzs [D.lst f ds]) vs [], ⟨_, rfl, Nat.zero_le _, _, gB, CB, rz⟩, ?_⟩
    rintro n m σ5 H5 ⟨rfl, hn5, F5, fp5, C5, rs5⟩
    by_cases hlt : n < rs.length
    · have hrn : rs[n]? = some rs[n] := List.getElem?_eq_getElem hlt
      generalize rs[n] = ns at hrn
      have hxd : (rs.map fun ns => D.lst .fz (ns.map .int))[n]? = some (.lst .fz (ns.map .int)) := by rw [List.getElem?_map, hrn]; rfl
      refine .inr ⟨wk.go F5 H5 n C5.w.sub rs5 (by rw [List.length_map]; exact hlt), _, fun σ' H' hw => ⟨rs.length - (n + 1), by omega, hw⟩, fun x6 H6 yl => ?_⟩
      obtain ⟨eH6, rx6⟩ := wk.yld F5 H5 n _ x6 H6 C5.w.sub rs5 hxd yl
      have C6 := C5.next eH6 (Ex.refl _) (C5.w.sub.trans eH6) fun a h1 h2 => absurd h1 h2
      have rs6 := rs5.mono (Ex.refl F5) eH6
      have npr : nopk (D.lst .fz (ns.map .int)) = true := by
        rw [nopk]
        have : ∀ l : List Int, nopks (l.map .int) = true := by
          intro l
          induction l with
          | nil => rfl
          | cons a l ih => rw [List.map_cons, nopks, ih]; rfl
        rw [this]
        rfl
      refine C6.bind nij rx6 npr fun σ7 fp7 C7 => ?_
      -- the inner walk
      show rdA ⟨X.K, xi0⟩ X.mg W G (.cons (.var jr) .nil) σ7 H6 _
      refine ⟨_, F5, fp7, C7.w, ?_⟩
      have ejr : (envW.set jr (some (D.lst .fz (ns.map .int))))[jr]? = some (some (D.lst .fz (ns.map .int))) := List.getElem?_set_self (by rw [hWl]; exact jl jr (by simp))
      have pk : peek (D.lst .fz (ns.map .int)) = D.lst .fz (ns.map .int) := by
        have : ∀ l : List Int, peeks (l.map .int) = l.map .int := by
          intro l
          induction l with
          | nil => rfl
          | cons a l ih => rw [List.map_cons, peeks, ih]; rfl
        rw [peek, this]
        rfl
      have evr : evs G (.cons (.var jr) .nil) (envW.set jr (some (D.lst .fz (ns.map .int)))) = .ok [D.lst .fz (ns.map .int)] := by
        rw [evs, ev, ejr]
        show (Res.ok (peek (D.lst .fz (ns.map .int)))).bind _ = _
        rw [pk]
        rfl
      rw [evr]
      intro vs8 H8 F8 f8 o8
      have hno : noowns [D.lst .fz (ns.map .int)] = true := by
        have : ∀ l : List Int, noowns (l.map .int) = true := by
          intro l
          induction l with
          | nil => rfl
          | cons a l ih => rw [List.map_cons, noowns, ih]; rfl
        rw [noowns, noown, this]
        rfl
      have hf8 : f8 = [] := Rs.noown o8.r hno
      have r8 := o8.r
      rw [hf8] at r8
      have C8 := C7.next o8.eH o8.eF o8.sub o8.new
      have rs8 := rs6.mono o8.eF o8.eH
      have rI8 : Rs ⟨X.K, xi0⟩ F8 H8 [D.lst .fz (ns.map .int)] vs8 [] := r8
      refine rIt_of (K := ⟨X.K, xi0⟩) C8.w.sub rI8 (show items .sql [D.lst .fz (ns.map .int)] = some (ns.map .int) from rfl) fun J2 wk2 => ?_
      refine ⟨fun k m σ9 H9 => m = ns.length - k ∧ k ≤ ns.length ∧ ∃ F9 fp9, StW X.K F H fp (envW.set jr (some (D.lst .fz (ns.map .int)))) p i ((ns.take k).foldl (stpK b) ((rs.take n).flatten.foldl (stpK b) [0])) σ9 H9 F9 fp9 ∧ Rs ⟨X.K, xi0⟩ F9 H9 (frzs [D.lst f ds]) vs [] ∧ Rs ⟨X.K, xi0⟩ F9 H9 [D.lst .fz (ns.map .int)] vs8 [], ⟨_, rfl, Nat.zero_le _, F8, fp7, C8, rs8, rI8⟩, ?_⟩
      rintro k m σ9 H9 ⟨rfl, hk9, F9, fp9, C9, rs9, rI9⟩
      have hkl9 : ((ns.take k).foldl (stpK b) ((rs.take n).flatten.foldl (stpK b) [0])).length ≤ 800001 := by
        have e1 : (ns.take k).foldl (stpK b) ((rs.take n).flatten.foldl (stpK b) [0]) = ((rs.take n).flatten ++ ns.take k).foldl (stpK b) [0] := by rw [List.foldl_append]
        have h1 := foldl_len b ((rs.take n).flatten ++ ns.take k) [0]
        have h2 := flat_len rs (n + 1)
        rw [take_flat hrn, List.length_append] at h2
        rw [List.length_append, List.length_singleton] at h1
        have h3 : (ns.take k).length ≤ ns.length := List.length_take_le' ..
        rw [e1]
        omega
      by_cases hkt : k < ns.length
      · have hqn : ns[k]? = some ns[k] := List.getElem?_eq_getElem hkt
        generalize ns[k] = q0 at hqn
        have hxq : (ns.map D.int)[k]? = some (.int q0) := by rw [List.getElem?_map, hqn]; rfl
        refine .inr ⟨wk2.go F9 H9 k C9.w.sub rI9 (by rw [List.length_map]; exact hkt), _, fun σ' H' hw => ⟨ns.length - (k + 1), by omega, hw⟩, fun xA HA yl => ?_⟩
        obtain ⟨eHA, rxA⟩ := wk2.yld F9 H9 k _ xA HA C9.w.sub rI9 hxq yl
        have CA := C9.next eHA (Ex.refl _) (C9.w.sub.trans eHA) fun a h1 h2 => absurd h1 h2
        have rsA := rs9.mono (Ex.refl F9) eHA
        have rIA := rI9.mono (Ex.refl F9) eHA
        refine CA.bind niq rxA rfl fun σB fpB CB => ?_
        have eqq : ((envW.set jr (some (D.lst .fz (ns.map .int)))).set jq (some (.int q0)))[jq]? = some (some (.int q0)) := List.getElem?_set_self (by rw [List.length_set, hWl]; exact jl jq (by simp))
        have ebb : ((envW.set jr (some (D.lst .fz (ns.map .int)))).set jq (some (.int q0)))[ib]? = some (some (.int b)) := by rw [List.getElem?_set_ne nqb, List.getElem?_set_ne njb, eWb]
        have ev1 : ev G (.bin .mod (.var jq) (.var ib)) ((envW.set jr (some (D.lst .fz (ns.map .int)))).set jq (some (.int q0))) = .ok (.int (q0.fmod b)) := by
          simp only [ev, eqq, ebb]
          show someOk (chkO (b ≠ 0) (some (D.int (q0.fmod b)))) = _
          rw [chkO_pos hb0]
          rfl
        have ev2 : ev G (.bin .mod (.un .neg (.var jq)) (.var ib)) ((envW.set jr (some (D.lst .fz (ns.map .int)))).set jq (some (.int q0))) = .ok (.int ((-q0).fmod b)) := by
          simp only [ev, eqq, ebb]
          show someOk (chkO (b ≠ 0) (some (D.int ((-q0).fmod b)))) = _
          rw [chkO_pos hb0]
          rfl
        refine st_put CB (by omega) ev1 fun HC FC eFC txC CC => ?_
        refine st_put CC (by have := addK_len ((ns.take k).foldl (stpK b) ((rs.take n).flatten.foldl (stpK b) [0])) (q0.fmod b); omega) ev2 fun HD FD eFD txD CD => ?_
        obtain ⟨fpE, CE⟩ := CD.forget jq
        have eset : ((envW.set jr (some (D.lst .fz (ns.map .int)))).set jq (some (.int q0))).set jq none = envW.set jr (some (D.lst .fz (ns.map .int))) := set_back (by rw [List.getElem?_set_ne njq]; exact eWq)
        rw [eset] at CE
        refine ⟨rfl, hkt, FD, fpE, ?_, (rsA.keep (eFC.trans eFD) (txC.trans txD) (nopks_frzs _) fun a o m => absurd m List.not_mem_nil), (rIA.keep (eFC.trans eFD) (txC.trans txD) (by rw [nopks, npr]; rfl) fun a o m => absurd m List.not_mem_nil)⟩
        rw [List.take_add_one, hqn]
        show StW _ _ _ _ _ _ _ ((ns.take k ++ [q0]).foldl (stpK b) _) _ _ _ _
        rw [List.foldl_append]
        exact CE
      · have hke : k = ns.length := by omega
        subst hke
        refine .inl ⟨wk2.stop F9 H9 _ C9.w.sub rI9 (by rw [List.length_map]; omega), ?_⟩
        obtain ⟨fpE, CE⟩ := C9.forget jr
        rw [set_back eWr] at CE
        refine ⟨rfl, hlt, F9, fpE, ?_, rs9⟩
        rw [take_flat hrn, List.foldl_append]
        rw [List.take_length] at CE
        exact CE
    · have hne : n = rs.length := by omega
      subst hne
      refine .inl ⟨wk.stop F5 H5 _ C5.w.sub rs5 (by rw [List.length_map]; omega), ?_⟩
      -- sorted
      rw [List.take_length] at C5
      have hkl5 := hkl rs.length
      rw [List.take_length] at hkl5
      obtain ⟨kvs, k1', k2'⟩ := C5.at_
      show tVar i σ5 H5 _
      refine ⟨_, C5.sl, p, kvs, _, rfl, .inl k1', k2', by omega, fun ys pq hperm hsort hpq => ?_⟩
      rw [sort_unique hperm hsort]
      have eN : Ex H5 (upd H5 pq (.lst ((sortI (rs.flatten.foldl (stpK b) [0])).map V.int))) := Ex.new hpq
      have oo := Out1.list (K := ⟨X.K, xi0⟩) (g := []) (ds := (sortI (rs.flatten.foldl (stpK b) [0])).map .int) C5.w.sub hpq (rsInts (F := F5) (H := H5) (sortI (rs.flatten.foldl (stpK b) [0]))) List.nodup_nil (fun a m => absurd m List.not_mem_nil) (fun a m => absurd m List.not_mem_nil) (fun a m => absurd m List.not_mem_nil)
      have npO : nopk (D.lst .own ((sortI (rs.flatten.foldl (stpK b) [0])).map .int)) = true := by
        have : ∀ l : List Int, nopks (l.map .int) = true := by
          intro l
          induction l with
          | nil => rfl
          | cons a l ih => rw [List.map_cons, nopks, ih]; rfl
        rw [nopk, this]
        rfl
      refine hq _ _ F5 _ oo.r oo.nd oo.off oo.sub npO (C5.pst.trans (.of_ex eN (Ex.refl F5) (fun a h1 h2 => absurd h1 h2) fun a m => .inr ?_))
      rcases List.mem_cons.mp m with e | m
      · rw [e]; exact hpq
      · exact absurd m List.not_mem_nil
  · cases h
end
end L3

set_option maxRecDepth 100000
set_option maxHeartbeats 4000000
/-! L3.StmZ: all statements. -/
namespace L3
open PySem PySem.Spec PyProof.Rows L2
variable [TbC]
section
variable {G : Tab}
mutual
theorem all_s : ∀ (s : Stm) (G : Tab) (xi : Xi), SS G xi s
  | .asg i fr m, G, xi => ss_asg i fr m
  | .unp is fr m, G, xi => ss_unp is fr m
  | .par i j a b, G, xi => ss_par i j a b
  | .aug i o e, G, xi => ss_aug i o e
  | .setix x i m, G, xi => ss_setix x i m
  | .app x m, G, xi => ss_app x m
  | .pApp p e, G, xi => ss_pApp p e
  | .pSet p i e, G, xi => ss_pSet p i e
  | .pAug p i o e, G, xi => ss_pAug p i o e
  | .pClr p, G, xi => ss_pClr p
  | .pExt p e, G, xi => ss_pExt p e
  | .popS x p e, G, xi => ss_popS x p e
  | .popA y p e, G, xi => ss_popA y p e
  | .forA x p k, G, xi => ss_forA x p k
  | .forI x v c e, G, xi => ss_forI x v c e
  | .remS p e, G, xi => ss_remS p e
  | .ifs c a b, G, xi => ss_ifs c a b (all_ss a G xi) (all_ss b G xi)
  | .for_ k its tg clr b, G, xi => ss_for k its tg clr b (all_ss b G xi)
  | .whl fuel c clr b, G, xi => ss_whl fuel c clr b (all_ss b G xi)
  | .ret m, G, xi => ss_ret m
  | .retn, G, xi => ss_retn
  | .rais n, G, xi => ss_rais n
  | .brk, G, xi => ss_brk
  | .cont, G, xi => ss_cont
  | .pass, G, xi => ss_pass
  | .expr e, G, xi => ss_expr e
  | .tryx b c i s, G, xi => ss_tryx b c i s (all_ss b) (all_ss s) xi
theorem all_ss : ∀ (s : Stms) (G : Tab) (xi : Xi), SSs G xi s
  | .nil, G, xi => sss_nil
  | .cons s r, G, xi => sss_cons s r (all_s s G xi) (all_ss r G xi)
  | .frzv i r, G, xi => sss_frzv i r (all_ss r G xi)
  | .forget i r, G, xi => sss_forget i r (all_ss r G xi)
  | .clos i0 i1 k0 k1 r, G, xi => sss_clos i0 i1 k0 k1 r (all_ss r) xi
  | .stp i jr jq ib e, G, xi => sss_stp i jr jq ib e (fun x => (all_e G xi0 x).se) (all_a G xi0) xi
  | .dic i ja jb jc jd e r, G, xi => sss_dic i ja jb jc jd e r (all_e G xi0 e).se (all_a G xi0 (.cons e .nil)) (all_a G xi0 .nil) (all_ss r) xi
end
end
end L3

set_option maxRecDepth 100000
set_option maxHeartbeats 4000000
/-! L3.Fun: a def of the text keeps the promise of its small-language body; the head's facts. -/
namespace L3
open PySem PySem.Spec PyProof.Rows L2
variable [TbC]

section
variable {K : PySem.W.Frag} {mg : Str → Option Value}
theorem Es.start {Kx : Kx} {F H : Hp} : ∀ {ds : List D} {vs : List V} {fp : List Addr} (k : Nat), Rs Kx F H ds vs fp → Es Kx F H (ds.map some ++ List.replicate k none) (vs.map some ++ List.replicate k none) fp
  | _, _, _, 0, .nil => .emp
  | _, _, _, k + 1, .nil => .no none (Es.start k .nil)
  | _, _, _, k, .cons r rs => .ye r (Es.start k rs)
theorem npE_start : ∀ {ds : List D} (k : Nat), nopks ds = true → npE (ds.map some ++ List.replicate k none) := by
  intro ds k h d m
  rcases List.mem_append.mp m with m | m
  · obtain ⟨x, hx, e⟩ := List.mem_map.mp m
    cases e
    rw [nopks_all] at h
    exact List.all_eq_true.mp h _ hx
  · exact absurd (List.mem_replicate.mp m).2 (by simp)
mutual
theorem nopk_of_allfz : ∀ d : D, allfz d = true → nopk d = true
  | .non, _ => rfl
  | .bl _, _ => rfl
  | .int _, _ => rfl
  | .str _, _ => rfl
  | .tup ds, h => nopks_of_allfz ds h
  | .lst f ds, h => by
    rw [allfz, Bool.and_eq_true] at h
    rw [nopk, nopks_of_allfz ds h.2]
    have : f = .fz := by simpa using h.1
    rw [this]
    rfl
  | .scr _, _ => rfl
  | .exc _, _ => rfl
  | .clo _, _ => rfl
theorem nopks_of_allfz : ∀ ds : List D, allfzs ds = true → nopks ds = true
  | [], _ => rfl
  | d :: ds, h => by
    rw [allfzs, Bool.and_eq_true] at h
    rw [nopks, nopk_of_allfz d h.1, nopks_of_allfz ds h.2]
    rfl
end
/-- a def's promise gives its body's reading -/
theorem start_of {W : WX} {G : Tab} {N : List Str} {body : Stms} {ar : Nat} {vs : List V} {H : Hp} {Q : VK} {E : XK} (hW : ∀ C σ H', E (.ref C) none H' → W (.ref C) none σ H') (h : spP K mg ar (FnDef.run G ⟨N.length, body⟩) vs H Q E) :
    rdSs ⟨K, xi0⟩ mg W G body { nx := fun _ H' => Q .non H', rt := Q } (L2.start N vs) H := by
  obtain ⟨hl, hT, F, ds, sub, rs, hz, h⟩ := h
  have hlen := rs.length
  have es := Es.start (N.length - ds.length) rs
  refine ⟨ds.map some ++ List.replicate (N.length - ds.length) none, F, [], ⟨sub, by unfold L2.start; rw [← hlen]; exact es, List.nodup_nil, fun a m => absurd m List.not_mem_nil, ⟨hT, fun p m => absurd m List.not_mem_nil⟩⟩, npE_start _ (nopks_of_allfz ds hz), ?_⟩
  have out : ∀ {F' H' : Hp} {fp' : List Addr} {d : D} {v : V} {fr : List Addr}, Pst F H [] F' H' fp' → Ex F' H' → R ⟨K, xi0⟩ F' H' d v fr → fr.Nodup → (∀ a ∈ fr, a ∈ fp') → (∀ a ∈ fr, F' a = none) → Out1 ⟨K, xi0⟩ F H [] F' H' d v fr := fun p s r n m o =>
    ⟨⟨fun a ob nt h => p.keep a ob nt h List.not_mem_nil, p.tx.f, p.tx.t⟩, p.eF, s, fun a h1 h2 => (p.new a h1 h2).resolve_left List.not_mem_nil, r, n, fun a z => p.fresh a (m a z), o⟩
  unfold FnDef.run at h
  dsimp only at h
  cases e : execs G body (ds.map some ++ List.replicate (N.length - ds.length) none) with
  | nx e' =>
    rw [e] at h
    exact fun σ' H' F' fp' w np p => h .non H' F' [] (out p w.sub .non List.nodup_nil (fun a m => absurd m List.not_mem_nil) fun a m => absurd m List.not_mem_nil) rfl
  | rt d =>
    rw [e] at h
    exact fun v H' F' fr r n o s np p => h v H' F' fr (out p s r n (fun a m => m) o) np
  | ex n e' =>
    rw [e] at h
    exact fun C σ' H' F' fp' hC w np p => hW C σ' H' (h C H' hC ⟨fun a ob nt q => p.keep a ob nt q List.not_mem_nil, p.tx.f, p.tx.t⟩)
  | bk _ => rw [e] at h; exact h.elim
  | ct _ => rw [e] at h; exact h.elim
  | no => rw [e] at h; exact h.elim
/-- what the top says of the text's names -/
structure TopOk (K : PySem.W.Frag) (mg : Str → Option Value) (G : Tab) (es : List Str) : Prop where
  blt : ∀ x ∈ bltL, mg x = none
  vae : mg "ValueError" = none
  exs : ∀ x ∈ es, ∃ C, mg x = some (.ref C)
  glo : ∀ p ∈ G.cst, ∃ u v, mg p.1 = some u ∧ RelV v u ∧ ∀ F H, R ⟨K, xi0⟩ F H p.2 v []
  exc : ∀ n ∈ G.errs, ∀ C, mg n = some (.ref C) → PySem.W.excIn K C [.type "ValueError", .type "Exception", .type "BaseException", .type "object"] "ValueError.__new__" = true ∧ PySem.W.keepIn K (.ref C) = true ∧ PySem.W.subIn K (.ref C) (.type "BaseException") = some true ∧ PySem.W.typeIn K (.ref C) = some (.type "type") ∧ ExcC K C
  exm : ∀ n ∈ G.errs, ∀ m ∈ G.cats, ∀ C D, mg n = some (.ref C) → mg m = some (.ref D) → PySem.W.exmOne K (.ref C) (.ref D) = some (subX n m)
  isT : ∀ n ∈ G.errs, ∀ C, mg n = some (.ref C) → ∀ w, tyNames.contains w = true → PySem.W.kitOne K (.ref C) (.type (tyS w)) = some (subX n w)
  isV : ∀ n ∈ G.errs, ∀ C, mg n = some (.ref C) → PySem.W.kitOne K (.ref C) (.type "ValueError") = some (subX n "ValueError")
  isE : ∀ n ∈ G.errs, ∀ C, mg n = some (.ref C) → ∀ w ∈ es, ∀ D, mg w = some (.ref D) → PySem.W.kitOne K (.ref C) (.ref D) = some (subX n w)
/-- a def that may be called, in room k -/
def CallF (P : Program) (w : World) (K : PySem.W.Frag) (mg : Str → Option Value) (base : Heap) (k : Nat) (c : Callee) : Prop :=
  ∃ f fd ps, FnOk P w K mg base (L2.CX P w) k f fd ps (spP K mg c.ar c.g) ∧ mg c.name = some (.ref f) ∧ PySem.W.keepIn K (.ref f) = true ∧ Binds K fd ps []
theorem CallF.mono {P : Program} {w : World} {base : Heap} {j k : Nat} {c : Callee} (h : CallF P w K mg base j c) (hjk : j ≤ k) : CallF P w K mg base k c := by
  obtain ⟨f, fd, ps, h1, h2⟩ := h
  exact ⟨f, fd, ps, h1.mono hjk, h2⟩
theorem relV_ty {t : String} {z : Value} (h : RelV (.ty t) z) : z = .type t := by
  first | exact h | (cases h; rfl)
theorem relV_ref {a : Addr} {z : Value} (h : RelV (.ref a) z) : z = .ref a := by
  first | exact h | (cases h; rfl)
theorem good_of {c : Cc} {G : Tab} {W : WX} {X : Cx} {k : Nat} {xi : Xi} (T : TopOk X.K X.mg G c.exs) (hr : Room k X.A) (N : X.N = c.N) (sc : X.env.scope = c.sc) (nd : X.N.Nodup) (cm : X.calm = true) (fns : c.fns = G.fns.map (·.name)) (csts : c.csts = G.cst.map (·.1))
    (hx : ∀ a n, ¬ xi.ex a n) (calls : ∀ cl ∈ G.fns, xi = xi0 ∧ CallF X.prog X.w X.K X.mg X.base k cl) (tk : Takes X W) (pas : PassesOwn (model X.prog X.w) X.A X.env X.xe) (fn : ∀ x, X.fn x = true) (stk : X.stack = X.env :: X.outer) (frm : X.env.frame = some X.env.locals)
    (clo : c.clo = true → ∀ n a F, xi.fo n a F → (∃ N, F a = some (NdefX.FnO a N)) ∧ CallR X (.ref a) (rClo (G.lf n) F)) (vst : ∀ x, c.vis = some x → xi = xi0 ∧ ∃ vi, G.vis = some vi ∧ vi.name = x ∧ VisAt X vi)
    (ndf : c.nml ≠ [] → Room 2 X.A ∧ ∃ cd P, X.env.code = .ref cd ∧ LamX.TabB X.base X.mg cd P ∧ (P, nmOf c.nml) ∈ TbC.T ∧ (∀ p ∈ TbC.T, p.1 = P → p.2 = nmOf c.nml) ∧ X.env.qual = c.qual)
    (hdic : c.dic = false := by rfl) (hzz : c.z = true → xi = xi0 := by first | exact fun _ => rfl | exact fun h => absurd h Bool.false_ne_true) : GoodS c G xi W X where
  N := N
  sc := sc
  nd := nd
  cm := fun _ => cm
  hu := by have := hr.un; omega
  blt := T.blt
  fns := fns
  csts := csts
  calls := fun cl h => by
    obtain ⟨h0, f, fd, ps, h1, h2, h3, h4⟩ := calls cl h
    exact ⟨h0, ⟨k, f, fd, ps, h1, hr, h2, h3, h4⟩⟩
  glo := fun p hp => by
    obtain ⟨u, v, h1, h2, h3⟩ := T.glo p hp
    exact ⟨u, v, h1, h2, fun F H => R.xim (xi := xi0) (fun a n h => False.elim h) (fun n a h => False.elim h) (h3 F H)⟩
  tk := tk
  exs := T.exs
  vae := T.vae
  isx := fun a n h => (hx a n h).elim
  xno := fun _ => hx
  fnc := fun x _ => fn x
  dik := fun h => by rw [hdic] at h; cases h
  z := hzz
  clo := clo
  vst := fun x h => (vst x h).2
  xnv := fun _ => hx
  mkc := fun hv pins σ H s env F fp I w n a F0 hfo => by
    cases hz : c.vis with
    | none => exact absurd hz hv
    | some x =>
      rw [(vst x hz).1] at hfo
      exact False.elim hfo
  ndf := ndf
  pas := fun _ => pas
  fn := fn
  stk := stk
  frm := frm
  err := fun n hn C hC => by
    obtain ⟨h1, h2, h3, h4, h5⟩ := T.exc n hn C hC
    exact ⟨h1, h2, raises_own h3 h4, h5⟩
  exm := T.exm
  isk := fun n hn C hC w v hv => by
    rcases hv with ⟨h1, rfl⟩ | ⟨h1, rfl, rfl⟩ | ⟨h1, h2, h3, D, rfl, hD⟩
    · exact ⟨_, fun z r => relV_ty r, T.isT n hn C hC w h1⟩
    · exact ⟨_, fun z r => relV_ty r, T.isV n hn C hC⟩
    · exact ⟨_, fun z r => relV_ref r, T.isE n hn C hC w h3 D hD⟩
/-- the text's words of a def -/
structure Src where
  N : List Str
  ar : Nat
  body : Stms
@[simp] def Src.run (s : Src) (G : Tab) : List D → Res D := FnDef.run G ⟨s.N.length, s.body⟩
def Src.cc (s : Src) (G : Tab) (exs : List Str) (d : He.DefD) : Cc := { N := s.N, sc := d.scope, fns := G.fns.map (fun c => c.name), csts := G.cst.map (fun p => p.1), exs := exs, cm := true, cel := true, z := true }
/-- the text is the small language's (a Bool, for the kernel) -/
def Src.ccV (s : Src) (G : Tab) (exs : List Str) (d : He.DefD) : Cc := { s.cc G exs d with clo := true, z := false }
def Src.ccM (s : Src) (G : Tab) (exs : List Str) (d : He.DefD) (x : Str) (nml : List ((Nat × Nat) × Str)) : Cc := { s.cc G exs d with vis := some x, qual := d.qual ++ ".<locals>.", nml := nml }
/-- .. of a def that is handed functions -/
def Src.chkV (s : Src) (G : Tab) (exs : List Str) (d : He.DefD) : Bool := chkSs (s.ccV G exs d) s.body d.body
/-- .. of a def that makes functions and hands them to x -/
def Src.chkM (s : Src) (G : Tab) (exs : List Str) (d : He.DefD) (x : Str) (nml : List ((Nat × Nat) × Str)) : Bool := chkSs (s.ccM G exs d x nml) s.body d.body
def Src.chk (s : Src) (G : Tab) (exs : List Str) (d : He.DefD) : Bool := chkSs (s.cc G exs d) s.body d.body
/-- its names -/
def scopeB (N P : List Str) (sc : Scope) : Bool := (match sc.kind with | .function => true | _ => false) && !sc.isCoroutine && !sc.isGenerator && decide N.Nodup && (N.take P.length == P) && (P.all fun x => sc.names.lookup x == some .local || sc.names.lookup x == some .cell) && (sc.names.all fun y => match y.2 with | .free => false | _ => true)
theorem scopeB_ok {N P : List Str} {sc : Scope} (h : scopeB N P sc = true) : FnScope N P sc := by
  unfold scopeB at h
  simp only [Bool.and_eq_true, Bool.not_eq_true', decide_eq_true_eq, beq_iff_eq, List.all_eq_true, Bool.or_eq_true] at h
  obtain ⟨⟨⟨⟨⟨⟨h1, h2⟩, h3⟩, h4⟩, h5⟩, h6⟩, h7⟩ := h
  refine ⟨?_, h2, h3, h4, h5, h6, fun y hy e => ?_⟩
  · split at h1
    · rename_i e; exact e
    · cases h1
  · have := h7 y hy
    rw [e] at this
    cases this
theorem def_ok {P : Program} {w : World} {base : Heap} {s : Src} {G : Tab} {exs : List Str} {d : He.DefD} {k : Nat} {f : Addr} {fd : FuncData} {dvs : List V} {kws : List (Str × V)} (F : FunD K d.name d.qual d.params d.body d.scope dvs kws f fd) (S : FnScope s.N (s.N.take s.ar) d.scope) (har : (s.N.take s.ar).length = s.ar)
    (T : TopOk K mg G exs) (hc : s.chk G exs d = true) (calls : ∀ cl ∈ G.fns, CallF P w K mg base k cl) : FnOk P w K mg base (L2.CX P w) (k + 1) f fd (s.N.take s.ar) (spP K mg s.ar (s.run G)) := by
  refine F.ok S (fun vs H Q E h => by rw [har]; exact h.1) (fun cdv A outer st H vs Q E hr h => ⟨_, ?_, start_of (W := fun cls d _ H => E cls d H) (fun C σ H' z => z) h⟩)
  exact all_ss s.body G xi0 (good_of (X := cxOf (L2.CX P w) P w K mg base s.N d.qual d.scope f cdv A outer st H E) (c := s.cc G exs d) T hr rfl rfl S.nd rfl rfl rfl (fun a n h => h) (fun cl h => ⟨rfl, calls cl h⟩) (takes_of rfl rfl rfl rfl) (passes_of rfl) (fun _ => rfl) rfl rfl (fun h => absurd (show false = true from h) Bool.false_ne_true) (fun x h => nomatch h) (fun h => absurd rfl h)) (show chkSs (s.cc G exs d) s.body d.body = true from hc)
/-- what a def that is handed functions starts from -/
theorem start_ofV {K : PySem.W.Frag} {mg : Str → Option Value} {W : WX} {G : Tab} {xi : Xi} {N : List Str} {body : Stms} {ar : Nat} {vs : List V} {H : Hp} {Q : VK} {E : XK} (hW : ∀ C σ H', E (.ref C) none H' → W (.ref C) none σ H') (h : spV K xi mg ar (FnDef.run G ⟨N.length, body⟩) vs H Q E) (ho : xi.obs = []) :
    rdSs ⟨K, xi⟩ mg W G body { nx := fun _ H' => Q .non H', rt := Q } (L2.start N vs) H := by
  obtain ⟨hl, hT, ds, rs, hz, h⟩ := h
  have hlen := rs.length
  have es := Es.start (N.length - ds.length) rs
  refine ⟨ds.map some ++ List.replicate (N.length - ds.length) none, H, [], ⟨Ex.refl H, by unfold L2.start; rw [← hlen]; exact es, List.nodup_nil, fun a m => absurd m List.not_mem_nil, ⟨hT, fun p m => by rw [show (Kx.mk K xi).xi.obs = [] from ho] at m; cases m⟩⟩, npE_start _ (nopks_of_allfz ds hz), ?_⟩
  unfold FnDef.run at h
  dsimp only at h
  have ex : ∀ {F' H' : Hp} {fp' : List Addr}, Pst H H [] F' H' fp' → Ex H H' := fun p => ⟨fun a ob nt q => p.keep a ob nt q List.not_mem_nil, p.tx.f, p.tx.t⟩
  cases e : execs G body (ds.map some ++ List.replicate (N.length - ds.length) none) with
  | nx e' =>
    rw [e] at h
    exact fun σ' H' F' fp' w np p => h.2 .non H' [] (ex p) (fun x F => .non) List.nodup_nil (fun a m => absurd m List.not_mem_nil) rfl
  | rt d =>
    rw [e] at h
    have ho := h.1
    rw [ownD, Bool.and_eq_true] at ho
    exact fun v H' F' fr r n o s np p => h.2 v H' fr (ex p) (fun x F => (R.xno (xj := x) trivial r ho.2).anyF ho.1) n (fun a m => (p.fresh a m).resolve_left List.not_mem_nil) np
  | ex n e' =>
    rw [e] at h
    exact fun C σ' H' F' fp' hC w np p => hW C σ' H' (h C H' hC (ex p))
  | bk _ => rw [e] at h; exact h.elim
  | ct _ => rw [e] at h; exact h.elim
  | no => rw [e] at h; exact h.elim
/-- the functions handed over, as the def that is handed them sees them -/
def xiV (xi : Xi) (H : Hp) : Xi where
  ex := fun _ _ => False
  fo := fun n a F => (∃ F0, xi.fo n a F0) ∧ Ex H F
  mono := fun e h => ⟨h.1, h.2.trans e⟩
  obs := []
  obx := fun p m => absurd m List.not_mem_nil
/-- a def that is handed functions -/
theorem vis_ok {s : Src} {G : (Nat → Int → Int → Option Bool) → Tab} {exs : List Str} {d : He.DefD} {X : Cx} {f : Addr} {fd : FuncData} {dvs : List V} {kws : List (Str × V)} {x : Str} (F : FunD X.K d.name d.qual d.params d.body d.scope dvs kws f fd) (S : FnScope s.N (s.N.take s.ar) d.scope) (har : (s.N.take s.ar).length = s.ar)
    (T : ∀ lf, TopOk X.K X.mg (G lf) exs) (hc : ∀ lf, s.chkV (G lf) exs d = true) (hfn : ∀ lf, (G lf).fns = []) (hlf : ∀ lf, (G lf).lf = lf) (hm : X.mg x = some (.ref f)) (hb : Binds X.K fd (s.N.take s.ar) []) (hr : Room 1 X.A) : VisAt X ⟨x, s.ar, fun lf => s.run (G lf)⟩ := by
  refine ⟨f, hm, F.kp, fun pins σ H st us vs xi lf Q E I rv hclo hex hsp => ?_⟩
  have hl : vs.length = (s.N.take s.ar).length := by rw [har]; exact hsp.1
  have hul : us.length = (s.N.take s.ar).length := by rw [← rv.length]; exact hl
  have b := hb st us I.kIn (by rw [List.append_nil]; exact hul)
  rw [List.append_nil] at b
  obtain ⟨oc, od, dV, kV, doc, pm, an, cdv, ct, osl, rfl, lk, hcd, _, _⟩ := F.ex
  refine LamX.run_ofS (N := s.N) (k := 0) lk hcd S hr I.env0 b rv hl fun hr' => ?_
  refine ⟨_, ?_, start_ofV (K := X.K) (mg := X.mg) (W := fun cls d _ H => E cls d H) (xi := xiV xi H) (G := G lf) (body := s.body) (fun C σ H' z => z) (ar := s.ar) ?_ rfl⟩
  · refine all_ss s.body (G lf) (xiV xi H) (good_of (X := cxOf (L2.CX X.prog X.w) X.prog X.w X.K X.mg X.base s.N d.qual d.scope f cdv X.A X.stack st H E) (c := s.ccV (G lf) exs d) (T lf) hr' rfl rfl S.nd rfl rfl rfl (fun a n h => h) (fun cl h => by rw [hfn] at h; cases h) (takes_of rfl rfl rfl rfl) (passes_of rfl) (fun _ => rfl) rfl rfl (fun _ n a F0 h => ?_) (fun x h => nomatch h) (fun h => absurd rfl h)) (show chkSs (s.ccV (G lf) exs d) s.body d.body = true from hc lf)
    obtain ⟨⟨F1, h1⟩, h2⟩ := h
    obtain ⟨⟨Nf, k1⟩, k2⟩ := hclo n a F1 h1
    refine ⟨⟨Nf, h2.k _ _ rfl k1⟩, fun pins' s' σ' H' vs' us' Q' J rv' h => ?_⟩
    obtain ⟨e1, i, j, bb, e2, e3, e4⟩ := h
    rw [hlf] at e3
    exact k2 s.N d.qual d.scope f cdv E pins' s' σ' H' vs' us' Q' J rv' ⟨h2.trans e1, i, j, bb, e2, e3, e4⟩
  · obtain ⟨k1, k2, ds, k3, k4, k5⟩ := hsp
    exact ⟨k1, k2, ds, k3.xims (xj := xiV xi H) (fun a n h => (hex a n h).elim) (fun n a h => ⟨⟨_, h⟩, Ex.refl H⟩), k4, k5⟩
/-- the defs that make functions: their code objects' tables -/
structure MkOk (tf : List (He.Defn × List ((Nat × Nat) × Str))) (base : Heap) (K : PySem.W.Frag) (mg : Str → Option Value) : Prop where
  T : TbC.T = tf.map fun p => ((He.cT K p.1).2, nmOf p.2)
  B : ∀ p ∈ tf, LamX.TabB base mg (He.cT K p.1).1 (He.cT K p.1).2
  nd : (tf.map fun p => (He.cT K p.1).2).Nodup
theorem map_inj {α β : Type} {f : α → β} : ∀ {l : List α} {x y : α}, (l.map f).Nodup → x ∈ l → y ∈ l → f x = f y → x = y
  | a :: l, x, y, h, hx, hy, e => by
    rw [List.map_cons, List.nodup_cons] at h
    rcases List.mem_cons.mp hx with e1 | hx1
    · rcases List.mem_cons.mp hy with e2 | hy1
      · rw [e1, e2]
      · rw [e1] at e
        exact absurd (List.mem_map.mpr ⟨y, hy1, e.symm⟩) h.1
    · rcases List.mem_cons.mp hy with e2 | hy1
      · rw [e2] at e
        exact absurd (List.mem_map.mpr ⟨x, hx1, e⟩) h.1
      · exact map_inj h.2 hx1 hy1 e
/-- a def that makes functions and hands them over -/
theorem mk_ok {P : Program} {w : World} {base : Heap} {s : Src} {G : Tab} {exs : List Str} {d : He.DefD} {k : Nat} {fd : FuncData} {dvs : List V} {kws : List (Str × V)} {tf : List (He.Defn × List ((Nat × Nat) × Str))} {x : Str} {nml : List ((Nat × Nat) × Str)} {vi : Visit} (F : FunD K d.name d.qual d.params d.body d.scope dvs kws (He.fAd K d.at_) fd) (S : FnScope s.N (s.N.take s.ar) d.scope) (har : (s.N.take s.ar).length = s.ar)
    (T : TopOk K mg G exs) (hc : s.chkM G exs d x nml = true) (calls : ∀ cl ∈ G.fns, CallF P w K mg base k cl) (M : MkOk tf base K mg) (hm : (d.at_, nml) ∈ tf) (hk : 2 ≤ k) (hv : G.vis = some vi) (hx : vi.name = x) (V : ∀ X : Cx, X.prog = P → X.w = w → X.K = K → X.mg = mg → X.base = base → Room 1 X.A → VisAt X vi) :
    FnOk P w K mg base (L2.CX P w) (k + 1) (He.fAd K d.at_) fd (s.N.take s.ar) (spP K mg s.ar (s.run G)) := by
  obtain ⟨oc, od, dV, kV, doc, pm, an, cdv, ct, osl, rfl, lk, hcd, _, _⟩ := F.ex
  obtain ⟨cd, rfl⟩ := He.codeIn_ref hcd
  have e : (He.cT K d.at_).1 = cd := He.codeOf_eq lk rfl
  have hB := M.B _ hm
  rw [e] at hB
  refine fn_of lk hcd S (fun vs H Q E h => by rw [har]; exact h.1) fun A outer st H vs Q E hr h => ⟨_, ?_, start_of (W := fun cls d _ H => E cls d H) (fun C σ H' z => z) h⟩
  exact all_ss s.body G xi0 (good_of (X := cxOf (L2.CX P w) P w K mg base s.N d.qual d.scope (He.fAd K d.at_) (.ref cd) A outer st H E) (c := s.ccM G exs d x nml) T hr rfl rfl S.nd rfl rfl rfl (fun a n h => h) (fun cl h => ⟨rfl, calls cl h⟩) (takes_of rfl rfl rfl rfl) (passes_of rfl) (fun _ => rfl) rfl rfl (fun h => absurd (show false = true from h) Bool.false_ne_true)
    (fun y h => by
      have h : some x = some y := h
      cases h
      exact ⟨rfl, vi, hv, hx, V _ rfl rfl rfl rfl rfl (hr.mono (by omega))⟩)
    (fun _ => ⟨hr.mono hk, cd, (He.cT K d.at_).2, rfl, hB, by rw [M.T]; exact List.mem_map.mpr ⟨_, hm, rfl⟩, fun p hp e => by
      rw [M.T] at hp
      obtain ⟨q, hq, rfl⟩ := List.mem_map.mp hp
      have := map_inj (f := fun p : He.Defn × List ((Nat × Nat) × Str) => (He.cT K p.1).2) M.nd hq hm e
      rw [this]
      rfl, rfl⟩)) (show chkSs (s.ccM G exs d x nml) s.body d.body = true from hc)
/-- the law itself: nothing leaves it -/
def spLaw (K : PySem.W.Frag) (g : List D → Res D) (n : Nat) (C : List Int → Prop) : Sp := fun vs H Q _ => NdefX.TabsN TbC.T H ∧ ∃ a ns, vs = [.ref a] ∧ SqL K H a (ns.map V.int) ∧ ns.length ≤ n ∧ C ns ∧ ∀ H', Q (.bl true) H'
theorem law_ok {P : Program} {w : World} {base : Heap} {s : Src} {G : Tab} {exs : List Str} {d : He.DefD} {k n : Nat} {C : List Int → Prop} {f : Addr} {fd : FuncData} {dvs : List V} {kws : List (Str × V)} (F : FunD K d.name d.qual d.params d.body d.scope dvs kws f fd) (S : FnScope s.N (s.N.take s.ar) d.scope) (har : (s.N.take s.ar).length = 1) (har1 : s.ar = 1)
    (T : TopOk K mg G exs) (hc : s.chk G exs d = true) (calls : ∀ cl ∈ G.fns, CallF P w K mg base k cl) (law : ∀ ns : List Int, ns.length ≤ n → C ns → s.run G [.scr ns] = .ok (.bl true)) : FnOk P w K mg base CX0 (k + 1) f fd (s.N.take s.ar) (spLaw K (s.run G) n C) := by
  refine F.ok S (fun vs H Q E h => by obtain ⟨_, a, ns, rfl, _⟩ := h; rw [har]; rfl) (fun cdv A outer st H vs Q E hr h => ⟨rdSs ⟨K, xi0⟩ mg W0 G s.body, PSs.nox ?_, ?_⟩)
  · exact all_ss s.body G xi0 (good_of (X := (cxOf CX0 P w K mg base s.N d.qual d.scope f cdv A outer st H E).nox) (c := s.cc G exs d) T hr rfl rfl S.nd rfl rfl rfl (fun a n h => h) (fun cl h => ⟨rfl, calls cl h⟩) takes0 PassesOwn.never (fun _ => rfl) rfl rfl (fun h => absurd (show false = true from h) Bool.false_ne_true) (fun x h => nomatch h) (fun h => absurd rfl h)) (show chkSs (s.cc G exs d) s.body d.body = true from hc)
  · obtain ⟨hT, a, ns, rfl, hS, hl, hC, hQ⟩ := h
    refine start_of (ar := 1) (E := fun _ _ _ => False) (fun C σ H' z => z) ⟨rfl, hT, H, [.scr ns], Ex.refl _, .cons (.scr hS) .nil, rfl, ?_⟩
    have e := law ns hl hC
    unfold Src.run at e
    rw [e]
    intro v H' F' fr o _
    obtain ⟨rfl, _⟩ := o.r.bl'
    exact hQ H'
/-! ### the head's facts -/
def factsL (gls errs cats : List Str) (ci : List (Str × Int)) : List He.Fa := ci.map (fun p => .int p.1 p.2) ++ (gls.map .glo ++ ((bltL ++ [("ValueError" : Str)]).map .free ++ (errs.map .exc ++ errs.flatMap fun n => cats.map fun m => .exm n m (subX n m))))
def excB (K : PySem.W.Frag) (D : Addr) : Bool := decide (PySem.W.findIn K (.ref D) "__getattribute__" = some (some (.builtin "BaseException.__getattribute__"))) && (decide (PySem.W.findIn K (.ref D) "__getattr__" = some none) && (decide (PySem.W.subIn K (.ref D) (.type "BaseException") = some true) && (PySem.W.hasDictIn K D &&
  (decide (PySem.W.findIn K (.ref D) "__class__" = some (some (.builtin "object.__class__"))) && (decide (PySem.W.specialIn K (.builtin "object.__class__") "__get__" = some (some (.builtin "getset_descriptor.__get__"))) && (decide (PySem.W.takesIn K (.builtin "object.__class__") = some true) && decide (PySem.W.mroIn K D (.type "object") = some true)))))))
theorem excB_ok {K : PySem.W.Frag} {D : Addr} (h : excB K D = true) : ExcC K D := by
  unfold excB at h
  simp only [Bool.and_eq_true, decide_eq_true_eq] at h
  obtain ⟨h1, h2, h3, h4, h5, h6, h7, h8⟩ := h
  exact ⟨h1, h2, h3, h4, h5, h6, h7, h8⟩
def excL (K : PySem.W.Frag) (exs errs : List Str) : Bool := errs.all fun n => excB K (He.ga K n) && ((tyNames.all fun w => decide (PySem.W.kitOne K (.ref (He.ga K n)) (.type (tyS w)) = some (subX n w))) && (decide (PySem.W.kitOne K (.ref (He.ga K n)) (.type "ValueError") = some (subX n "ValueError")) &&
  exs.all fun w => decide (PySem.W.kitOne K (.ref (He.ga K n)) (.ref (He.ga K w)) = some (subX n w))))
/-- a written tuple of ints and texts -/
def valsB : List D → List Value → Bool
  | [], [] => true
  | .int i :: ds, .int j _ :: vs => decide (i = j) && valsB ds vs
  | .str x :: ds, .str y _ :: vs => decide (x = y) && valsB ds vs
  | _, _ => false
def tupB (K : PySem.W.Frag) (x : Str) (ds : List D) : Bool := match K.lookup (He.ga K x) with
  | some o => decide (o.cls = .type "tuple") && (match o.data with
    | .seq its _ => decide (its.size ≤ 100) && valsB ds its.toList
    | _ => false)
  | none => false
theorem valsB_ok {F H : Hp} : ∀ {ds : List D} {us : List Value}, valsB ds us = true → ∃ vs, Vals vs us ∧ Rs ⟨K, xi0⟩ F H ds vs []
  | [], [], _ => ⟨[], .nil, .nil⟩
  | [], _ :: _, h => absurd h (by simp [valsB])
  | d :: ds, [], h => absurd h (by cases d <;> simp [valsB])
  | d :: ds, u :: us, h => by
    cases d <;> try (exfalso; simp [valsB] at h; done)
    · rename_i i
      cases u <;> try (exfalso; simp [valsB] at h; done)
      rename_i j t
      have z : (decide (i = j) && valsB ds us) = true := h
      rw [Bool.and_eq_true, decide_eq_true_eq] at z
      obtain ⟨vs, h1, h2⟩ := valsB_ok z.2
      have e := z.1
      subst e
      exact ⟨.int i :: vs, .cons ⟨t, rfl⟩ h1, .cons (f1 := []) (f2 := []) (.int i) h2⟩
    · rename_i x
      cases u <;> try (exfalso; simp [valsB] at h; done)
      rename_i y t
      have z : (decide (x = y) && valsB ds us) = true := h
      rw [Bool.and_eq_true, decide_eq_true_eq] at z
      obtain ⟨vs, h1, h2⟩ := valsB_ok z.2
      have e := z.1
      subst e
      exact ⟨.str x :: vs, .cons ⟨t, rfl⟩ h1, .cons (f1 := []) (f2 := []) (.str x) h2⟩
theorem tupB_ok {x : Str} {ds : List D} (h : tupB K x ds = true) : ∃ v, v = V.ref (He.ga K x) ∧ ∀ F H, R ⟨K, xi0⟩ F H (.tup ds) v [] := by
  refine ⟨_, rfl, fun F H => ?_⟩
  unfold tupB at h
  cases e : K.lookup (He.ga K x) with
  | none => rw [e] at h; cases h
  | some o =>
    rw [e] at h
    dsimp only at h
    rw [Bool.and_eq_true, decide_eq_true_eq] at h
    obtain ⟨hc, h⟩ := h
    cases ed : o.data <;> rw [ed] at h <;> first | cases h | skip
    rename_i its n
    dsimp only at h
    rw [Bool.and_eq_true, decide_eq_true_eq] at h
    obtain ⟨hs, h⟩ := h
    obtain ⟨vs, h1, h2⟩ := valsB_ok (K := K) (F := F) (H := H) h
    exact .tup (.inr ⟨o, its, n, e, hc, ed, Nat.le_trans hs (by rw [sizeLine_eq]; decide), h1⟩) h2
def exB (K : PySem.W.Frag) (exs errs : List Str) (ct : List (Str × List D)) : Bool := excL K exs errs && ct.all fun p => tupB K p.1 p.2
/-- what is known behind the top -/
structure Beh (gls exs errs cats : List Str) (ci : List (Str × Int)) (ct : List (Str × List D)) (fn : List He.DefD) (K : PySem.W.Frag) (mg : Str → Option Value) : Prop where
  top : ∀ G : Tab, G.errs = errs → G.cats = cats → (∀ p ∈ G.cst, ∃ u v, mg p.1 = some u ∧ RelV v u ∧ ∀ F H, R ⟨K, xi0⟩ F H p.2 v []) → TopOk K mg G exs
  fns : ∀ d ∈ fn, ∃ fd, FunD K d.name d.qual d.params d.body d.scope (d.dvs K) (d.kws K) (He.fAd K d.at_) fd
  glo : ∀ x ∈ gls, mg x = some (.ref (He.ga K x))
  cst : ∀ p ∈ ci, ∃ t, mg p.1 = some (.int p.2 t)
  tup : ∀ p ∈ ct, ∃ v, mg p.1 = some (.ref v) ∧ ∀ F H, R ⟨K, xi0⟩ F H (.tup p.2) (.ref v) []
/-- a constant told by ci or ct -/
def cstB (ci : List (Str × Int)) (ct : List (Str × List D)) (p : Str × D) : Bool := match p.2 with
  | .int i => ci.contains (p.1, i)
  | _ => false
theorem Beh.csts {gls exs errs cats : List Str} {ci : List (Str × Int)} {ct : List (Str × List D)} {fn : List He.DefD} (B : Beh gls exs errs cats ci ct fn K mg) {cs : List (Str × Int)} {ts : List (Str × List D)} (h : (cs.all fun p => ci.contains p) = true) (ht : ∀ p ∈ ts, p ∈ ct) : ∀ p ∈ cs.map (fun p => (p.1, D.int p.2)) ++ ts.map (fun p => (p.1, D.tup p.2)), ∃ u v, mg p.1 = some u ∧ RelV v u ∧ ∀ F H, R ⟨K, xi0⟩ F H p.2 v [] := by
  intro p hp
  rcases List.mem_append.mp hp with hp | hp
  · obtain ⟨q, hq, rfl⟩ := List.mem_map.mp hp
    have z := List.all_eq_true.mp h q hq
    obtain ⟨t, ht⟩ := B.cst q (by simpa using z)
    exact ⟨_, .int q.2, ht, ⟨t, rfl⟩, fun F H => .int _⟩
  · obtain ⟨q, hq, rfl⟩ := List.mem_map.mp hp
    obtain ⟨v, h1, h2⟩ := B.tup q (ht q hq)
    exact ⟨_, .ref v, h1, rfl, h2⟩
theorem beh_of {gls exs errs cats : List Str} {ci : List (Str × Int)} {ct : List (Str × List D)} {fn : List He.DefD} {w : World} {h : Heap} (X : K.In h) (Gn : h.Ns mainGlobals mg) (c : He.SaysT (factsL gls errs cats ci) fn [] w K) (cm : exB K exs errs ct = true) (h1 : (exs.all fun x => gls.contains x) = true) (h2 : (errs.all fun x => gls.contains x) = true) (h3 : (cats.all fun x => gls.contains x) = true) (h4 : (ct.all fun p => gls.contains p.1) = true) : Beh gls exs errs cats ci ct fn K mg := by
  have f0 : ∀ p ∈ ci, ∃ t, mg p.1 = some (.int p.2 t) := fun p m => He.int_ok X Gn (c.d.facts (f := .int p.1 p.2) (List.mem_append_left _ (List.mem_map.mpr ⟨p, m, rfl⟩)))
  have f1 : ∀ x ∈ gls, mg x = some (.ref (He.ga K x)) := fun x m => He.glo_ok X Gn (c.d.facts (List.mem_append_right _ (List.mem_append_left _ (List.mem_map_of_mem m))))
  have f2 : ∀ x ∈ bltL ++ [("ValueError" : Str)], mg x = none := fun x m => He.free_ok X Gn (c.d.facts (List.mem_append_right _ (List.mem_append_right _ (List.mem_append_left _ (List.mem_map_of_mem m)))))
  have g1 : ∀ x ∈ exs, x ∈ gls := fun x m => by simpa using List.all_eq_true.mp h1 x m
  have g2 : ∀ x ∈ errs, x ∈ gls := fun x m => by simpa using List.all_eq_true.mp h2 x m
  have g3 : ∀ x ∈ cats, x ∈ gls := fun x m => by simpa using List.all_eq_true.mp h3 x m
  have at_ : ∀ {x : Str} {C : Addr}, x ∈ gls → mg x = some (.ref C) → C = He.ga K x := fun m e => by
    rw [f1 _ m] at e
    cases e
    rfl
  have ex : ∀ n ∈ errs, excB K (He.ga K n) = true ∧ (∀ w ∈ tyNames, PySem.W.kitOne K (.ref (He.ga K n)) (.type (tyS w)) = some (subX n w)) ∧ PySem.W.kitOne K (.ref (He.ga K n)) (.type "ValueError") = some (subX n "ValueError") ∧ ∀ w ∈ exs, PySem.W.kitOne K (.ref (He.ga K n)) (.ref (He.ga K w)) = some (subX n w) := fun n m => by
    have z := List.all_eq_true.mp (show (errs.all fun n => _) = true from (Bool.and_eq_true_iff.mp (show (excL K exs errs && ct.all fun p => tupB K p.1 p.2) = true from cm)).1) n m
    rw [Bool.and_eq_true, Bool.and_eq_true, Bool.and_eq_true, List.all_eq_true, List.all_eq_true, decide_eq_true_eq] at z
    obtain ⟨z1, z2, z3, z4⟩ := z
    exact ⟨z1, fun w hw => of_decide_eq_true (z2 w hw), z3, fun w hw => of_decide_eq_true (z4 w hw)⟩
  refine ⟨fun G e1 e2 hc => ⟨fun x m => f2 x (List.mem_append_left _ m), f2 _ (List.mem_append_right _ List.mem_cons_self), fun x m => ⟨_, f1 x (g1 x m)⟩, hc, fun n m C hC => ?_, fun n m m' mm C D hC hD => ?_, fun n m C hC w hw => ?_, fun n m C hC => ?_, fun n m C hC w hw D hD => ?_⟩, fun d m => c.d.defs m, f1, f0, fun p m => ?_⟩
  · rw [e1] at m
    rw [at_ (g2 n m) hC]
    obtain ⟨q1, q2, q3, q4⟩ := He.exc_ok (c.d.facts (f := .exc n) (List.mem_append_right _ (List.mem_append_right _ (List.mem_append_right _ (List.mem_append_left _ (List.mem_map_of_mem m))))))
    exact ⟨q1, q2, q3, q4, excB_ok (ex n m).1⟩
  · rw [e1] at m
    rw [e2] at mm
    rw [at_ (g2 n m) hC, at_ (g3 m' mm) hD]
    exact He.exm_ok (c.d.facts (f := .exm n m' (subX n m')) (List.mem_append_right _ (List.mem_append_right _ (List.mem_append_right _ (List.mem_append_right _ (List.mem_flatMap.mpr ⟨n, m, List.mem_map_of_mem mm⟩))))))
  · rw [e1] at m
    rw [at_ (g2 n m) hC]
    exact (ex n m).2.1 w (by simpa using hw)
  · rw [e1] at m
    rw [at_ (g2 n m) hC]
    exact (ex n m).2.2.1
  · rw [e1] at m
    rw [at_ (g2 n m) hC, at_ (g1 w hw) hD]
    exact (ex n m).2.2.2 w hw
  · have z := List.all_eq_true.mp (Bool.and_eq_true_iff.mp (show (excL K exs errs && ct.all fun p => tupB K p.1 p.2) = true from cm)).2 p m
    obtain ⟨v, rfl, h⟩ := tupB_ok z
    exact ⟨_, f1 p.1 (by simpa using List.all_eq_true.mp h4 p m), h⟩
end
end L3

set_option maxRecDepth 100000
set_option maxHeartbeats 4000000
/-! L3.Pure: plain lemmas about what the small language computes. -/
namespace L3
open PySem (Str PyData)

theorem atI_nat {α : Type} {xs : List α} {k : Nat} (h : k < xs.length) : L2.atI xs (k : Int) = xs[k]? := by
  unfold L2.atI L2.ixN
  have h1 : (0 : Int) ≤ (k : Int) := Int.natCast_nonneg k
  have h2 : (k : Int) < (xs.length : Int) := by omega
  simp [h1, h2]
@[simp] theorem atI_0 {α : Type} {x : α} {xs : List α} : L2.atI (x :: xs) 0 = some x := by
  have := atI_nat (xs := x :: xs) (k := 0) (by simp)
  simpa using this
@[simp] theorem atI_1 {α : Type} {x y : α} {xs : List α} : L2.atI (x :: y :: xs) 1 = some y := by
  have := atI_nat (xs := x :: y :: xs) (k := 1) (by simp)
  simpa using this
@[simp] theorem atI_2 {α : Type} {x y z : α} {xs : List α} : L2.atI (x :: y :: z :: xs) 2 = some z := by
  have := atI_nat (xs := x :: y :: z :: xs) (k := 2) (by simp)
  simpa using this
/-! ### texts' words -/
@[simp] theorem strEq (a b : String) : (Str.ofString a = Str.ofString b) ↔ a = b := by
  rw [PySem.Str.ofString_eq_toList, PySem.Str.ofString_eq_toList]
  constructor
  · intro h
    have h1 : (a.toList.map Char.toNat).toArray = (b.toList.map Char.toNat).toArray := congrArg Str.cps h
    have h2 : a.toList.map Char.toNat = b.toList.map Char.toNat := by simpa using h1
    have h3 : a.toList = b.toList := (List.map_inj_right (fun x y e => Char.ext (UInt32.toNat_inj.mp e))).mp h2
    exact String.ext_iff.mpr h3 
  · intro h
    rw [h]
@[simp] theorem strBeq (a b : String) : (Str.ofString a == Str.ofString b) = (a == b) := by
  by_cases h : a = b
  · subst h; simp
  · have h2 : ¬ Str.ofString a = Str.ofString b := fun e => h ((strEq a b).mp e)
    rw [beq_eq_false_iff_ne.mpr h2, beq_eq_false_iff_ne.mpr h]
/-! ### what the words compute -/
@[simp] theorem b_add_int (i j : Int) : bopD .add (.int i) (.int j) = some (.int (i + j)) := Eq.trans rfl rfl
@[simp] theorem b_add_str (x y : Str) : bopD .add (.str x) (.str y) = chkO (x.length + y.length ≤ 16000000) (some (.str (x ++ y))) := Eq.trans rfl rfl
@[simp] theorem b_add_lst (f g : Fl) (xs ys : List D) : bopD .add (.lst f xs) (.lst g ys) = chkO (xs.length + ys.length ≤ 16000000) (some (.lst .own (xs ++ ys))) := Eq.trans rfl rfl
@[simp] theorem b_sub_int (i j : Int) : bopD .sub (.int i) (.int j) = some (.int (i - j)) := Eq.trans rfl rfl
@[simp] theorem b_mul_int (i j : Int) : bopD .mul (.int i) (.int j) = chkO (MulOk i j) (some (.int (i * j))) := Eq.trans rfl rfl
theorem b_mul_lsts (f : Fl) (ds : List D) (j : Int) : bopD .mul (.lst f ds) (.int j) = chkO ((0 ≤ j ∧ j ≤ 1000) ∧ (ds.all flatD = true ∧ ds.length ≤ 1000)) (some (.lst .own (List.replicate j.toNat ds).flatten)) := Eq.trans rfl rfl
@[simp] theorem b_mul_lst (f : Fl) (d : D) (j : Int) : bopD .mul (.lst f [d]) (.int j) = chkO ((0 ≤ j ∧ j ≤ 1000) ∧ flatD d = true) (some (.lst .own (List.replicate j.toNat d))) := by
  have e : (List.replicate j.toNat [d]).flatten = List.replicate j.toNat d := by simp
  have a : (List.all [d] flatD = true ∧ [d].length ≤ 1000) = (flatD d = true) := by simp
  rw [b_mul_lsts, e]
  unfold chkO
  by_cases h : (0 ≤ j ∧ j ≤ 1000) ∧ flatD d = true
  · rw [if_pos h, if_pos ⟨h.1, by simpa using h.2⟩]
  · rw [if_neg h, if_neg fun z => h ⟨z.1, by simpa using z.2.1⟩]
@[simp] theorem flat_int (i : Int) : flatD (.int i) = true := Eq.trans rfl rfl
@[simp] theorem flat_bl (i : Bool) : flatD (.bl i) = true := Eq.trans rfl rfl
@[simp] theorem flat_str (i : Str) : flatD (.str i) = true := Eq.trans rfl rfl
@[simp] theorem flat_non : flatD .non = true := Eq.trans rfl rfl
@[simp] theorem b_fdiv_int (i j : Int) : bopD .fdiv (.int i) (.int j) = chkO (DivOk j) (some (.int (i.fdiv j))) := Eq.trans rfl rfl
@[simp] theorem b_mod_int (i j : Int) : bopD .mod (.int i) (.int j) = chkO (j ≠ 0) (some (.int (i.fmod j))) := Eq.trans rfl rfl
@[simp] theorem b_pow_int (i j : Int) : bopD .pow (.int i) (.int j) = chkO (PowOk i j) (some (.int (i ^ j.toNat))) := Eq.trans rfl rfl
@[simp] theorem b_shr_int (i j : Int) : bopD .shr (.int i) (.int j) = chkO (0 ≤ j) (some (.int (i / 2 ^ j.toNat))) := Eq.trans rfl rfl
@[simp] theorem b_eq (a b : D) : bopD .eq a b = chkO (cmpOk 60 a = true ∧ cmpOk 60 b = true) (some (.bl (eqD a b))) := Eq.trans rfl rfl
@[simp] theorem b_ne (a b : D) : bopD .ne a b = chkO (cmpOk 60 a = true ∧ cmpOk 60 b = true) (some (.bl (!eqD a b))) := Eq.trans rfl rfl
@[simp] theorem b_lt_int (i j : Int) : bopD .lt (.int i) (.int j) = some (.bl (decide (i < j))) := Eq.trans rfl rfl
@[simp] theorem b_le_int (i j : Int) : bopD .le (.int i) (.int j) = some (.bl (decide (i ≤ j))) := Eq.trans rfl rfl
@[simp] theorem b_gt_int (i j : Int) : bopD .gt (.int i) (.int j) = some (.bl (decide (j < i))) := Eq.trans rfl rfl
@[simp] theorem b_ge_int (i j : Int) : bopD .ge (.int i) (.int j) = some (.bl (decide (j ≤ i))) := Eq.trans rfl rfl
@[simp] theorem b_isin_lst (a : D) (f : Fl) (ds : List D) : bopD .isin a (.lst f ds) = chkO (cmpOk 60 a = true ∧ cmpOks 59 ds = true) (some (.bl (ds.any fun z => eqD z a))) := by cases a <;> exact Eq.trans rfl rfl
@[simp] theorem b_isin_str (x y : Str) : bopD .isin (.str x) (.str y) = chkO (x.cps.size = 1) (some (.bl (decide (x.cps.getD 0 0 ∈ y.cps.toList)))) := Eq.trans rfl rfl
@[simp] theorem b_notin_lst (a : D) (f : Fl) (ds : List D) : bopD .notin a (.lst f ds) = chkO (cmpOk 60 a = true ∧ cmpOks 59 ds = true) (some (.bl (!ds.any fun z => eqD z a))) := by cases a <;> exact Eq.trans rfl rfl
@[simp] theorem b_notin_str (x y : Str) : bopD .notin (.str x) (.str y) = chkO (x.cps.size = 1) (some (.bl (!decide (x.cps.getD 0 0 ∈ y.cps.toList)))) := Eq.trans rfl rfl
@[simp] theorem b_is_non (a : D) : bopD .is a .non = some (.bl (isNon a)) := Eq.trans rfl rfl
@[simp] theorem b_isnot_non (a : D) : bopD .isnot a .non = some (.bl (!isNon a)) := Eq.trans rfl rfl
@[simp] theorem b_ix_tup (ds : List D) (i : Int) : bopD .ix (.tup ds) (.int i) = L2.atI ds i := Eq.trans rfl rfl
@[simp] theorem b_ix_lst (f : Fl) (ds : List D) (i : Int) : bopD .ix (.lst f ds) (.int i) = L2.atI ds i := Eq.trans rfl rfl
@[simp] theorem b_ix_scr (ns : List Int) (i : Int) : bopD .ix (.scr ns) (.int i) = (L2.atI ns i).bind fun n => some (.int n) := Eq.trans rfl rfl
@[simp] theorem b_ix_str (x : Str) (i : Int) : bopD .ix (.str x) (.int i) = chkO (x.length ≤ 16000000) ((L2.atI x.cps.toList i).bind fun c => some (.str ⟨#[c]⟩)) := Eq.trans rfl rfl
@[simp] theorem u_neg (i : Int) : uopD .neg (.int i) = some (.int (-i)) := Eq.trans rfl rfl
@[simp] theorem u_not (b : Bool) : uopD .not (.bl b) = some (.bl (!b)) := Eq.trans rfl rfl
@[simp] theorem f_len_tup (ds : List D) : fnD .len [.tup ds] = some (.int ds.length) := Eq.trans rfl rfl
@[simp] theorem f_len_lst (f : Fl) (ds : List D) : fnD .len [.lst f ds] = some (.int ds.length) := Eq.trans rfl rfl
@[simp] theorem f_len_scr (ns : List Int) : fnD .len [.scr ns] = some (.int ns.length) := Eq.trans rfl rfl
@[simp] theorem f_len_str (x : Str) : fnD .len [.str x] = chkO (x.length ≤ 16000000) (some (.int x.length)) := Eq.trans rfl rfl
@[simp] theorem f_abs (i : Int) : fnD .abs [.int i] = some (.int (i.natAbs : Int)) := by
  show some (D.int (if i < 0 then -i else i)) = _
  split <;> (congr 2; omega)
@[simp] theorem f_max2 (i j : Int) : fnD .max2 [.int i, .int j] = some (.int (max i j)) := by
  show some (D.int (if j > i then j else i)) = _
  split <;> (congr 2; omega)
@[simp] theorem f_min2 (i j : Int) : fnD .min2 [.int i, .int j] = some (.int (min i j)) := by
  show some (D.int (if j < i then j else i)) = _
  split <;> (congr 2; omega)
@[simp] theorem f_int (i : Int) : fnD .int [.int i] = some (.int i) := Eq.trans rfl rfl
@[simp] theorem f_sum (f : Fl) (ds : List D) : fnD .sum [.lst f ds] = (intsD ds).bind fun ns => some (.int ns.sum) := Eq.trans rfl rfl
@[simp] theorem f_max1 (f : Fl) (ds : List D) : fnD .max1 [.lst f ds] = (intsD ds).bind fun ns => chkO (ns ≠ []) (some (.int (maxL ns))) := Eq.trans rfl rfl
@[simp] theorem f_min1 (f : Fl) (ds : List D) : fnD .min1 [.lst f ds] = (intsD ds).bind fun ns => chkO (ns ≠ []) (some (.int (minL ns))) := Eq.trans rfl rfl
@[simp] theorem f_all (f : Fl) (ds : List D) : fnD .all [.lst f ds] = (blsD ds).bind fun bs => some (.bl (bs.all id)) := Eq.trans rfl rfl
@[simp] theorem f_listL (f : Fl) (ds : List D) : fnD .list [.lst f ds] = some (.lst .own ds) := Eq.trans rfl rfl
@[simp] theorem f_listT (ds : List D) : fnD .list [.tup ds] = some (.lst .own ds) := Eq.trans rfl rfl
@[simp] theorem intsD_map : ∀ ns : List Int, intsD (ns.map .int) = some ns
  | [] => rfl
  | n :: ns => by
    show (intsD (ns.map .int)).map (n :: ·) = _
    rw [intsD_map ns]
    rfl
@[simp] theorem blsD_map : ∀ ns : List Bool, blsD (ns.map .bl) = some ns
  | [] => rfl
  | n :: ns => by
    show (blsD (ns.map .bl)).map (n :: ·) = _
    rw [blsD_map ns]
    rfl
@[simp] theorem isNon_non : isNon .non = true := Eq.trans rfl rfl
@[simp] theorem isNon_int (i : Int) : isNon (.int i) = false := Eq.trans rfl rfl
@[simp] theorem isNon_tup (ds : List D) : isNon (.tup ds) = false := Eq.trans rfl rfl
@[simp] theorem isNon_lst (f : Fl) (ds : List D) : isNon (.lst f ds) = false := Eq.trans rfl rfl
@[simp] theorem isNon_str (x : Str) : isNon (.str x) = false := Eq.trans rfl rfl
@[simp] theorem isNon_bl (b : Bool) : isNon (.bl b) = false := Eq.trans rfl rfl
@[simp] theorem it_sql (f : Fl) (ds : List D) : items .sql [.lst f ds] = some ds := Eq.trans rfl rfl
@[simp] theorem it_sqt (ds : List D) : items .sqt [.tup ds] = some ds := Eq.trans rfl rfl
@[simp] theorem it_rng1 (n : Int) : items .rng1 [.int n] = chkO (-(2 ^ 62) ≤ n ∧ n < 2 ^ 62) (some ((List.range n.toNat).map fun (k : Nat) => .int (k : Int))) := Eq.trans rfl rfl
@[simp] theorem it_rng2 (a b : Int) : items .rng2 [.int a, .int b] = chkO (-(2 ^ 62) ≤ a ∧ a < 2 ^ 62 ∧ -(2 ^ 62) ≤ b ∧ b < 2 ^ 62) (some ((List.range (b - a).toNat).map fun (k : Nat) => .int (a + (k : Int)))) := Eq.trans rfl rfl
@[simp] theorem it_rng3 (a b c : Int) : items .rng3 [.int a, .int b, .int c] = chkO (c ≠ 0 ∧ c.natAbs < 1073741824 ∧ PySem.Builtin.Range.small a b c = true) (some ((List.range (PySem.Builtin.Range.rangeSize a b c).toNat).map fun (k : Nat) => .int (a + (k : Int) * c))) := Eq.trans rfl rfl
@[simp] theorem it_enm (f : Fl) (ds : List D) : items .enm [.lst f ds] = some (enmD 0 ds) := Eq.trans rfl rfl
@[simp] theorem it_zip (f g : Fl) (xs ys : List D) : items .zip [.lst f xs, .lst g ys] = chkO (xs.length = ys.length) (some (zipD xs ys)) := Eq.trans rfl rfl
@[simp] theorem bindT_one (i : Nat) (d : D) (e : Env) : bindT (.one i) d e = some (e.set i (some d)) := Eq.trans rfl rfl
@[simp] theorem bindT_many (is : List Nat) (ds : List D) (e : Env) : bindT (.many is) (.tup ds) e = setAll is ds e := Eq.trans rfl rfl
/-! ### equality -/
@[simp] theorem eqD_int (i j : Int) : eqD (.int i) (.int j) = decide (i = j) := by
  unfold eqD py PyData.eqv
  by_cases h : i = j <;> simp [h]
@[simp] theorem eqD_bl (i j : Bool) : eqD (.bl i) (.bl j) = (i == j) := by
  unfold eqD py PyData.eqv
  rfl
@[simp] theorem eqD_str (i j : Str) : eqD (.str i) (.str j) = (i == j) := by
  unfold eqD py PyData.eqv
  rfl
def eqDs (xs ys : List D) : Bool := PyData.eqvAll (pys xs) (pys ys)
@[simp] theorem eqD_tup (xs ys : List D) : eqD (.tup xs) (.tup ys) = eqDs xs ys := by
  unfold eqD py PyData.eqv
  rfl
@[simp] theorem eqD_lst (f g : Fl) (xs ys : List D) : eqD (.lst f xs) (.lst g ys) = eqDs xs ys := by
  unfold eqD
  rw [py, py, PyData.eqv]
  rfl
@[simp] theorem eqDs_nil : eqDs [] [] = true := by
  unfold eqDs pys PyData.eqvAll
  rfl
@[simp] theorem eqDs_cons (x y : D) (xs ys : List D) : eqDs (x :: xs) (y :: ys) = (eqD x y && eqDs xs ys) := by
  unfold eqDs eqD
  rw [pys, pys, PyData.eqvAll]
@[simp] theorem eqDs_cn (x : D) (xs : List D) : eqDs (x :: xs) [] = false := by
  unfold eqDs
  rw [pys, pys, PyData.eqvAll]
@[simp] theorem eqDs_nc (x : D) (xs : List D) : eqDs [] (x :: xs) = false := by
  unfold eqDs
  rw [pys, pys, PyData.eqvAll]
/-! ### sizes -/
theorem log2_lt {n a : Nat} (h : n < 2 ^ a) (ha : 0 < a) : n.log2 < a := by
  by_cases h0 : n = 0
  · subst h0; simpa using ha
  · exact (Nat.log2_lt h0).mpr h
theorem MulOk.of {i j : Int} (a b : Nat) (hi : i.natAbs < 2 ^ a) (hj : j.natAbs < 2 ^ b) (h : a + b < 1000000) : MulOk i j := by
  unfold MulOk
  have h1 : i.natAbs.log2 ≤ a := by
    by_cases h0 : i.natAbs = 0
    · rw [h0]; simp
    · exact Nat.le_of_lt ((Nat.log2_lt h0).mpr hi)
  have h2 : j.natAbs.log2 ≤ b := by
    by_cases h0 : j.natAbs = 0
    · rw [h0]; simp
    · exact Nat.le_of_lt ((Nat.log2_lt h0).mpr hj)
  omega
theorem DivOk.of {j : Int} (b : Nat) (h0 : j ≠ 0) (hj : j.natAbs < 2 ^ b) (h : b ≤ 9000) : DivOk j := by
  refine ⟨h0, ?_⟩
  have h1 : j.natAbs ≠ 0 := by omega
  exact Nat.lt_of_lt_of_le ((Nat.log2_lt h1).mpr hj) h
theorem PowOk.of {i j : Int} (a : Nat) (k : Nat) (hi : i.natAbs < 2 ^ a) (hj : j = (k : Int)) (h : (a + 1) * k ≤ 134217728) : PowOk i j := by
  subst hj
  refine ⟨Int.natCast_nonneg k, ?_⟩
  have h1 : i.natAbs.log2 ≤ a := by
    by_cases h0 : i.natAbs = 0
    · rw [h0]; simp
    · exact Nat.le_of_lt ((Nat.log2_lt h0).mpr hi)
  have h2 : (i.natAbs.log2 + 1) * k ≤ (a + 1) * k := Nat.mul_le_mul_right k (by omega)
  rw [Int.toNat_natCast]
  omega
/-! ### loops -/
theorem forGo_same {f : D → Env → Out} {clr : List Nat} {env : Env} : ∀ {xs : List D}, (∀ x ∈ xs, ∃ e', f x env = .nx e' ∧ wipeE e' clr = env) → forGo f clr xs env = .nx env
  | [], _ => rfl
  | x :: xs, h => by
    obtain ⟨e', h1, h2⟩ := h x List.mem_cons_self
    rw [forGo, h1]
    dsimp only
    rw [h2]
    exact forGo_same fun y m => h y (List.mem_cons_of_mem _ m)
/-- the turns change a state s of which the slots tell -/
theorem forGo_fold {S : Type} {f : D → Env → Out} {clr : List Nat} {E : S → Env} {step : S → D → S} {P : S → Prop} : ∀ {xs : List D} {s : S}, P s → (∀ x ∈ xs, ∀ s, P s → P (step s x) ∧ ∃ e', f x (E s) = .nx e' ∧ wipeE e' clr = E (step s x)) → forGo f clr xs (E s) = .nx (E (xs.foldl step s))
  | [], s, _, _ => rfl
  | x :: xs, s, hp, h => by
    obtain ⟨hp', e', h1, h2⟩ := h x List.mem_cons_self s hp
    rw [forGo, h1]
    dsimp only
    rw [h2]
    exact forGo_fold hp' fun y m => h y (List.mem_cons_of_mem _ m)
end L3

set_option maxRecDepth 100000
set_option maxHeartbeats 4000000
/-! L3.Com: what the plain parts share: sizes by classes, lists of encoded things, loops by invariants. -/
namespace L3
open PySem (Str PyData)

/-! ### sizes, by classes -/
class Bd (x : Int) (n : outParam Nat) : Prop where
  h : x.natAbs < 2 ^ n
instance Bd.lit {k : Nat} : Bd (no_index (@OfNat.ofNat Int k _root_.instOfNat)) (Nat.log2 k + 1) := ⟨by
  show (Int.natAbs (k : Int)) < _
  rw [Int.natAbs_natCast]
  exact Nat.lt_log2_self⟩
instance Bd.neg {x : Int} {n : Nat} [h : Bd x n] : Bd (-x) n := ⟨by rw [Int.natAbs_neg]; exact h.h⟩
theorem two_max {n m : Nat} : 2 ^ n ≤ 2 ^ max n m ∧ 2 ^ m ≤ 2 ^ max n m := ⟨Nat.pow_le_pow_right (by decide) (Nat.le_max_left _ _), Nat.pow_le_pow_right (by decide) (Nat.le_max_right _ _)⟩
instance Bd.add {x y : Int} {n m : Nat} [hx : Bd x n] [hy : Bd y m] : Bd (x + y) (max n m + 1) := ⟨by
  have h1 := hx.h
  have h2 := hy.h
  have h3 := two_max (n := n) (m := m)
  have h4 := Int.natAbs_add_le x y
  rw [Nat.pow_succ]
  omega⟩
instance Bd.sub {x y : Int} {n m : Nat} [hx : Bd x n] [hy : Bd y m] : Bd (x - y) (max n m + 1) := ⟨by
  have h1 := hx.h
  have h2 := hy.h
  have h3 := two_max (n := n) (m := m)
  have h4 := Int.natAbs_sub_le x y
  rw [Nat.pow_succ]
  omega⟩
instance Bd.mul {x y : Int} {n m : Nat} [hx : Bd x n] [hy : Bd y m] : Bd (x * y) (n + m) := ⟨by
  have h1 := hx.h
  have h2 := hy.h
  rw [Int.natAbs_mul, Nat.pow_add]
  exact Nat.mul_lt_mul'' h1 h2⟩
theorem fmod_bound {x : Int} {k : Nat} (h : 0 < k) : (x.fmod (k : Int)).natAbs < k ∧ 0 ≤ x.fmod (k : Int) := by
  rw [Int.fmod_eq_emod_of_nonneg _ (by omega)]
  have h1 := Int.emod_nonneg x (show (k : Int) ≠ 0 by omega)
  have h2 := Int.emod_lt_of_pos x (show (0 : Int) < k by omega)
  omega
instance Bd.mod {x : Int} {k : Nat} [NeZero k] : Bd (x.fmod (no_index (@OfNat.ofNat Int k _root_.instOfNat))) (Nat.log2 k + 1) := ⟨by
  have h := (fmod_bound (x := x) (k := k) (Nat.pos_of_ne_zero (NeZero.ne k))).1
  exact Nat.lt_trans h Nat.lt_log2_self⟩
theorem Bd.of_le {x : Int} {n : Nat} (m : Nat) (h : x.natAbs ≤ m) (h2 : m < 2 ^ n) : Bd x n := ⟨by omega⟩
instance Bd.nat64 {k : Nat} [h : Bd (k : Int) 64] : Bd (k : Int) 64 := h
@[simp] theorem MulOk.bd {x y : Int} {n m : Nat} [hx : Bd x n] [hy : Bd y m] (h : n + m < 1000000) : MulOk x y = True := eq_true (MulOk.of n m hx.h hy.h h)
@[simp] theorem DivOk.lit {k : Nat} [NeZero k] (h : Nat.log2 k < 9000) : DivOk (no_index (@OfNat.ofNat Int k _root_.instOfNat)) = True := eq_true ⟨by
  show (k : Int) ≠ 0
  have := NeZero.ne k
  omega, by
  show (Int.natAbs (k : Int)).log2 < 9000
  rw [Int.natAbs_natCast]
  exact h⟩
@[simp] theorem PowOk.bd {x : Int} {n k : Nat} [hx : Bd x n] (h : (n + 1) * k ≤ 134217728) : PowOk x (no_index (@OfNat.ofNat Int k _root_.instOfNat)) = True :=
  eq_true (PowOk.of (j := (k : Int)) n k hx.h rfl h)
instance Bd.pow {x : Int} {n k : Nat} [hx : Bd x n] : Bd (x ^ k) (n * k + 1) := ⟨by
  rw [Int.natAbs_pow, Nat.pow_succ, Nat.pow_mul]
  have h1 : x.natAbs ^ k ≤ (2 ^ n) ^ k := Nat.pow_le_pow_left (Nat.le_of_lt hx.h) k
  have h2 : 0 < (2 ^ n) ^ k := Nat.pow_pos (Nat.pow_pos (by decide))
  omega⟩
instance Bd.div {x : Int} {n k : Nat} [NeZero k] [hx : Bd x n] : Bd (x.fdiv (no_index (@OfNat.ofNat Int k _root_.instOfNat))) n := ⟨by
  show (x.fdiv (k : Int)).natAbs < _
  have h0 : 0 < k := Nat.pos_of_ne_zero (NeZero.ne k)
  rw [Int.fdiv_eq_ediv_of_nonneg _ (by omega)]
  exact Nat.lt_of_le_of_lt (Int.natAbs_ediv_le_natAbs x k) hx.h⟩
instance Bd.max {x y : Int} {n m : Nat} [hx : Bd x n] [hy : Bd y m] : Bd (Max.max x y) (Max.max n m) := ⟨by
  have h1 := hx.h
  have h2 := hy.h
  have h3 := two_max (n := n) (m := m)
  have h4 : Max.max x y = x ∨ Max.max x y = y := by omega
  rcases h4 with e | e <;> (rw [e]; omega)⟩
theorem DivOk.bd {y : Int} {m : Nat} [hy : Bd y m] (h0 : y ≠ 0) (h : m ≤ 9000) : DivOk y = True := eq_true (DivOk.of m h0 hy.h h)
@[simp] theorem log2_lit (k : Nat) : Nat.log2 (no_index (OfNat.ofNat k)) = if 2 ≤ k then Nat.log2 (k / 2) + 1 else 0 := Nat.log2_def k
@[simp] theorem chkO_True' {α : Type} {c : Prop} [Decidable c] (h : c) (r : Option α) : chkO c r = r := chkO_pos h
@[simp] theorem chkR_True' {α : Type} {c : Prop} [Decidable c] (h : c) (r : Res α) : chkR c r = r := chkR_pos h
/-! ### lists of encoded things -/
@[simp] theorem frzs_mapE {α : Type} (e : α → D) (xs : List α) : frzs (xs.map e) = xs.map fun x => frz (e x) := by rw [frzs_map, List.map_map]; rfl
@[simp] theorem peeks_mapE {α : Type} (e : α → D) (xs : List α) : peeks (xs.map e) = xs.map fun x => peek (e x) := by rw [peeks_map, List.map_map]; rfl
@[simp] theorem nopks_mapE {α : Type} (e : α → D) (xs : List α) : nopks (xs.map e) = xs.all fun x => nopk (e x) := by rw [nopks_all, List.all_map]; rfl
@[simp] theorem nofzs_mapE {α : Type} (e : α → D) (xs : List α) : nofzs (xs.map e) = xs.all fun x => nofz (e x) := by rw [nofzs_all, List.all_map]; rfl
@[simp] theorem allfzs_mapE {α : Type} (e : α → D) (xs : List α) : allfzs (xs.map e) = xs.all fun x => allfz (e x) := by rw [allfzs_all, List.all_map]; rfl
@[simp] theorem noowns_mapE {α : Type} (e : α → D) (xs : List α) : noowns (xs.map e) = xs.all fun x => noown (e x) := by rw [noowns_all, List.all_map]; rfl
theorem cmpOks_all (n : Nat) : ∀ ds : List D, cmpOks n ds = ds.all (cmpOk n)
  | [] => by unfold cmpOks; rfl
  | d :: ds => by unfold cmpOks; rw [cmpOks_all n ds]; rfl
@[simp] theorem cmpOks_mapE {α : Type} (n : Nat) (e : α → D) (xs : List α) : cmpOks n (xs.map e) = xs.all fun x => cmpOk n (e x) := by rw [cmpOks_all, List.all_map]; rfl
theorem noexcs_all : ∀ ds : List D, noexcs ds = ds.all noexc
  | [] => rfl
  | d :: ds => by unfold noexcs; rw [noexcs_all ds]; rfl
@[simp] theorem noexcs_mapE {α : Type} (e : α → D) (xs : List α) : noexcs (xs.map e) = xs.all fun x => noexc (e x) := by rw [noexcs_all, List.all_map]; rfl
@[simp] theorem intsD_mapG {α : Type} (g : α → Int) (xs : List α) : intsD (xs.map fun x => D.int (g x)) = some (xs.map g) := by
  rw [show (xs.map fun x => D.int (g x)) = (xs.map g).map .int by rw [List.map_map]; rfl, intsD_map]
@[simp] theorem intsD_comp {α : Type} (g : α → Int) (xs : List α) : intsD (xs.map (D.int ∘ g)) = some (xs.map g) := intsD_mapG g xs
@[simp] theorem blsD_mapG {α : Type} (g : α → Bool) (xs : List α) : blsD (xs.map fun x => D.bl (g x)) = some (xs.map g) := by
  rw [show (xs.map fun x => D.bl (g x)) = (xs.map g).map .bl by rw [List.map_map]; rfl, blsD_map]
@[simp] theorem blsD_comp {α : Type} (g : α → Bool) (xs : List α) : blsD (xs.map (D.bl ∘ g)) = some (xs.map g) := blsD_mapG g xs
theorem map_erase {α β : Type} (f : α → β) : ∀ (xs : List α) (n : Nat), (xs.eraseIdx n).map f = (xs.map f).eraseIdx n
  | [], n => by simp
  | x :: xs, 0 => by simp
  | x :: xs, n + 1 => by simp [map_erase f xs n]
@[simp] theorem frzs_append (xs ys : List D) : frzs (xs ++ ys) = frzs xs ++ frzs ys := by simp only [frzs_map, List.map_append]
@[simp] theorem frzs_take (xs : List D) (n : Nat) : frzs (xs.take n) = (frzs xs).take n := by simp only [frzs_map, List.map_take]
@[simp] theorem frzs_drop (xs : List D) (n : Nat) : frzs (xs.drop n) = (frzs xs).drop n := by simp only [frzs_map, List.map_drop]
@[simp] theorem frzs_length (xs : List D) : (frzs xs).length = xs.length := by simp only [frzs_map, List.length_map]
@[simp] theorem frzs_set (xs : List D) (n : Nat) (d : D) : frzs (xs.set n d) = (frzs xs).set n (frz d) := by simp only [frzs_map, List.map_set]
@[simp] theorem frzs_erase (xs : List D) (n : Nat) : frzs (xs.eraseIdx n) = (frzs xs).eraseIdx n := by simp only [frzs_map, map_erase]
@[simp] theorem frzs_rep (n : Nat) (d : D) : frzs (List.replicate n d) = List.replicate n (frz d) := by simp only [frzs_map, List.map_replicate]
@[simp] theorem peeks_append (xs ys : List D) : peeks (xs ++ ys) = peeks xs ++ peeks ys := by simp only [peeks_map, List.map_append]
@[simp] theorem peeks_take (xs : List D) (n : Nat) : peeks (xs.take n) = (peeks xs).take n := by simp only [peeks_map, List.map_take]
@[simp] theorem peeks_drop (xs : List D) (n : Nat) : peeks (xs.drop n) = (peeks xs).drop n := by simp only [peeks_map, List.map_drop]
@[simp] theorem peeks_length (xs : List D) : (peeks xs).length = xs.length := by simp only [peeks_map, List.length_map]
@[simp] theorem peeks_set (xs : List D) (n : Nat) (d : D) : peeks (xs.set n d) = (peeks xs).set n (peek d) := by simp only [peeks_map, List.map_set]
@[simp] theorem peeks_erase (xs : List D) (n : Nat) : peeks (xs.eraseIdx n) = (peeks xs).eraseIdx n := by simp only [peeks_map, map_erase]
@[simp] theorem peeks_rep (n : Nat) (d : D) : peeks (List.replicate n d) = List.replicate n (peek d) := by simp only [peeks_map, List.map_replicate]
@[simp] theorem nopks_append (xs ys : List D) : nopks (xs ++ ys) = (nopks xs && nopks ys) := by simp only [nopks_all, List.all_append]
@[simp] theorem nopks_take {xs : List D} (n : Nat) (h : nopks xs = true) : nopks (xs.take n) = true := by
  rw [nopks_all] at h ⊢
  exact List.all_eq_true.mpr fun x m => List.all_eq_true.mp h x (List.mem_of_mem_take m)
@[simp] theorem nopks_drop {xs : List D} (n : Nat) (h : nopks xs = true) : nopks (xs.drop n) = true := by
  rw [nopks_all] at h ⊢
  exact List.all_eq_true.mpr fun x m => List.all_eq_true.mp h x (List.mem_of_mem_drop m)
@[simp] theorem nopks_rep (n : Nat) (d : D) (h : nopk d = true) : nopks (List.replicate n d) = true := by
  rw [nopks_all]
  exact List.all_eq_true.mpr fun x m => by rw [(List.mem_replicate.mp m).2]; exact h
@[simp] theorem nofzs_append (xs ys : List D) : nofzs (xs ++ ys) = (nofzs xs && nofzs ys) := by simp only [nofzs_all, List.all_append]
@[simp] theorem nofzs_take {xs : List D} (n : Nat) (h : nofzs xs = true) : nofzs (xs.take n) = true := by
  rw [nofzs_all] at h ⊢
  exact List.all_eq_true.mpr fun x m => List.all_eq_true.mp h x (List.mem_of_mem_take m)
@[simp] theorem nofzs_drop {xs : List D} (n : Nat) (h : nofzs xs = true) : nofzs (xs.drop n) = true := by
  rw [nofzs_all] at h ⊢
  exact List.all_eq_true.mpr fun x m => List.all_eq_true.mp h x (List.mem_of_mem_drop m)
@[simp] theorem nofzs_rep (n : Nat) (d : D) (h : nofz d = true) : nofzs (List.replicate n d) = true := by
  rw [nofzs_all]
  exact List.all_eq_true.mpr fun x m => by rw [(List.mem_replicate.mp m).2]; exact h
@[simp] theorem allfzs_append (xs ys : List D) : allfzs (xs ++ ys) = (allfzs xs && allfzs ys) := by simp only [allfzs_all, List.all_append]
@[simp] theorem allfzs_take {xs : List D} (n : Nat) (h : allfzs xs = true) : allfzs (xs.take n) = true := by
  rw [allfzs_all] at h ⊢
  exact List.all_eq_true.mpr fun x m => List.all_eq_true.mp h x (List.mem_of_mem_take m)
@[simp] theorem allfzs_drop {xs : List D} (n : Nat) (h : allfzs xs = true) : allfzs (xs.drop n) = true := by
  rw [allfzs_all] at h ⊢
  exact List.all_eq_true.mpr fun x m => List.all_eq_true.mp h x (List.mem_of_mem_drop m)
@[simp] theorem allfzs_rep (n : Nat) (d : D) (h : allfz d = true) : allfzs (List.replicate n d) = true := by
  rw [allfzs_all]
  exact List.all_eq_true.mpr fun x m => by rw [(List.mem_replicate.mp m).2]; exact h
@[simp] theorem noowns_append (xs ys : List D) : noowns (xs ++ ys) = (noowns xs && noowns ys) := by simp only [noowns_all, List.all_append]
@[simp] theorem noowns_take {xs : List D} (n : Nat) (h : noowns xs = true) : noowns (xs.take n) = true := by
  rw [noowns_all] at h ⊢
  exact List.all_eq_true.mpr fun x m => List.all_eq_true.mp h x (List.mem_of_mem_take m)
@[simp] theorem noowns_drop {xs : List D} (n : Nat) (h : noowns xs = true) : noowns (xs.drop n) = true := by
  rw [noowns_all] at h ⊢
  exact List.all_eq_true.mpr fun x m => List.all_eq_true.mp h x (List.mem_of_mem_drop m)
@[simp] theorem noowns_rep (n : Nat) (d : D) (h : noown d = true) : noowns (List.replicate n d) = true := by
  rw [noowns_all]
  exact List.all_eq_true.mpr fun x m => by rw [(List.mem_replicate.mp m).2]; exact h
@[simp] theorem noexcs_append (xs ys : List D) : noexcs (xs ++ ys) = (noexcs xs && noexcs ys) := by simp only [noexcs_all, List.all_append]
@[simp] theorem noexcs_take {xs : List D} (n : Nat) (h : noexcs xs = true) : noexcs (xs.take n) = true := by
  rw [noexcs_all] at h ⊢
  exact List.all_eq_true.mpr fun x m => List.all_eq_true.mp h x (List.mem_of_mem_take m)
@[simp] theorem noexcs_drop {xs : List D} (n : Nat) (h : noexcs xs = true) : noexcs (xs.drop n) = true := by
  rw [noexcs_all] at h ⊢
  exact List.all_eq_true.mpr fun x m => List.all_eq_true.mp h x (List.mem_of_mem_drop m)
@[simp] theorem noexcs_rep (n : Nat) (d : D) (h : noexc d = true) : noexcs (List.replicate n d) = true := by
  rw [noexcs_all]
  exact List.all_eq_true.mpr fun x m => by rw [(List.mem_replicate.mp m).2]; exact h
@[simp] theorem cmpOks_append (k : Nat) (xs ys : List D) : cmpOks k (xs ++ ys) = (cmpOks k xs && cmpOks k ys) := by simp only [cmpOks_all, List.all_append]
@[simp] theorem cmpOks_take (k : Nat) {xs : List D} (n : Nat) (h : cmpOks k xs = true) : cmpOks k (xs.take n) = true := by
  rw [cmpOks_all] at h ⊢
  exact List.all_eq_true.mpr fun x m => List.all_eq_true.mp h x (List.mem_of_mem_take m)
@[simp] theorem cmpOks_drop (k : Nat) {xs : List D} (n : Nat) (h : cmpOks k xs = true) : cmpOks k (xs.drop n) = true := by
  rw [cmpOks_all] at h ⊢
  exact List.all_eq_true.mpr fun x m => List.all_eq_true.mp h x (List.mem_of_mem_drop m)
@[simp] theorem cmpOks_rep (k : Nat) (n : Nat) (d : D) (h : cmpOk k d = true) : cmpOks k (List.replicate n d) = true := by
  rw [cmpOks_all]
  exact List.all_eq_true.mpr fun x m => by rw [(List.mem_replicate.mp m).2]; exact h
/-- lists of encoded things are alike where the things are -/
theorem eqDs_map {α : Type} {e e' : α → D} (h : ∀ x, eqD (e x) (e' x) = true) : ∀ xs : List α, eqDs (xs.map e) (xs.map e') = true
  | [] => by simp
  | x :: xs => by simp [h x, eqDs_map h xs]
theorem eqDs_map_iff {α : Type} {e e' : α → D} (h : ∀ x y, eqD (e x) (e' y) = true ↔ x = y) : ∀ xs ys : List α, eqDs (xs.map e) (ys.map e') = true ↔ xs = ys
  | [], [] => by simp
  | [], y :: ys => by simp
  | x :: xs, [] => by simp
  | x :: xs, y :: ys => by simp [h x y, eqDs_map_iff h xs ys]
theorem eqDs_ints (xs ys : List Int) : eqDs (xs.map .int) (ys.map .int) = decide (xs = ys) := by
  have h := eqDs_map_iff (e := D.int) (e' := D.int) (fun x y => by simp) xs ys
  by_cases e : xs = ys
  · rw [decide_eq_true e]; exact h.mpr e
  · rw [decide_eq_false e]
    exact Bool.eq_false_iff.mpr fun z => e (h.mp z)
theorem atI_map {α β : Type} (f : α → β) (xs : List α) (i : Int) : L2.atI (xs.map f) i = (L2.atI xs i).map f := by
  unfold L2.atI
  rw [List.length_map]
  cases L2.ixN xs.length i with
  | none => rfl
  | some j => simp
theorem atI_last {α : Type} {xs : List α} (h : xs ≠ []) : L2.atI xs (-1) = some (xs.getLast h) := by
  have hl : 0 < xs.length := List.length_pos_iff.mpr h
  unfold L2.atI L2.ixN
  have h1 : ¬ (0 : Int) ≤ -1 := by decide
  have h2 : -(xs.length : Int) ≤ -1 := by omega
  rw [if_neg h1, if_pos h2]
  show xs[(-1 + (xs.length : Int)).toNat]? = _
  rw [show (-1 + (xs.length : Int)).toNat = xs.length - 1 by omega, List.getLast_eq_getElem, List.getElem?_eq_getElem (by omega)]
theorem ixN_nat {n k : Nat} (h : k < n) : L2.ixN n (k : Int) = some k := by
  unfold L2.ixN
  have h1 : (0 : Int) ≤ (k : Int) := Int.natCast_nonneg k
  have h2 : (k : Int) < (n : Int) := by omega
  simp [h1, h2]
/-- at a place that is there -/
theorem atI_of {α : Type} {xs : List α} {i : Int} (h0 : 0 ≤ i) (h1 : i < xs.length) : L2.atI xs i = some (xs[i.toNat]'(by omega)) := by
  obtain ⟨k, rfl⟩ := Int.eq_ofNat_of_zero_le h0
  rw [atI_nat (by omega)]
  simp
theorem ixN_of {n : Nat} {i : Int} (h0 : 0 ≤ i) (h1 : i < n) : L2.ixN n i = some i.toNat := by
  obtain ⟨k, rfl⟩ := Int.eq_ofNat_of_zero_le h0
  rw [ixN_nat (by omega)]
  rfl
/-! ### slices -/
@[simp] theorem slcD_lst (f : Fl) (ds : List D) (lo hi : Option Int) : slcD (.lst f ds) lo hi = some (.lst .own (cutD ds lo hi)) := Eq.trans rfl rfl
@[simp] theorem slcD_tup1 (d : D) (ds : List D) : slcD (.tup (d :: ds)) (some 1) none = some (.tup ds) := by
  have e : slcD (.tup (d :: ds)) (some 1) none = chkO (¬ (HT.sIx (d :: ds).length 0 (some 1) = 0 ∧ HT.sIx (d :: ds).length (d :: ds).length none = (d :: ds).length)) (some (.tup (cutD (d :: ds) (some 1) none))) := Eq.trans rfl rfl
  have h1 : HT.sIx (d :: ds).length 0 (some ((1 : Nat) : Int)) = min 1 (d :: ds).length := HT.sIx_nat ..
  have h1 : HT.sIx (d :: ds).length 0 (some 1) = min 1 (d :: ds).length := h1
  rw [e, chkO_pos (by
    intro z
    have := z.1
    rw [h1] at this
    simp at this)]
  unfold cutD
  rw [h1, HT.sIx_none]
  simp
@[simp] theorem cutD_take (ds : List D) (k : Nat) : cutD ds none (some (k : Int)) = ds.take k := by
  unfold cutD
  rw [HT.sIx_none, HT.sIx_nat]
  simp
@[simp] theorem cutD_drop (ds : List D) (k : Nat) : cutD ds (some (k : Int)) none = ds.drop k := by
  unfold cutD
  rw [HT.sIx_none, HT.sIx_nat]
  rw [show ds.drop (min k ds.length) = ds.drop k by
    by_cases h : k ≤ ds.length
    · rw [Nat.min_eq_left h]
    · rw [Nat.min_eq_right (by omega), List.drop_length, List.drop_eq_nil_of_le (by omega)]]
  exact List.take_of_length_le (by rw [List.length_drop]; omega)
@[simp] theorem cutD_drop1 (ds : List D) (k : Nat) : cutD ds (some ((k : Int) + 1)) none = ds.drop (k + 1) := cutD_drop ds (k + 1)
@[simp] theorem cutD_1 (ds : List D) : cutD ds (some 1) none = ds.drop 1 := cutD_drop ds 1
@[simp] theorem cutD_12 (ds : List D) : cutD ds (some 1) (some 2) = (ds.drop 1).take 1 := by
  unfold cutD
  rw [show (some (1 : Int)) = some ((1 : Nat) : Int) from rfl, show (some (2 : Int)) = some ((2 : Nat) : Int) from rfl, HT.sIx_nat, HT.sIx_nat]
  match ds with
  | [] => rfl
  | [a] => rfl
  | a :: b :: r =>
    rw [Nat.min_eq_left (by simp), Nat.min_eq_left (by simp)]
@[simp] theorem cutD_0 (ds : List D) : cutD ds none (some 0) = [] := by simpa using cutD_take ds 0
@[simp] theorem cutD_all (ds : List D) : cutD ds none none = ds := by
  unfold cutD
  rw [HT.sIx_none, HT.sIx_none]
  simp
/-! ### comprehensions -/
theorem lcGo_map {α : Type} {f : D → Res (Option D)} {e : α → D} {g : α → D} : ∀ {xs : List α}, (∀ x ∈ xs, f (e x) = .ok (some (g x))) → lcGo f (xs.map e) = .ok (xs.map g)
  | [], _ => rfl
  | x :: xs, h => by
    rw [List.map_cons, lcGo, h x List.mem_cons_self]
    simp only [quiet_ok, Res.bind_ok]
    rw [lcGo_map fun y m => h y (List.mem_cons_of_mem _ m)]
    rfl
/-- as lcGo_map, over any list -/
theorem lcGo_all {f : D → Res (Option D)} {g : D → D} : ∀ {xs : List D}, (∀ x ∈ xs, f x = .ok (some (g x))) → lcGo f xs = .ok (xs.map g)
  | [], _ => rfl
  | x :: xs, h => by
    rw [lcGo, h x List.mem_cons_self]
    simp only [quiet_ok, Res.bind_ok]
    rw [lcGo_all fun y m => h y (List.mem_cons_of_mem _ m)]
    rfl
theorem lcGo_filter {α : Type} {f : D → Res (Option D)} {e : α → D} {p : α → Bool} {g : α → D} : ∀ {xs : List α}, (∀ x ∈ xs, f (e x) = .ok (if p x = true then some (g x) else none)) → lcGo f (xs.map e) = .ok ((xs.filter p).map g)
  | [], _ => rfl
  | x :: xs, h => by
    rw [List.map_cons, lcGo, h x List.mem_cons_self]
    simp only [quiet_ok, Res.bind_ok]
    rw [lcGo_filter fun y m => h y (List.mem_cons_of_mem _ m)]
    by_cases hp : p x = true <;> simp [hp]
/-! ### methods -/
@[simp] theorem f_max3 (i j k : Int) : fnD .max3 [.int i, .int j, .int k] = some (.int (max (max i j) k)) := Eq.trans rfl rfl
@[simp] theorem tyM_cn (f : Fl) (ds : List D) : tyM .count (.lst f ds) = true := Eq.trans rfl rfl
@[simp] theorem mthD_cn (f : Fl) (ds : List D) (d : D) : mthD .count (.lst f ds) [d] = chkO (cmpOks 59 ds = true ∧ cmpOk 60 d = true) (some (.int ((ds.countP fun z => eqD z d : Nat) : Int))) := Eq.trans rfl rfl
@[simp] theorem tyM_ix (f : Fl) (ds : List D) : tyM .index (.lst f ds) = true := Eq.trans rfl rfl
@[simp] theorem mthD_ix (f : Fl) (ds : List D) (d : D) : mthD .index (.lst f ds) [d] = chkO (cmpOks 59 ds = true ∧ cmpOk 60 d = true) ((ixD d ds).bind fun j => some (.int j)) := Eq.trans rfl rfl
/-! ### ranges -/
theorem two62 : (2 : Int) ^ 62 = 4611686018427387904 := by decide +kernel
@[simp 2000] theorem it_rng1N {n : Nat} (h : n < 1000000) : items .rng1 [.int (n : Int)] = some ((List.range n).map fun (k : Nat) => .int (k : Int)) := by
  rw [it_rng1, chkO_pos (by rw [two62]; omega)]
  rfl
theorem it_rng2N {a : Int} {n : Nat} (h : a.natAbs < 1000000) (hn : n < 1000000) : items .rng2 [.int a, .int (a + (n : Int))] = some ((List.range n).map fun (k : Nat) => .int (a + (k : Int))) := by
  rw [it_rng2, chkO_pos (by rw [two62]; omega)]
  rw [show (a + (n : Int) - a).toNat = n by omega]
/-! ### loops -/
/-- behind a turn -/
def Out.turn (clr : List Nat) : Out → Out
  | .nx e => .nx (wipeE e clr)
  | .ct e => .nx (wipeE e clr)
  | o => o
@[simp] theorem Out.turn_nx (clr : List Nat) (e : Env) : (Out.nx e).turn clr = .nx (wipeE e clr) := Eq.trans rfl rfl
@[simp] theorem Out.turn_ct (clr : List Nat) (e : Env) : (Out.ct e).turn clr = .nx (wipeE e clr) := Eq.trans rfl rfl
@[simp] theorem Out.turn_rt (clr : List Nat) (d : D) : (Out.rt d).turn clr = .rt d := Eq.trans rfl rfl
@[simp] theorem Out.turn_ex (clr : List Nat) (n : Str) (e : Env) : (Out.ex n e).turn clr = .ex n e := Eq.trans rfl rfl
@[simp] theorem Out.turn_bk (clr : List Nat) (e : Env) : (Out.bk e).turn clr = .bk e := Eq.trans rfl rfl
theorem forGo_step {f : D → Env → Out} {clr : List Nat} {x : D} {xs : List D} {e e' : Env} (h : (f x e).turn clr = .nx e') : forGo f clr (x :: xs) e = forGo f clr xs e' := by
  rw [forGo]
  cases hf : f x e with
  | nx e1 => rw [hf] at h; cases h; rfl
  | ct e1 => rw [hf] at h; cases h; rfl
  | _ => rw [hf] at h; cases h
theorem forGo_rt {f : D → Env → Out} {clr : List Nat} {x : D} {xs : List D} {e : Env} {d : D} (h : f x e = .rt d) : forGo f clr (x :: xs) e = .rt d := by
  rw [forGo, h]
theorem forGo_ex {f : D → Env → Out} {clr : List Nat} {x : D} {xs : List D} {e e' : Env} {n : Str} (h : f x e = .ex n e') : forGo f clr (x :: xs) e = .ex n e' := by
  rw [forGo, h]
theorem forGo_inv {f : D → Env → Out} {clr : List Nat} (I : Nat → Env → Prop) : ∀ {xs : List D} {env : Env} {k : Nat}, I k env → (∀ (i : Nat) (x : D) (e : Env), xs[i]? = some x → I (k + i) e → ∃ e', (f x e).turn clr = .nx e' ∧ I (k + i + 1) e') → ∃ e', forGo f clr xs env = .nx e' ∧ I (k + xs.length) e'
  | [], env, k, h0, _ => ⟨env, rfl, h0⟩
  | x :: xs, env, k, h0, hs => by
    obtain ⟨e1, h1, h2⟩ := hs 0 x env rfl h0
    obtain ⟨e', h3, h4⟩ := forGo_inv (f := f) (clr := clr) I (xs := xs) (k := k + 1) h2 fun i y e hy hi => by
      have := hs (i + 1) y e (by simpa using hy) (by rw [show k + (i + 1) = k + 1 + i by omega]; exact hi)
      rw [show k + (i + 1) + 1 = k + 1 + i + 1 by omega] at this
      exact this
    refine ⟨e', ?_, ?_⟩
    · rw [forGo_step h1]
      exact h3
    · rw [List.length_cons, show k + (xs.length + 1) = k + 1 + xs.length by omega]
      exact h4
/-- over range(n) -/
theorem forGo_rng {f : D → Env → Out} {clr : List Nat} {n : Nat} {env : Env} (I : Nat → Env → Prop) (h0 : I 0 env) (hs : ∀ (i : Nat) (e : Env), i < n → I i e → ∃ e', (f (.int (i : Int)) e).turn clr = .nx e' ∧ I (i + 1) e') :
    ∃ e', forGo f clr ((List.range n).map fun (k : Nat) => D.int (k : Int)) env = .nx e' ∧ I n e' := by
  obtain ⟨e', h1, h2⟩ := forGo_inv (f := f) (clr := clr) I (xs := (List.range n).map fun (k : Nat) => D.int (k : Int)) (k := 0) h0 fun i x e hx hi => by
    rw [List.getElem?_map] at hx
    by_cases hn : i < n
    · rw [List.getElem?_range hn] at hx
      cases hx
      rw [Nat.zero_add] at hi ⊢
      exact hs i e hn hi
    · rw [List.getElem?_eq_none (by simpa using hn)] at hx
      cases hx
  refine ⟨e', h1, ?_⟩
  rw [Nat.zero_add, List.length_map, List.length_range] at h2
  exact h2
/-- over encoded things -/
theorem forGo_map {α : Type} {f : D → Env → Out} {clr : List Nat} {e0 : α → D} {xs : List α} {env : Env} (I : Nat → Env → Prop) (h0 : I 0 env) (hs : ∀ (i : Nat) (x : α) (e : Env), xs[i]? = some x → I i e → ∃ e', (f (e0 x) e).turn clr = .nx e' ∧ I (i + 1) e') :
    ∃ e', forGo f clr (xs.map e0) env = .nx e' ∧ I xs.length e' := by
  obtain ⟨e', h1, h2⟩ := forGo_inv (f := f) (clr := clr) I (xs := xs.map e0) (k := 0) h0 fun i x e hx hi => by
    rw [List.getElem?_map] at hx
    cases hy : xs[i]? with
    | none => rw [hy] at hx; cases hx
    | some y =>
      rw [hy] at hx
      cases hx
      rw [Nat.zero_add] at hi ⊢
      exact hs i y e hy hi
  refine ⟨e', h1, ?_⟩
  rw [Nat.zero_add, List.length_map] at h2
  exact h2
/-- the turns change what the slots tell of -/
theorem forGo_foldE {α S : Type} {f : D → Env → Out} {clr : List Nat} {e0 : α → D} (E : S → Env) (step : S → α → S) : ∀ {xs : List α} {s : S}, (∀ x ∈ xs, ∀ s, (f (e0 x) (E s)).turn clr = .nx (E (step s x))) → forGo f clr (xs.map e0) (E s) = .nx (E (xs.foldl step s))
  | [], s, _ => rfl
  | x :: xs, s, h => by
    rw [List.map_cons, forGo_step (h x List.mem_cons_self s)]
    exact forGo_foldE E step fun y m => h y (List.mem_cons_of_mem _ m)
/-- .. while the state is as P says -/
theorem forGo_foldP {α S : Type} {f : D → Env → Out} {clr : List Nat} {e0 : α → D} (E : S → Env) (step : S → α → S) (P : S → Prop) : ∀ {xs : List α} {s : S}, P s → (∀ x ∈ xs, ∀ s, P s → (f (e0 x) (E s)).turn clr = .nx (E (step s x)) ∧ P (step s x)) → forGo f clr (xs.map e0) (E s) = .nx (E (xs.foldl step s))
  | [], s, _, _ => rfl
  | x :: xs, s, hp, h => by
    obtain ⟨h1, h2⟩ := h x List.mem_cons_self s hp
    rw [List.map_cons, forGo_step h1]
    exact forGo_foldP E step P h2 fun y m => h y (List.mem_cons_of_mem _ m)
/-- the slots are known at each turn -/
theorem forGo_mapE {α : Type} {f : D → Env → Out} {clr : List Nat} {e0 : α → D} {xs : List α} (E : Nat → Env) (hs : ∀ (i : Nat) (x : α), xs[i]? = some x → (f (e0 x) (E i)).turn clr = .nx (E (i + 1))) : forGo f clr (xs.map e0) (E 0) = .nx (E xs.length) := by
  obtain ⟨e', h1, h2⟩ := forGo_map (f := f) (clr := clr) (e0 := e0) (xs := xs) (env := E 0) (fun i e => e = E i) rfl fun i x e hx hi => ⟨_, by rw [hi]; exact hs i x hx, rfl⟩
  rw [h1, h2]
theorem forGo_rngE {f : D → Env → Out} {clr : List Nat} {n : Nat} (E : Nat → Env) (hs : ∀ (i : Nat), i < n → (f (.int (i : Int)) (E i)).turn clr = .nx (E (i + 1))) : forGo f clr ((List.range n).map fun (k : Nat) => D.int (k : Int)) (E 0) = .nx (E n) := by
  obtain ⟨e', h1, h2⟩ := forGo_rng (f := f) (clr := clr) (n := n) (env := E 0) (fun i e => e = E i) rfl fun i e hx hi => ⟨_, by rw [hi]; exact hs i hx, rfl⟩
  rw [h1, h2]
/-- over enumerate -/
theorem forGo_enm {α : Type} {f : D → Env → Out} {clr : List Nat} {e0 : α → D} : ∀ {xs : List α} (k : Nat) (E : Nat → Env), (∀ (i : Nat) (x : α), xs[i]? = some x → (f (.tup [.int ((k + i : Nat) : Int), e0 x]) (E (k + i))).turn clr = .nx (E (k + i + 1))) → forGo f clr (enmD k (xs.map e0)) (E k) = .nx (E (k + xs.length))
  | [], k, E, _ => rfl
  | x :: xs, k, E, h => by
    have h0 := h 0 x rfl
    rw [Nat.add_zero] at h0
    show forGo f clr (.tup [.int (k : Int), e0 x] :: enmD (k + 1) (xs.map e0)) (E k) = _
    rw [forGo_step h0, forGo_enm (k + 1) E fun i y hy => by
      have := h (i + 1) y (by simpa using hy)
      rw [show k + (i + 1) = k + 1 + i by omega] at this
      exact this]
    rw [List.length_cons, show k + (xs.length + 1) = k + 1 + xs.length by omega]
theorem forGo_enmE {α : Type} {f : D → Env → Out} {clr : List Nat} {e0 : α → D} {xs : List α} (E : Nat → Env) (h : ∀ (i : Nat) (x : α), xs[i]? = some x → (f (.tup [.int (i : Int), e0 x]) (E i)).turn clr = .nx (E (i + 1))) : forGo f clr (enmD 0 (xs.map e0)) (E 0) = .nx (E xs.length) := by
  have := forGo_enm (f := f) (clr := clr) (e0 := e0) (xs := xs) 0 E fun i x hx => by
    rw [Nat.zero_add]
    exact h i x hx
  rw [Nat.zero_add] at this
  exact this
theorem zipD_map {α : Type} (a b : α → D) : ∀ xs : List α, zipD (xs.map a) (xs.map b) = xs.map fun x => .tup [a x, b x]
  | [] => rfl
  | x :: xs => by
    rw [List.map_cons, List.map_cons, zipD, zipD_map a b xs]
    rfl
theorem atI_range {α : Type} {n k : Nat} (f : Nat → α) (h : k < n) : L2.atI ((List.range n).map f) (k : Int) = some (f k) := by
  rw [atI_nat (by simpa using h), List.getElem?_map, List.getElem?_range h]
  rfl
theorem set_range {α : Type} {n : Nat} (f : Nat → α) (k : Nat) (v : α) : ((List.range n).map f).set k v = (List.range n).map fun i => if i = k then v else f i := by
  apply List.ext_getElem?
  intro i
  rw [List.getElem?_set, List.getElem?_map, List.getElem?_map]
  by_cases h : i < n
  · rw [List.getElem?_range h]
    by_cases e : k = i
    · subst e
      simp [h]
    · simp [e, Ne.symm e]
  · rw [List.getElem?_eq_none (by simpa using h)]
    by_cases e : k = i
    · subst e
      simp [h]
    · simp [e]
theorem range_snoc {α : Type} (n : Nat) (f : Nat → α) : (List.range (n + 1)).map f = (List.range n).map f ++ [f n] := by
  rw [List.range_succ, List.map_append]
  rfl
/-- the first place of an int -/
theorem ixD_int : ∀ {xs : List Int} {x : Int}, x ∈ xs → ∃ j, ixD (.int x) (xs.map .int) = some j ∧ j < xs.length
  | [], x, m => absurd m List.not_mem_nil
  | y :: ys, x, m => by
    by_cases e : y = x
    · exact ⟨0, by simp [ixD, e], by simp⟩
    · obtain ⟨j, h1, h2⟩ := ixD_int (xs := ys) ((List.mem_cons.mp m).resolve_left (fun z => e z.symm))
      exact ⟨j + 1, by simp [ixD, e, h1], by simp; omega⟩
theorem range_get {n i x : Nat} (h : (List.range n)[i]? = some x) : x = i ∧ i < n := by
  by_cases hn : i < n
  · rw [List.getElem?_range hn] at h
    exact ⟨(Option.some.inj h).symm, hn⟩
  · rw [List.getElem?_eq_none (by simpa using hn)] at h
    cases h
/-- over range(1, n + 1) -/
@[simp 2000] theorem it_rng2_1 {n : Nat} (h : n < 1000000) : items .rng2 [.int 1, .int ((n : Int) + 1)] = some ((List.range n).map fun (k : Nat) => .int (1 + (k : Int))) := by
  rw [it_rng2, chkO_pos (by rw [two62]; omega)]
  rw [show ((n : Int) + 1 - 1).toNat = n by omega]
/-- over range(n), at each turn the slots are told by E; e0: the turn's number -/
theorem forGo_rgE {f : D → Env → Out} {clr : List Nat} {n : Nat} {e0 : Nat → D} (E : Nat → Env) (hs : ∀ (i : Nat), i < n → (f (e0 i) (E i)).turn clr = .nx (E (i + 1))) : forGo f clr ((List.range n).map e0) (E 0) = .nx (E n) := by
  have := forGo_mapE (f := f) (clr := clr) (e0 := e0) (xs := List.range n) E fun i x hx => by
    obtain ⟨rfl, hn⟩ := range_get hx
    exact hs x hn
  rw [List.length_range] at this
  exact this
theorem forGo_rgI {f : D → Env → Out} {clr : List Nat} {n : Nat} {env : Env} {e0 : Nat → D} (I : Nat → Env → Prop) (h0 : I 0 env) (hs : ∀ (i : Nat) (e : Env), i < n → I i e → ∃ e', (f (e0 i) e).turn clr = .nx e' ∧ I (i + 1) e') : ∃ e', forGo f clr ((List.range n).map e0) env = .nx e' ∧ I n e' := by
  have := forGo_map (f := f) (clr := clr) (e0 := e0) (xs := List.range n) (env := env) I h0 fun i x e hx hi => by
    obtain ⟨rfl, hn⟩ := range_get hx
    exact hs x e hn hi
  rw [List.length_range] at this
  exact this
theorem atI_lastR {α : Type} (n : Nat) (f : Nat → α) : L2.atI ((List.range (n + 1)).map f) (-1) = some (f n) := by
  have ne : (List.range (n + 1)).map f ≠ [] := by simp
  rw [atI_last ne]
  congr 1
  rw [List.getLast_eq_getElem]
  simp
/-! ### a walk, one statement behind the other -/
theorem execs_nx {G : Tab} {s : Stm} {r : Stms} {env env' : Env} (h : L3.exec G s env = .nx env') : execs G (.cons s r) env = execs G r env' := by rw [execs, h]; rfl
theorem execs_rt {G : Tab} {s : Stm} {r : Stms} {env : Env} {d : D} (h : L3.exec G s env = .rt d) : execs G (.cons s r) env = .rt d := by rw [execs, h]; rfl
theorem execs_ex {G : Tab} {s : Stm} {r : Stms} {env env' : Env} {n : Str} (h : L3.exec G s env = .ex n env') : execs G (.cons s r) env = .ex n env' := by rw [execs, h]; rfl
theorem run_rt {s : Src} {G : Tab} {ds : List D} {d : D} {env : Env} (he : (ds.map some) ++ List.replicate (s.N.length - ds.length) none = env) (h : execs G s.body env = .rt d) : s.run G ds = .ok d := by
  rw [Src.run, FnDef.run, he, h]
theorem run_nx {s : Src} {G : Tab} {ds : List D} {env env' : Env} (he : (ds.map some) ++ List.replicate (s.N.length - ds.length) none = env) (h : execs G s.body env = .nx env') : s.run G ds = .ok .non := by
  rw [Src.run, FnDef.run, he, h]
theorem run_ex {s : Src} {G : Tab} {ds : List D} {n : Str} {env env' : Env} (he : (ds.map some) ++ List.replicate (s.N.length - ds.length) none = env) (h : execs G s.body env = .ex n env') : s.run G ds = .ex n := by
  rw [Src.run, FnDef.run, he, h]
/-! ### a loop over range that may return -/
def runF {S W : Type} (step : Nat → S → Except W S) : Nat → Nat → S → Except W S
  | _, 0, s => .ok s
  | i, k + 1, s => match step i s with
    | .ok s' => runF step (i + 1) k s'
    | .error w => .error w
theorem forGo_tryF {S W : Type} {f : D → Env → Out} {clr : List Nat} {E : S → Env} {enc : W → D} {step : Nat → S → Except W S} {I : Nat → S → Prop} {n : Nat}
    (hs : ∀ i s, i < n → I i s → match step i s with | .ok s' => (f (.int (i : Int)) (E s)).turn clr = .nx (E s') ∧ I (i + 1) s' | .error w => f (.int (i : Int)) (E s) = .rt (enc w)) :
    ∀ (k i : Nat) (s : S), i + k ≤ n → I i s → match runF step i k s with
      | .ok s' => forGo f clr ((List.range' i k).map fun (k : Nat) => D.int (k : Int)) (E s) = .nx (E s') ∧ I (i + k) s'
      | .error w => forGo f clr ((List.range' i k).map fun (k : Nat) => D.int (k : Int)) (E s) = .rt (enc w)
  | 0, i, s, _, h => ⟨rfl, h⟩
  | k + 1, i, s, hk, h => by
    have q := hs i s (by omega) h
    rw [runF, List.range'_succ, List.map_cons]
    cases e : step i s with
    | error w =>
      rw [e] at q
      exact forGo_rt q
    | ok s' =>
      rw [e] at q
      dsimp only at q ⊢
      have ih := forGo_tryF hs k (i + 1) s' (by omega) q.2
      rw [forGo_step q.1, show i + (k + 1) = i + 1 + k by omega]
      exact ih
theorem forGo_try {S W : Type} {f : D → Env → Out} {clr : List Nat} (E : S → Env) (enc : W → D) (step : Nat → S → Except W S) (I : Nat → S → Prop) {n : Nat} {s : S} (h0 : I 0 s)
    (hs : ∀ i s, i < n → I i s → match step i s with | .ok s' => (f (.int (i : Int)) (E s)).turn clr = .nx (E s') ∧ I (i + 1) s' | .error w => f (.int (i : Int)) (E s) = .rt (enc w)) :
    match runF step 0 n s with
      | .ok s' => forGo f clr ((List.range n).map fun (k : Nat) => D.int (k : Int)) (E s) = .nx (E s') ∧ I n s'
      | .error w => forGo f clr ((List.range n).map fun (k : Nat) => D.int (k : Int)) (E s) = .rt (enc w) := by
  have := forGo_tryF hs n 0 s (by omega) h0
  rw [Nat.zero_add] at this
  rw [List.range_eq_range']
  exact this
theorem fiGo_any {α : Type} {c : D → Res Bool} {e : D → Res D} {env : Env} {fin : Out} {e0 : α → D} {p : α → Bool} {y : D} (hn : ∀ x, nopk (peek (e0 x)) = true) (hc : ∀ x, c (peek (e0 x)) = .ok (p x)) (he : ∀ x, p x = true → e (peek (e0 x)) = .ok y) (hy : nopk y = true) :
    ∀ xs : List α, fiGo c e env fin (xs.map e0) = if xs.any p = true then .rt y else fin
  | [] => rfl
  | x :: xs => by
    rw [List.map_cons, fiGo, hn x, hc x, List.any_cons]
    simp only [chkR_true, Res.out_ok]
    cases hp : p x with
    | true => rw [he x hp]; simp [hy]
    | false => simp [fiGo_any hn hc he hy xs]
end L3

set_option maxRecDepth 100000
set_option maxHeartbeats 4000000
set_option exponentiation.threshold 100000
namespace Z
open PySem PySem.Spec PyProof.Rows L2 L3
/-! ### the texts -/
def top (i : Nat) : Stmt := PySem.Challenge.pw_chairclans_k04_unread.main.body.getD i (.Pass ⟨0, 0, 0, 0⟩)
def exsL : List Str := ["ClanError", "NoRatio", "NoText", "NoSpell", "NoRow", "NoBounds", "NoDistance", "NoClan", "TooLong", "NoRule", "NoLine", "NoNumber", "NoName",
  "Known", "TooMany"]
def errsL : List Str := ["NoRatio", "NoText"]
def catsL : List Str := ["ClanError"]
def s_p_shown : Src := ⟨["one", "text"], 1,
 (.cons (.asg 1 false (.p (.blt .str (.cons (.bin .ix (.var 0) (.int 0)) .nil)))) (.cons (.ifs (.bin .gt (.bin .ix (.var 0) (.int 1)) (.int 1))
 (.cons (.aug 1 .add (.bin .add (.str "/") (.blt .str (.cons (.bin .ix (.var 0) (.int 1)) .nil)))) .nil)
 .nil) (.cons (.ret (.p (.var 1))) .nil)))⟩
def cs_p_shown : List (Str × Int) := []
def ct_p_shown : List (Str × List D) := []
def T_p_shown : L3.Tab := ⟨[], cs_p_shown.map (fun p => (p.1, D.int p.2)) ++ ct_p_shown.map (fun p => (p.1, D.tup p.2)), errsL, catsL, fun _ _ _ => none, fun _ _ _ _ =>
  none, none, fun _ _ => none⟩
def g_p_shown : List D → Res D := s_p_shown.run T_p_shown
def c_p_shown : L3.Callee := ⟨"shown", 1, g_p_shown⟩
@[simp] theorem ta_p_shown : c_p_shown.ar = 1 := rfl
@[simp] theorem tg_p_shown : c_p_shown.g = g_p_shown := rfl
@[simp] theorem te_p_shown : T_p_shown.errs = errsL := rfl
@[simp] theorem tc_p_shown : T_p_shown.cats = catsL := rfl
def b_p_greatest_of_1 : Stms :=
 (.cons (.par 1 3 (.var 3) (.bin .mod (.var 1) (.var 3))) .nil)
def w_p_greatest_of_1 : Stm := .whl (fuI 3) (.bin .gt (.var 3) (.int 0)) [] b_p_greatest_of_1
def b_p_greatest_of_2 : Stms :=
 (.cons (.asg 3 false (.p (.blt .abs (.cons (.var 2) .nil)))) (.cons (w_p_greatest_of_1) .nil))
def w_p_greatest_of_2 : Stm := .for_ .sql (.cons (.var 0) .nil) (.one 2) [2, 3] b_p_greatest_of_2
def s_p_greatest_of : Src := ⟨["numbers", "found", "number", "rest"], 1,
 (.cons (.asg 1 false (.p (.int 0))) (.cons (w_p_greatest_of_2) (.cons (.ret (.p (.var 1))) .nil)))⟩
def cs_p_greatest_of : List (Str × Int) := []
def ct_p_greatest_of : List (Str × List D) := []
def T_p_greatest_of : L3.Tab := ⟨[], cs_p_greatest_of.map (fun p => (p.1, D.int p.2)) ++ ct_p_greatest_of.map (fun p => (p.1, D.tup p.2)), errsL, catsL, fun _ _ _ =>
  none, fun _ _ _ _ => none, none, fun _ _ => none⟩
def g_p_greatest_of : List D → Res D := s_p_greatest_of.run T_p_greatest_of
def c_p_greatest_of : L3.Callee := ⟨"greatest_of", 1, g_p_greatest_of⟩
@[simp] theorem ta_p_greatest_of : c_p_greatest_of.ar = 1 := rfl
@[simp] theorem tg_p_greatest_of : c_p_greatest_of.g = g_p_greatest_of := rfl
@[simp] theorem te_p_greatest_of : T_p_greatest_of.errs = errsL := rfl
@[simp] theorem tc_p_greatest_of : T_p_greatest_of.cats = catsL := rfl
def s_p_ratio : Src := ⟨["top", "bottom", "part"], 2,
 (.cons (.ifs (.bin .eq (.var 1) (.int 0))
 (.cons (.rais "NoRatio") .nil)
 .nil) (.cons (.ifs (.bin .lt (.var 1) (.int 0))
 (.cons (.par 0 1 (.un .neg (.var 0)) (.un .neg (.var 1))) .nil)
 .nil) (.cons (.asg 2 true (.p (.call 0 (.cons (.lst (.cons (.var 0) (.cons (.var 1) .nil))) .nil)))) (.cons (.ret (.p (.tup (.cons (.bin .fdiv (.var 0) (.var 2)) (.cons
  (.bin .fdiv (.var 1) (.var 2)) .nil))))) .nil))))⟩
def cs_p_ratio : List (Str × Int) := []
def ct_p_ratio : List (Str × List D) := []
def T_p_ratio : L3.Tab := ⟨[c_p_greatest_of], cs_p_ratio.map (fun p => (p.1, D.int p.2)) ++ ct_p_ratio.map (fun p => (p.1, D.tup p.2)), errsL, catsL, fun _ _ _ => none,
  fun _ _ _ _ => none, none, fun _ _ => none⟩
def g_p_ratio : List D → Res D := s_p_ratio.run T_p_ratio
def c_p_ratio : L3.Callee := ⟨"ratio", 2, g_p_ratio⟩
@[simp] theorem ta_p_ratio : c_p_ratio.ar = 2 := rfl
@[simp] theorem tg_p_ratio : c_p_ratio.g = g_p_ratio := rfl
@[simp] theorem te_p_ratio : T_p_ratio.errs = errsL := rfl
@[simp] theorem tc_p_ratio : T_p_ratio.cats = catsL := rfl
@[simp] theorem tf_p_ratio_0 : T_p_ratio.fns[0]? = some c_p_greatest_of := rfl
def b_p_figures_of_1 : Stms :=
 (.cons (.ifs (.bin .notin (.var 2) (.str "0123456789"))
 (.cons (.ret (.p (.un .neg (.int 1)))) .nil)
 .nil) .nil)
def w_p_figures_of_1 : Stm := .for_ .sqs (.cons (.var 0) .nil) (.one 2) [2] b_p_figures_of_1
def s_p_figures_of : Src := ⟨["text", "most", "sign"], 2,
 (.cons (.ifs (.or (.bin .eq (.var 0) (.str "")) (.or (.bin .gt (.blt .len (.cons (.var 0) .nil)) (.var 1)) (.and (.bin .gt (.blt .len (.cons (.var 0) .nil)) (.int 1))
  (.bin .eq (.bin .ix (.var 0) (.int 0)) (.str "0")))))
 (.cons (.ret (.p (.un .neg (.int 1)))) .nil)
 .nil) (.cons (w_p_figures_of_1) (.cons (.ret (.p (.blt .int (.cons (.var 0) .nil)))) .nil)))⟩
def cs_p_figures_of : List (Str × Int) := []
def ct_p_figures_of : List (Str × List D) := []
def T_p_figures_of : L3.Tab := ⟨[], cs_p_figures_of.map (fun p => (p.1, D.int p.2)) ++ ct_p_figures_of.map (fun p => (p.1, D.tup p.2)), errsL, catsL, fun _ _ _ => none,
  fun _ _ _ _ => none, none, fun _ _ => none⟩
def g_p_figures_of : List D → Res D := s_p_figures_of.run T_p_figures_of
def c_p_figures_of : L3.Callee := ⟨"figures_of", 2, g_p_figures_of⟩
@[simp] theorem ta_p_figures_of : c_p_figures_of.ar = 2 := rfl
@[simp] theorem tg_p_figures_of : c_p_figures_of.g = g_p_figures_of := rfl
@[simp] theorem te_p_figures_of : T_p_figures_of.errs = errsL := rfl
@[simp] theorem tc_p_figures_of : T_p_figures_of.cats = catsL := rfl
def s_p_read : Src := ⟨["text", "sign", "pieces", "numbers", "found", "piece"], 1,
 (.cons (.asg 1 false (.p (.int 1))) (.cons (.asg 2 false (.p (.mth .split (.var 0) (.cons (.str "/") .nil)))) (.cons (.ifs (.bin .eq (.slc (.var 0) .hole (.int 1))
  (.str "-"))
 (.cons (.asg 1 false (.p (.un .neg (.int 1)))) (.cons (.setix 2 (.int 0) (.p (.slc (.bin .ix (.var 2) (.int 0)) (.int 1) .hole))) .nil))
 .nil) (.cons (.asg 3 true (.p (.bin .add (.lc .sql (.cons (.var 2) .nil) (.one 5) .hole (.call 2 (.cons (.var 5) (.cons (.glo 0) .nil)))) (.lst (.cons (.int 1)
  .nil))))) (.cons (.ifs (.or (.bin .gt (.blt .len (.cons (.var 2) .nil)) (.int 2)) (.or (.bin .lt (.blt .min1 (.cons (.var 3) .nil)) (.int 0)) (.bin .eq (.bin .ix (.var
  3) (.int 1)) (.int 0))))
 (.cons (.rais "NoText") .nil)
 .nil) (.cons (.asg 4 true (.p (.call 1 (.cons (.bin .mul (.var 1) (.bin .ix (.var 3) (.int 0))) (.cons (.bin .ix (.var 3) (.int 1)) .nil))))) (.cons (.ifs (.bin .ne
  (.call 0 (.cons (.var 4) .nil)) (.var 0))
 (.cons (.rais "NoText") .nil)
 .nil) (.cons (.ret (.p (.var 4))) .nil))))))))⟩
def cs_p_read : List (Str × Int) := [("MOST", 60)]
def ct_p_read : List (Str × List D) := []
def T_p_read : L3.Tab := ⟨[c_p_shown, c_p_ratio, c_p_figures_of], cs_p_read.map (fun p => (p.1, D.int p.2)) ++ ct_p_read.map (fun p => (p.1, D.tup p.2)), errsL, catsL,
  fun _ _ _ => none, fun _ _ _ _ => none, none, fun _ _ => none⟩
def g_p_read : List D → Res D := s_p_read.run T_p_read
def c_p_read : L3.Callee := ⟨"read", 1, g_p_read⟩
@[simp] theorem ta_p_read : c_p_read.ar = 1 := rfl
@[simp] theorem tg_p_read : c_p_read.g = g_p_read := rfl
@[simp] theorem te_p_read : T_p_read.errs = errsL := rfl
@[simp] theorem tc_p_read : T_p_read.cats = catsL := rfl
@[simp] theorem tk_p_read_0 : T_p_read.cst[0]? = some (("MOST" : Str), D.int 60) := rfl
@[simp] theorem tf_p_read_0 : T_p_read.fns[0]? = some c_p_shown := rfl
@[simp] theorem tf_p_read_1 : T_p_read.fns[1]? = some c_p_ratio := rfl
@[simp] theorem tf_p_read_2 : T_p_read.fns[2]? = some c_p_figures_of := rfl
def s_l_refused : Src := ⟨["_law_text", "_law_kinds", "e"], 1,
 (.cons (.asg 1 false (.p (.lst .nil))) (.cons (.tryx
 (.cons (.expr (.call 0 (.cons (.var 0) .nil))) .nil)
"ClanError" 2
 (.cons (.asg 1 false (.p (.lst (.cons (.isi (.var 2) true ["NoText"]) (.cons (.isi (.var 2) true ["ValueError"]) .nil))))) (.cons (.app 1 (.p (.isi (.var 2) false
  ["Known", "NoBounds", "NoClan", "NoDistance", "NoLine", "NoName", "NoNumber"]))) (.cons (.app 1 (.p (.isi (.var 2) false ["NoRatio", "NoRow", "NoRule", "NoSpell",
  "TooLong", "TooMany"]))) .nil)))) (.cons (.ret (.p (.bin .eq (.var 1) (.lst (.cons (.bl true) (.cons (.bl true) (.cons (.bl false) (.cons (.bl false) .nil))))))))
  .nil)))⟩
def cs_l_refused : List (Str × Int) := []
def ct_l_refused : List (Str × List D) := []
def T_l_refused : L3.Tab := ⟨[c_p_read], cs_l_refused.map (fun p => (p.1, D.int p.2)) ++ ct_l_refused.map (fun p => (p.1, D.tup p.2)), errsL, catsL, fun _ _ _ => none,
  fun _ _ _ _ => none, none, fun _ _ => none⟩
def g_l_refused : List D → Res D := s_l_refused.run T_l_refused
def c_l_refused : L3.Callee := ⟨"_law_refused", 1, g_l_refused⟩
@[simp] theorem ta_l_refused : c_l_refused.ar = 1 := rfl
@[simp] theorem tg_l_refused : c_l_refused.g = g_l_refused := rfl
@[simp] theorem te_l_refused : T_l_refused.errs = errsL := rfl
@[simp] theorem tc_l_refused : T_l_refused.cats = catsL := rfl
@[simp] theorem tf_l_refused_0 : T_l_refused.fns[0]? = some c_p_read := rfl
def b_l_divisor_1 : Stms :=
 (.cons (.asg 2 false (.p (.bin .mod (.var 0) (.var 1)))) (.cons (.asg 0 true (.p (.var 1))) (.cons (.asg 1 true (.p (.var 2))) .nil)))
def w_l_divisor_1 : Stm := .whl (fuI 1) (.bin .gt (.var 1) (.int 0)) [2] b_l_divisor_1
def s_l_divisor : Src := ⟨["_law_one", "_law_other", "_law_rest"], 2,
 (.cons (w_l_divisor_1) (.cons (.ret (.p (.var 0))) .nil))⟩
def cs_l_divisor : List (Str × Int) := []
def ct_l_divisor : List (Str × List D) := []
def T_l_divisor : L3.Tab := ⟨[], cs_l_divisor.map (fun p => (p.1, D.int p.2)) ++ ct_l_divisor.map (fun p => (p.1, D.tup p.2)), errsL, catsL, fun _ _ _ => none, fun _ _ _
  _ => none, none, fun _ _ => none⟩
def g_l_divisor : List D → Res D := s_l_divisor.run T_l_divisor
def c_l_divisor : L3.Callee := ⟨"_law_divisor", 2, g_l_divisor⟩
@[simp] theorem ta_l_divisor : c_l_divisor.ar = 2 := rfl
@[simp] theorem tg_l_divisor : c_l_divisor.g = g_l_divisor := rfl
@[simp] theorem te_l_divisor : T_l_divisor.errs = errsL := rfl
@[simp] theorem tc_l_divisor : T_l_divisor.cats = catsL := rfl
def b_l_whole_1 : Stms :=
 (.cons (.ifs (.bin .notin (.var 1) (.str "0123456789"))
 (.cons (.ret (.p (.un .neg (.int 1)))) .nil)
 .nil) .nil)
def w_l_whole_1 : Stm := .for_ .sqs (.cons (.var 0) .nil) (.one 1) [1] b_l_whole_1
def s_l_whole : Src := ⟨["_law_text", "_law_sign"], 1,
 (.cons (.ifs (.or (.bin .eq (.blt .len (.cons (.var 0) .nil)) (.int 0)) (.or (.bin .gt (.blt .len (.cons (.var 0) .nil)) (.int 60)) (.and (.bin .eq (.bin .ix (.var 0)
  (.int 0)) (.str "0")) (.bin .gt (.blt .len (.cons (.var 0) .nil)) (.int 1)))))
 (.cons (.ret (.p (.un .neg (.int 1)))) .nil)
 .nil) (.cons (w_l_whole_1) (.cons (.ret (.p (.blt .int (.cons (.var 0) .nil)))) .nil)))⟩
def cs_l_whole : List (Str × Int) := []
def ct_l_whole : List (Str × List D) := []
def T_l_whole : L3.Tab := ⟨[], cs_l_whole.map (fun p => (p.1, D.int p.2)) ++ ct_l_whole.map (fun p => (p.1, D.tup p.2)), errsL, catsL, fun _ _ _ => none, fun _ _ _ _ =>
  none, none, fun _ _ => none⟩
def g_l_whole : List D → Res D := s_l_whole.run T_l_whole
def c_l_whole : L3.Callee := ⟨"_law_whole", 1, g_l_whole⟩
@[simp] theorem ta_l_whole : c_l_whole.ar = 1 := rfl
@[simp] theorem tg_l_whole : c_l_whole.g = g_l_whole := rfl
@[simp] theorem te_l_whole : T_l_whole.errs = errsL := rfl
@[simp] theorem tc_l_whole : T_l_whole.cats = catsL := rfl
def s_l_due : Src := ⟨["_law_text", "_law_sign", "_law_at", "_law_top", "_law_bottom"], 1,
 (.cons (.asg 1 false (.p (.int 1))) (.cons (.ifs (.bin .eq (.slc (.var 0) .hole (.int 1)) (.str "-"))
 (.cons (.asg 1 false (.p (.un .neg (.int 1)))) (.cons (.asg 0 true (.p (.slc (.var 0) (.int 1) .hole))) .nil))
 .nil) (.cons (.asg 2 true (.p (.mth .find (.var 0) (.cons (.str "/") .nil)))) (.cons (.asg 3 true (.p (.call 1 (.cons (.var 0) .nil)))) (.cons (.asg 4 false (.p (.int
  1))) (.cons (.ifs (.bin .ge (.var 2) (.int 0))
 (.cons (.asg 3 true (.p (.call 1 (.cons (.slc (.var 0) .hole (.var 2)) .nil)))) (.cons (.asg 4 true (.p (.call 1 (.cons (.slc (.var 0) (.bin .add (.var 2) (.int 1))
  .hole) .nil)))) .nil))
 .nil) (.cons (.ifs (.or (.bin .lt (.var 3) (.int 0)) (.or (.bin .lt (.var 4) (.int 1)) (.or (.and (.bin .ge (.var 2) (.int 0)) (.bin .eq (.var 4) (.int 1))) (.and (.bin
  .lt (.var 1) (.int 0)) (.bin .eq (.var 3) (.int 0))))))
 (.cons (.ret (.p .non)) .nil)
 .nil) (.cons (.ifs (.bin .ne (.call 0 (.cons (.var 3) (.cons (.var 4) .nil))) (.int 1))
 (.cons (.ret (.p .non)) .nil)
 .nil) (.cons (.ret (.p (.tup (.cons (.bin .mul (.var 1) (.var 3)) (.cons (.var 4) .nil))))) .nil)))))))))⟩
def cs_l_due : List (Str × Int) := []
def ct_l_due : List (Str × List D) := []
def T_l_due : L3.Tab := ⟨[c_l_divisor, c_l_whole], cs_l_due.map (fun p => (p.1, D.int p.2)) ++ ct_l_due.map (fun p => (p.1, D.tup p.2)), errsL, catsL, fun _ _ _ => none,
  fun _ _ _ _ => none, none, fun _ _ => none⟩
def g_l_due : List D → Res D := s_l_due.run T_l_due
def c_l_due : L3.Callee := ⟨"_law_due", 1, g_l_due⟩
@[simp] theorem ta_l_due : c_l_due.ar = 1 := rfl
@[simp] theorem tg_l_due : c_l_due.g = g_l_due := rfl
@[simp] theorem te_l_due : T_l_due.errs = errsL := rfl
@[simp] theorem tc_l_due : T_l_due.cats = catsL := rfl
@[simp] theorem tf_l_due_0 : T_l_due.fns[0]? = some c_l_divisor := rfl
@[simp] theorem tf_l_due_1 : T_l_due.fns[1]? = some c_l_whole := rfl
def s_l_near : Src := ⟨["_law_top", "_law_bottom", "_law_cell", "_law_part", "_law_text"], 3,
 (.cons (.asg 3 false (.p (.bin .add (.int 1) (.bin .mod (.bin .fdiv (.var 2) (.int 8)) (.int 4))))) (.cons (.asg 4 false (.p (.bin .add (.bin .add (.blt .str (.cons
  (.bin .mul (.var 0) (.var 3)) .nil)) (.str "/")) (.blt .str (.cons (.bin .mul (.var 1) (.var 3)) .nil))))) (.cons (.ifs (.bin .eq (.bin .mod (.var 2) (.int 8)) (.int
  0))
 (.cons (.ret (.p (.bin .add (.str "-") (.var 4)))) .nil)
 .nil) (.cons (.ifs (.bin .eq (.bin .mod (.var 2) (.int 8)) (.int 1))
 (.cons (.ret (.p (.bin .add (.str "0") (.var 4)))) .nil)
 .nil) (.cons (.ifs (.bin .eq (.bin .mod (.var 2) (.int 8)) (.int 2))
 (.cons (.ret (.p (.bin .add (.bin .add (.blt .str (.cons (.var 0) .nil)) (.str "/0")) (.blt .str (.cons (.var 1) .nil))))) .nil)
 .nil) (.cons (.ifs (.bin .eq (.bin .mod (.var 2) (.int 8)) (.int 3))
 (.cons (.ret (.p (.bin .add (.blt .str (.cons (.var 0) .nil)) (.bin .ix (.lst (.cons (.str "/1") (.cons (.str "/0") (.cons (.str "") (.cons (.str "/") .nil))))) (.bin
  .mod (.bin .fdiv (.var 2) (.int 8)) (.int 4)))))) .nil)
 .nil) (.cons (.ifs (.bin .eq (.bin .mod (.var 2) (.int 8)) (.int 4))
 (.cons (.ret (.p (.bin .ix (.lst (.cons (.str "-0") (.cons (.bin .add (.str "0/") (.blt .str (.cons (.var 1) .nil))) (.cons (.bin .add (.str "-0/") (.blt .str (.cons
  (.var 1) .nil))) (.cons (.str "0") .nil))))) (.bin .mod (.bin .fdiv (.var 2) (.int 8)) (.int 4))))) .nil)
 .nil) (.cons (.ifs (.bin .eq (.bin .mod (.var 2) (.int 8)) (.int 5))
 (.cons (.ret (.p (.bin .add (.bin .add (.blt .str (.cons (.var 0) .nil)) (.str "/-")) (.blt .str (.cons (.var 1) .nil))))) .nil)
 .nil) (.cons (.ifs (.bin .eq (.bin .mod (.var 2) (.int 8)) (.int 6))
 (.cons (.ret (.p (.bin .ix (.lst (.cons (.blt .str (.cons (.bin .add (.var 0) (.bin .pow (.int 10) (.int 60))) .nil)) (.cons (.bin .add (.bin .add (.blt .str (.cons
  (.var 0) .nil)) (.str "/")) (.blt .str (.cons (.bin .add (.var 1) (.bin .pow (.int 10) (.int 60))) .nil))) .nil))) (.bin .mod (.bin .fdiv (.var 2) (.int 8)) (.int
  2))))) .nil)
 .nil) (.cons (.ret (.p (.var 4))) .nil))))))))))⟩
def cs_l_near : List (Str × Int) := []
def ct_l_near : List (Str × List D) := []
def T_l_near : L3.Tab := ⟨[], cs_l_near.map (fun p => (p.1, D.int p.2)) ++ ct_l_near.map (fun p => (p.1, D.tup p.2)), errsL, catsL, fun _ _ _ => none, fun _ _ _ _ =>
  none, none, fun _ _ => none⟩
def g_l_near : List D → Res D := s_l_near.run T_l_near
def c_l_near : L3.Callee := ⟨"_law_near", 3, g_l_near⟩
@[simp] theorem ta_l_near : c_l_near.ar = 3 := rfl
@[simp] theorem tg_l_near : c_l_near.g = g_l_near := rfl
@[simp] theorem te_l_near : T_l_near.errs = errsL := rfl
@[simp] theorem tc_l_near : T_l_near.cats = catsL := rfl
def s_l_cell_at : Src := ⟨["_law_script", "_law_k"], 2,
 (.cons (.ifs (.bin .lt (.var 1) (.blt .len (.cons (.var 0) .nil)))
 (.cons (.ret (.p (.bin .ix (.var 0) (.var 1)))) .nil)
 .nil) (.cons (.ret (.p (.int 0))) .nil))⟩
def cs_l_cell_at : List (Str × Int) := []
def ct_l_cell_at : List (Str × List D) := []
def T_l_cell_at : L3.Tab := ⟨[], cs_l_cell_at.map (fun p => (p.1, D.int p.2)) ++ ct_l_cell_at.map (fun p => (p.1, D.tup p.2)), errsL, catsL, fun _ _ _ => none, fun _ _ _
  _ => none, none, fun _ _ => none⟩
def g_l_cell_at : List D → Res D := s_l_cell_at.run T_l_cell_at
def c_l_cell_at : L3.Callee := ⟨"_law_cell_at", 2, g_l_cell_at⟩
@[simp] theorem ta_l_cell_at : c_l_cell_at.ar = 2 := rfl
@[simp] theorem tg_l_cell_at : c_l_cell_at.g = g_l_cell_at := rfl
@[simp] theorem te_l_cell_at : T_l_cell_at.errs = errsL := rfl
@[simp] theorem tc_l_cell_at : T_l_cell_at.cats = catsL := rfl
def b_l_signs_1 : Stms :=
 (.cons (.asg 2 true (.p (.bin .add (.var 2) (.bin .ix (.var 1) (.bin .mod (.var 0) (.int 19)))))) (.cons (.asg 0 false (.p (.bin .fdiv (.var 0) (.int 19)))) .nil))
def w_l_signs_1 : Stm := .for_ .rng1 (.cons (.var 3) .nil) (.one 4) [4] b_l_signs_1
def s_l_signs : Src := ⟨["_law_cell", "_law_some", "_law_text", "_law_count", "_law_k"], 1,
 (.cons (.asg 1 false (.p (.str "0123456789/-/+ .a\t\n"))) (.cons (.asg 2 false (.p (.str ""))) (.cons (.asg 3 false (.p (.bin .mod (.var 0) (.int 15)))) (.cons (.asg 0
  false (.p (.bin .fdiv (.var 0) (.int 15)))) (.cons (w_l_signs_1) (.cons (.ret (.p (.var 2))) .nil))))))⟩
def cs_l_signs : List (Str × Int) := []
def ct_l_signs : List (Str × List D) := []
def T_l_signs : L3.Tab := ⟨[], cs_l_signs.map (fun p => (p.1, D.int p.2)) ++ ct_l_signs.map (fun p => (p.1, D.tup p.2)), errsL, catsL, fun _ _ _ => none, fun _ _ _ _ =>
  none, none, fun _ _ => none⟩
def g_l_signs : List D → Res D := s_l_signs.run T_l_signs
def c_l_signs : L3.Callee := ⟨"_law_signs", 1, g_l_signs⟩
@[simp] theorem ta_l_signs : c_l_signs.ar = 1 := rfl
@[simp] theorem tg_l_signs : c_l_signs.g = g_l_signs := rfl
@[simp] theorem te_l_signs : T_l_signs.errs = errsL := rfl
@[simp] theorem tc_l_signs : T_l_signs.cats = catsL := rfl
def b_law_1 : Stms :=
 (.cons (.asg 2 true (.p (.call 4 (.cons (.var 0) (.cons (.var 1) .nil))))) (.cons (.asg 3 true (.p (.call 5 (.cons (.bin .fdiv (.var 2) (.int 2)) .nil)))) (.cons (.ifs
  (.bin .eq (.bin .mod (.var 2) (.int 2)) (.int 1))
 (.cons (.asg 5 true (.p (.call 4 (.cons (.var 0) (.cons (.bin .add (.var 1) (.int 1)) .nil))))) (.cons (.asg 6 true (.p (.bin .ix (.lst (.cons (.bin .mod (.bin .fdiv
  (.var 2) (.int 4)) (.int 60)) (.cons (.bin .mod (.bin .fdiv (.var 2) (.int 4)) (.bin .pow (.int 10) (.int 59))) .nil))) (.bin .mod (.bin .fdiv (.var 2) (.int 2)) (.int
  2))))) (.cons (.asg 3 true (.p (.call 3 (.cons (.var 6) (.cons (.bin .add (.int 2) (.bin .mod (.bin .fdiv (.var 5) (.int 64)) (.bin .ix (.lst (.cons (.int 40) (.cons
  (.bin .pow (.int 10) (.int 58)) .nil))) (.bin .mod (.bin .fdiv (.var 5) (.int 32)) (.int 2))))) (.cons (.var 5) .nil)))))) .nil)))
 .nil) (.cons (.asg 4 true (.p (.call 2 (.cons (.var 3) .nil)))) (.cons (.ifs (.bin .is (.var 4) .non)
 (.cons (.ifs (.un .not (.call 0 (.cons (.var 3) .nil)))
 (.cons (.ret (.p (.bl false))) .nil)
 .nil) .nil)
 (.cons (.asg 7 true (.p (.call 1 (.cons (.var 3) .nil)))) (.cons (.ifs (.or (.un .not (.isi (.var 7) true ["tuple"])) (.bin .ne (.var 7) (.var 4)))
 (.cons (.ret (.p (.bl false))) .nil)
 .nil) (.cons (.ifs (.or (.isi (.bin .ix (.var 7) (.int 0)) true ["bool"]) (.isi (.bin .ix (.var 7) (.int 1)) true ["bool"]))
 (.cons (.ret (.p (.bl false))) .nil)
 .nil) .nil)))) .nil)))))
def w_law_1 : Stm := .for_ .rng3 (.cons (.int 0) (.cons (.blt .max2 (.cons (.int 2) (.cons (.blt .min2 (.cons (.blt .len (.cons (.var 0) .nil)) (.cons (.int 62) .nil)))
  .nil))) (.cons (.int 2) .nil))) (.one 1) [1, 2, 3, 4, 5, 6, 7] b_law_1
def s_law : Src := ⟨["_law_script", "_law_k", "_law_cell", "_law_text", "_law_due_here", "_law_other", "_law_top", "_law_found"], 1,
 (.cons (w_law_1) (.cons (.ret (.p (.and (.call 0 (.cons (.str "") .nil)) (.call 0 (.cons (.str "1/2/3") .nil))))) .nil))⟩
def cs_law : List (Str × Int) := []
def ct_law : List (Str × List D) := []
def T_law : L3.Tab := ⟨[c_l_refused, c_p_read, c_l_due, c_l_near, c_l_cell_at, c_l_signs], cs_law.map (fun p => (p.1, D.int p.2)) ++ ct_law.map (fun p => (p.1, D.tup
  p.2)), errsL, catsL, fun _ _ _ => none, fun _ _ _ _ => none, none, fun _ _ => none⟩
def g_law : List D → Res D := s_law.run T_law
def c_law : L3.Callee := ⟨"law", 1, g_law⟩
@[simp] theorem ta_law : c_law.ar = 1 := rfl
@[simp] theorem tg_law : c_law.g = g_law := rfl
@[simp] theorem te_law : T_law.errs = errsL := rfl
@[simp] theorem tc_law : T_law.cats = catsL := rfl
@[simp] theorem tf_law_0 : T_law.fns[0]? = some c_l_refused := rfl
@[simp] theorem tf_law_1 : T_law.fns[1]? = some c_p_read := rfl
@[simp] theorem tf_law_2 : T_law.fns[2]? = some c_l_due := rfl
@[simp] theorem tf_law_3 : T_law.fns[3]? = some c_l_near := rfl
@[simp] theorem tf_law_4 : T_law.fns[4]? = some c_l_cell_at := rfl
@[simp] theorem tf_law_5 : T_law.fns[5]? = some c_l_signs := rfl
/-! ### the head -/
def d_p_shown : He.DefD := ⟨("shown", none), "shown", "shown", defArgs (top 21), defBody (top 21), defScope (top 21), [], []⟩
def d_p_greatest_of : He.DefD := ⟨("greatest_of", none), "greatest_of", "greatest_of", defArgs (top 17), defBody (top 17), defScope (top 17), [], []⟩
def d_p_ratio : He.DefD := ⟨("ratio", none), "ratio", "ratio", defArgs (top 18), defBody (top 18), defScope (top 18), [], []⟩
def d_p_figures_of : He.DefD := ⟨("figures_of", none), "figures_of", "figures_of", defArgs (top 22), defBody (top 22), defScope (top 22), [], []⟩
def d_p_read : He.DefD := ⟨("read", none), "read", "read", defArgs (top 23), defBody (top 23), defScope (top 23), [], []⟩
def d_l_refused : He.DefD := ⟨("_law_refused", none), "_law_refused", "_law_refused", defArgs (top 31), defBody (top 31), defScope (top 31), [], []⟩
def d_l_divisor : He.DefD := ⟨("_law_divisor", none), "_law_divisor", "_law_divisor", defArgs (top 26), defBody (top 26), defScope (top 26), [], []⟩
def d_l_whole : He.DefD := ⟨("_law_whole", none), "_law_whole", "_law_whole", defArgs (top 27), defBody (top 27), defScope (top 27), [], []⟩
def d_l_due : He.DefD := ⟨("_law_due", none), "_law_due", "_law_due", defArgs (top 28), defBody (top 28), defScope (top 28), [], []⟩
def d_l_near : He.DefD := ⟨("_law_near", none), "_law_near", "_law_near", defArgs (top 30), defBody (top 30), defScope (top 30), [], []⟩
def d_l_cell_at : He.DefD := ⟨("_law_cell_at", none), "_law_cell_at", "_law_cell_at", defArgs (top 25), defBody (top 25), defScope (top 25), [], []⟩
def d_l_signs : He.DefD := ⟨("_law_signs", none), "_law_signs", "_law_signs", defArgs (top 29), defBody (top 29), defScope (top 29), [], []⟩
def d_law : He.DefD := ⟨("law", none), "law", "law", defArgs (top 32), defBody (top 32), defScope (top 32), [], []⟩
def fn : List He.DefD := [d_p_shown, d_p_greatest_of, d_p_ratio, d_p_figures_of, d_p_read, d_l_refused, d_l_divisor, d_l_whole, d_l_due, d_l_near, d_l_cell_at,
  d_l_signs, d_law]
def gls0 : List Str := ["shown", "greatest_of", "ratio", "figures_of", "read", "_law_refused", "_law_divisor", "_law_whole", "_law_due", "_law_near", "_law_cell_at",
  "_law_signs", "law", "ClanError", "NoRatio", "NoText", "NoSpell", "NoRow", "NoBounds", "NoDistance", "NoClan", "TooLong", "NoRule", "NoLine", "NoNumber", "NoName",
  "Known", "TooMany"]
def gls : List Str := gls0
def ciL : List (Str × Int) := [("MOST", 60)]
def ctL : List (Str × List D) := []
def fa : List He.Fa := factsL gls errsL catsL ciL
def tfL : List (He.Defn × List ((Nat × Nat) × Str)) := []
def tbs (K : PySem.W.Frag) : List Addr := tfL.map fun p => (He.cT K p.1).2
def ex (K : PySem.W.Frag) : Bool := exB K exsL errsL ctL && decide (tbs K).Nodup
theorem h_p_shown : s_p_shown.chk T_p_shown exsL d_p_shown = true := by decide +kernel
theorem z_p_shown : scopeB s_p_shown.N (s_p_shown.N.take s_p_shown.ar) d_p_shown.scope = true := by decide +kernel
theorem h_p_greatest_of : s_p_greatest_of.chk T_p_greatest_of exsL d_p_greatest_of = true := by decide +kernel
theorem z_p_greatest_of : scopeB s_p_greatest_of.N (s_p_greatest_of.N.take s_p_greatest_of.ar) d_p_greatest_of.scope = true := by decide +kernel
theorem h_p_ratio : s_p_ratio.chk T_p_ratio exsL d_p_ratio = true := by decide +kernel
theorem z_p_ratio : scopeB s_p_ratio.N (s_p_ratio.N.take s_p_ratio.ar) d_p_ratio.scope = true := by decide +kernel
theorem h_p_figures_of : s_p_figures_of.chk T_p_figures_of exsL d_p_figures_of = true := by decide +kernel
theorem z_p_figures_of : scopeB s_p_figures_of.N (s_p_figures_of.N.take s_p_figures_of.ar) d_p_figures_of.scope = true := by decide +kernel
theorem h_p_read : s_p_read.chk T_p_read exsL d_p_read = true := by decide +kernel
theorem z_p_read : scopeB s_p_read.N (s_p_read.N.take s_p_read.ar) d_p_read.scope = true := by decide +kernel
theorem h_l_refused : s_l_refused.chk T_l_refused exsL d_l_refused = true := by decide +kernel
theorem z_l_refused : scopeB s_l_refused.N (s_l_refused.N.take s_l_refused.ar) d_l_refused.scope = true := by decide +kernel
theorem h_l_divisor : s_l_divisor.chk T_l_divisor exsL d_l_divisor = true := by decide +kernel
theorem z_l_divisor : scopeB s_l_divisor.N (s_l_divisor.N.take s_l_divisor.ar) d_l_divisor.scope = true := by decide +kernel
theorem h_l_whole : s_l_whole.chk T_l_whole exsL d_l_whole = true := by decide +kernel
theorem z_l_whole : scopeB s_l_whole.N (s_l_whole.N.take s_l_whole.ar) d_l_whole.scope = true := by decide +kernel
theorem h_l_due : s_l_due.chk T_l_due exsL d_l_due = true := by decide +kernel
theorem z_l_due : scopeB s_l_due.N (s_l_due.N.take s_l_due.ar) d_l_due.scope = true := by decide +kernel
theorem h_l_near : s_l_near.chk T_l_near exsL d_l_near = true := by decide +kernel
theorem z_l_near : scopeB s_l_near.N (s_l_near.N.take s_l_near.ar) d_l_near.scope = true := by decide +kernel
theorem h_l_cell_at : s_l_cell_at.chk T_l_cell_at exsL d_l_cell_at = true := by decide +kernel
theorem z_l_cell_at : scopeB s_l_cell_at.N (s_l_cell_at.N.take s_l_cell_at.ar) d_l_cell_at.scope = true := by decide +kernel
theorem h_l_signs : s_l_signs.chk T_l_signs exsL d_l_signs = true := by decide +kernel
theorem z_l_signs : scopeB s_l_signs.N (s_l_signs.N.take s_l_signs.ar) d_l_signs.scope = true := by decide +kernel
theorem h_law : s_law.chk T_law exsL d_law = true := by decide +kernel
theorem z_law : scopeB s_law.N (s_law.N.take s_law.ar) d_law.scope = true := by decide +kernel
section
variable [TbC] {P : Program} {w : World} {K : PySem.W.Frag} {mg : Str → Option Value} {base : Heap}
abbrev BK (K : PySem.W.Frag) (mg : Str → Option Value) : Prop := Beh gls exsL errsL catsL ciL ctL fn K mg
theorem o_p_shown (B : BK K mg) (M : MkOk tfL base K mg) : CallF P w K mg base 1 c_p_shown := by
  obtain ⟨fd, F⟩ := B.fns d_p_shown (by simp [fn])
  have b := FunD.bindsN (ps := s_p_shown.N.take s_p_shown.ar) F fun _ _ _ _ _ _ us hl => match us, hl with | [_], _ => rfl
  refine ⟨_, fd, _, def_ok (s := s_p_shown) (G := T_p_shown) (k := 0) F (scopeB_ok z_p_shown) (by rfl) (B.top _ rfl rfl (B.csts (cs := cs_p_shown) (ts := ct_p_shown) (by decide +kernel) (by simp [ct_p_shown, ctL]))) h_p_shown ?_, B.glo "shown" (by decide +kernel), F.kp, b⟩
  intro cl h
  cases h
theorem o_p_greatest_of (B : BK K mg) (M : MkOk tfL base K mg) : CallF P w K mg base 1 c_p_greatest_of := by
  obtain ⟨fd, F⟩ := B.fns d_p_greatest_of (by simp [fn])
  have b := FunD.bindsN (ps := s_p_greatest_of.N.take s_p_greatest_of.ar) F fun _ _ _ _ _ _ us hl => match us, hl with | [_], _ => rfl
  refine ⟨_, fd, _, def_ok (s := s_p_greatest_of) (G := T_p_greatest_of) (k := 0) F (scopeB_ok z_p_greatest_of) (by rfl) (B.top _ rfl rfl (B.csts (cs := cs_p_greatest_of) (ts := ct_p_greatest_of) (by decide +kernel) (by simp [ct_p_greatest_of, ctL]))) h_p_greatest_of ?_, B.glo "greatest_of" (by decide +kernel), F.kp, b⟩
  intro cl h
  cases h
theorem o_p_ratio (B : BK K mg) (M : MkOk tfL base K mg) : CallF P w K mg base 2 c_p_ratio := by
  obtain ⟨fd, F⟩ := B.fns d_p_ratio (by simp [fn])
  have b := FunD.bindsN (ps := s_p_ratio.N.take s_p_ratio.ar) F fun _ _ _ _ _ _ us hl => match us, hl with | [_, _], _ => rfl
  refine ⟨_, fd, _, def_ok (s := s_p_ratio) (G := T_p_ratio) (k := 1) F (scopeB_ok z_p_ratio) (by rfl) (B.top _ rfl rfl (B.csts (cs := cs_p_ratio) (ts := ct_p_ratio) (by decide +kernel) (by simp [ct_p_ratio, ctL]))) h_p_ratio ?_, B.glo "ratio" (by decide +kernel), F.kp, b⟩
  intro cl h
  simp only [T_p_ratio, List.mem_cons, List.not_mem_nil, or_false] at h
  rcases h with rfl
  · exact (o_p_greatest_of B M).mono (by decide)
theorem o_p_figures_of (B : BK K mg) (M : MkOk tfL base K mg) : CallF P w K mg base 1 c_p_figures_of := by
  obtain ⟨fd, F⟩ := B.fns d_p_figures_of (by simp [fn])
  have b := FunD.bindsN (ps := s_p_figures_of.N.take s_p_figures_of.ar) F fun _ _ _ _ _ _ us hl => match us, hl with | [_, _], _ => rfl
  refine ⟨_, fd, _, def_ok (s := s_p_figures_of) (G := T_p_figures_of) (k := 0) F (scopeB_ok z_p_figures_of) (by rfl) (B.top _ rfl rfl (B.csts (cs := cs_p_figures_of) (ts := ct_p_figures_of) (by decide +kernel) (by simp [ct_p_figures_of, ctL]))) h_p_figures_of ?_, B.glo "figures_of" (by decide +kernel), F.kp, b⟩
  intro cl h
  cases h
theorem o_p_read (B : BK K mg) (M : MkOk tfL base K mg) : CallF P w K mg base 3 c_p_read := by
  obtain ⟨fd, F⟩ := B.fns d_p_read (by simp [fn])
  have b := FunD.bindsN (ps := s_p_read.N.take s_p_read.ar) F fun _ _ _ _ _ _ us hl => match us, hl with | [_], _ => rfl
  refine ⟨_, fd, _, def_ok (s := s_p_read) (G := T_p_read) (k := 2) F (scopeB_ok z_p_read) (by rfl) (B.top _ rfl rfl (B.csts (cs := cs_p_read) (ts := ct_p_read) (by decide +kernel) (by simp [ct_p_read, ctL]))) h_p_read ?_, B.glo "read" (by decide +kernel), F.kp, b⟩
  intro cl h
  simp only [T_p_read, List.mem_cons, List.not_mem_nil, or_false] at h
  rcases h with rfl | rfl | rfl
  · exact (o_p_shown B M).mono (by decide)
  · exact (o_p_ratio B M).mono (by decide)
  · exact (o_p_figures_of B M).mono (by decide)
theorem o_l_refused (B : BK K mg) (M : MkOk tfL base K mg) : CallF P w K mg base 4 c_l_refused := by
  obtain ⟨fd, F⟩ := B.fns d_l_refused (by simp [fn])
  have b := FunD.bindsN (ps := s_l_refused.N.take s_l_refused.ar) F fun _ _ _ _ _ _ us hl => match us, hl with | [_], _ => rfl
  refine ⟨_, fd, _, def_ok (s := s_l_refused) (G := T_l_refused) (k := 3) F (scopeB_ok z_l_refused) (by rfl) (B.top _ rfl rfl (B.csts (cs := cs_l_refused) (ts := ct_l_refused) (by decide +kernel) (by simp [ct_l_refused, ctL]))) h_l_refused ?_, B.glo "_law_refused" (by decide +kernel), F.kp, b⟩
  intro cl h
  simp only [T_l_refused, List.mem_cons, List.not_mem_nil, or_false] at h
  rcases h with rfl
  · exact (o_p_read B M).mono (by decide)
theorem o_l_divisor (B : BK K mg) (M : MkOk tfL base K mg) : CallF P w K mg base 1 c_l_divisor := by
  obtain ⟨fd, F⟩ := B.fns d_l_divisor (by simp [fn])
  have b := FunD.bindsN (ps := s_l_divisor.N.take s_l_divisor.ar) F fun _ _ _ _ _ _ us hl => match us, hl with | [_, _], _ => rfl
  refine ⟨_, fd, _, def_ok (s := s_l_divisor) (G := T_l_divisor) (k := 0) F (scopeB_ok z_l_divisor) (by rfl) (B.top _ rfl rfl (B.csts (cs := cs_l_divisor) (ts := ct_l_divisor) (by decide +kernel) (by simp [ct_l_divisor, ctL]))) h_l_divisor ?_, B.glo "_law_divisor" (by decide +kernel), F.kp, b⟩
  intro cl h
  cases h
theorem o_l_whole (B : BK K mg) (M : MkOk tfL base K mg) : CallF P w K mg base 1 c_l_whole := by
  obtain ⟨fd, F⟩ := B.fns d_l_whole (by simp [fn])
  have b := FunD.bindsN (ps := s_l_whole.N.take s_l_whole.ar) F fun _ _ _ _ _ _ us hl => match us, hl with | [_], _ => rfl
  refine ⟨_, fd, _, def_ok (s := s_l_whole) (G := T_l_whole) (k := 0) F (scopeB_ok z_l_whole) (by rfl) (B.top _ rfl rfl (B.csts (cs := cs_l_whole) (ts := ct_l_whole) (by decide +kernel) (by simp [ct_l_whole, ctL]))) h_l_whole ?_, B.glo "_law_whole" (by decide +kernel), F.kp, b⟩
  intro cl h
  cases h
theorem o_l_due (B : BK K mg) (M : MkOk tfL base K mg) : CallF P w K mg base 2 c_l_due := by
  obtain ⟨fd, F⟩ := B.fns d_l_due (by simp [fn])
  have b := FunD.bindsN (ps := s_l_due.N.take s_l_due.ar) F fun _ _ _ _ _ _ us hl => match us, hl with | [_], _ => rfl
  refine ⟨_, fd, _, def_ok (s := s_l_due) (G := T_l_due) (k := 1) F (scopeB_ok z_l_due) (by rfl) (B.top _ rfl rfl (B.csts (cs := cs_l_due) (ts := ct_l_due) (by decide +kernel) (by simp [ct_l_due, ctL]))) h_l_due ?_, B.glo "_law_due" (by decide +kernel), F.kp, b⟩
  intro cl h
  simp only [T_l_due, List.mem_cons, List.not_mem_nil, or_false] at h
  rcases h with rfl | rfl
  · exact (o_l_divisor B M).mono (by decide)
  · exact (o_l_whole B M).mono (by decide)
theorem o_l_near (B : BK K mg) (M : MkOk tfL base K mg) : CallF P w K mg base 1 c_l_near := by
  obtain ⟨fd, F⟩ := B.fns d_l_near (by simp [fn])
  have b := FunD.bindsN (ps := s_l_near.N.take s_l_near.ar) F fun _ _ _ _ _ _ us hl => match us, hl with | [_, _, _], _ => rfl
  refine ⟨_, fd, _, def_ok (s := s_l_near) (G := T_l_near) (k := 0) F (scopeB_ok z_l_near) (by rfl) (B.top _ rfl rfl (B.csts (cs := cs_l_near) (ts := ct_l_near) (by decide +kernel) (by simp [ct_l_near, ctL]))) h_l_near ?_, B.glo "_law_near" (by decide +kernel), F.kp, b⟩
  intro cl h
  cases h
theorem o_l_cell_at (B : BK K mg) (M : MkOk tfL base K mg) : CallF P w K mg base 1 c_l_cell_at := by
  obtain ⟨fd, F⟩ := B.fns d_l_cell_at (by simp [fn])
  have b := FunD.bindsN (ps := s_l_cell_at.N.take s_l_cell_at.ar) F fun _ _ _ _ _ _ us hl => match us, hl with | [_, _], _ => rfl
  refine ⟨_, fd, _, def_ok (s := s_l_cell_at) (G := T_l_cell_at) (k := 0) F (scopeB_ok z_l_cell_at) (by rfl) (B.top _ rfl rfl (B.csts (cs := cs_l_cell_at) (ts := ct_l_cell_at) (by decide +kernel) (by simp [ct_l_cell_at, ctL]))) h_l_cell_at ?_, B.glo "_law_cell_at" (by decide +kernel), F.kp, b⟩
  intro cl h
  cases h
theorem o_l_signs (B : BK K mg) (M : MkOk tfL base K mg) : CallF P w K mg base 1 c_l_signs := by
  obtain ⟨fd, F⟩ := B.fns d_l_signs (by simp [fn])
  have b := FunD.bindsN (ps := s_l_signs.N.take s_l_signs.ar) F fun _ _ _ _ _ _ us hl => match us, hl with | [_], _ => rfl
  refine ⟨_, fd, _, def_ok (s := s_l_signs) (G := T_l_signs) (k := 0) F (scopeB_ok z_l_signs) (by rfl) (B.top _ rfl rfl (B.csts (cs := cs_l_signs) (ts := ct_l_signs) (by decide +kernel) (by simp [ct_l_signs, ctL]))) h_l_signs ?_, B.glo "_law_signs" (by decide +kernel), F.kp, b⟩
  intro cl h
  cases h
theorem o_law (B : BK K mg) (C : List Int → Prop) (law : ∀ ns : List Int, ns.length ≤ 63 → C ns → g_law [.scr ns] = .ok (.bl true)) : ∃ fd : FuncData, (∀ (s : Shared) (v : Value), BindsTo s fd ⟨[v], []⟩ [("_law_script", v)]) ∧
    ∀ base : Heap, MkOk tfL base K mg → FnOk P w K mg base CX0 5 (He.ga K "law") fd ["_law_script"] (spLaw K g_law 63 C) := by
  obtain ⟨fd, F⟩ := B.fns d_law (by simp [fn])
  have b := FunD.bindsA (ps := ["_law_script"]) F fun _ _ _ _ _ _ us hl => match us, hl with | [_], _ => rfl
  refine ⟨fd, fun s v => b s [v] rfl, fun base M => law_ok (s := s_law) (G := T_law) (k := 4) F (scopeB_ok z_law) (by rfl) rfl (B.top _ rfl rfl (B.csts (cs := cs_law) (ts := ct_law) (by decide +kernel) (by simp [ct_law, ctL]))) h_law ?_ law⟩
  intro cl h
  simp only [T_law, List.mem_cons, List.not_mem_nil, or_false] at h
  rcases h with rfl | rfl | rfl | rfl | rfl | rfl
  · exact (o_l_refused B M).mono (by decide)
  · exact (o_p_read B M).mono (by decide)
  · exact (o_l_due B M).mono (by decide)
  · exact (o_l_near B M).mono (by decide)
  · exact (o_l_cell_at B M).mono (by decide)
  · exact (o_l_signs B M).mono (by decide)
end
def loose0 : List PySem.Str := ["shown", "greatest_of", "ratio", "figures_of", "read", "_law_refused", "_law_divisor", "_law_whole", "_law_due", "_law_near",
  "_law_cell_at", "_law_signs", "ClanError", "NoRatio", "NoText", "NoSpell", "NoRow", "NoBounds", "NoDistance", "NoClan", "TooLong", "NoRule", "NoLine", "NoNumber",
  "NoName", "Known", "TooMany", "MOST"]
def loose : List PySem.Str := loose0
abbrev RW : PySem.W.OpenRow := PySem.W.OpenLaw.row PySem.Challenge.rw_chairclans_k04_unread
abbrev hk : PySem.W.Hook := He.hookX 4 fa fn [] (tfL.map (·.1)) ex
def ob (s : PySem.W.SharedT) : He.AlX := He.obsX 4 fa fn [] (tfL.map (·.1)) ex (HandSHeadRun.getT s)
theorem ob_eq (s : PySem.W.SharedT) : ob s = hk.obs s.abs := He.obsX_eq (HandSHeadRun.getT_eq s)
theorem run (w : World) : HandSHeadRun.RunEq RW (PySem.W.view RW.prog [32]) hk ob 6000 loose w := by
  intro os
  kernel_rfl
theorem facts (hl : ∀ ns : List Int, ns.length ≤ 63 → g_law [.scr ns] = .ok (.bl true)) (w : World) (mg : Str → Option Value) (f : Addr) (h : Heap) (Y : hk.says w h) (G : h.Ns mainGlobals mg) (hfa : mg ("law" : Str) = some (.ref f)) :
    ∃ K : PySem.W.Frag, K.In h ∧ LamX.LawAtS PySem.Challenge.rw_chairclans_k04_unread w K CX0 5 63 "_law_script" mg f h := by
  obtain ⟨K, X, c⟩ := Y
  letI : TbC := ⟨tfL.map fun p => ((He.cT K p.1).2, nmOf p.2)⟩
  have hm := c.more
  unfold ex at hm
  rw [Bool.and_eq_true, decide_eq_true_eq] at hm
  have B : BK K mg := beh_of X G c.t hm.1 (by decide +kernel) (by decide +kernel) (by decide +kernel) (by decide +kernel)
  have e := hfa.symm.trans (B.glo "law" (by decide +kernel))
  cases e
  obtain ⟨fd, hb, hF⟩ := o_law (P := (PySem.Challenge.rw_chairclans_k04_unread).prog) (w := w) B (fun _ => True) (fun ns q _ => hl ns q)
  have mem : ∀ p ∈ (tfL.map fun p => He.cT K p.1), ∃ q ∈ tfL.map (·.1), p = He.cT K q := fun p hp => by
    obtain ⟨q, hq, rfl⟩ := List.mem_map.mp hp
    exact ⟨q.1, List.mem_map_of_mem hq, rfl⟩
  refine ⟨K, X, fd, tfL.map fun p => He.cT K p.1, spLaw K g_law 63 fun _ => True, fun p hp => ?_, fun p hp => ?_, fun p hp => ?_, hb, fun H a ns q _ hH hS => ⟨fun p hp => ?_, a, ns, rfl, hS, q, trivial, fun _ => rfl⟩, fun base _ _ hT => hF base ⟨rfl, fun p hp => hT _ (List.mem_map.mpr ⟨p, hp, rfl⟩), hm.2⟩⟩
  · obtain ⟨q, hq, rfl⟩ := mem p hp
    exact c.empty q hq
  · obtain ⟨q, hq, rfl⟩ := mem p hp
    exact c.out q hq
  · obtain ⟨q, hq, rfl⟩ := mem p hp
    exact PySem.W.codeHd_of_K X (c.hd q hq)
  · obtain ⟨q, hq, rfl⟩ := List.mem_map.mp hp
    exact NdefX.TabN.nil (hH _ (List.mem_map.mpr ⟨q, hq, rfl⟩))
end Z

namespace Z
open L3
open PySem (Str PyData)
theorem execs_ifF {G : Tab} {c : Exp} {a b r : Stms} {env env' : Env} (hc : (ev G c env).bind asB = .ok false) (h : execs G b env = .nx env') : execs G (.cons (.ifs c a b) r) env = execs G r env' := execs_nx (by
  rw [exec, hc, Res.out_ok, if_neg Bool.false_ne_true]
  exact h)
theorem execs_ifT {G : Tab} {c : Exp} {a b r : Stms} {env env' : Env} (hc : (ev G c env).bind asB = .ok true) (h : execs G a env = .nx env') : execs G (.cons (.ifs c a b) r) env = execs G r env' := execs_nx (by
  rw [exec, hc, Res.out_ok, if_pos rfl]
  exact h)
end Z

set_option maxRecDepth 100000
set_option maxHeartbeats 4000000
namespace Z
open L3
open PySem (Str)

def cellAt (ns : List Int) (k : Nat) : Int := ns.getD k 0
theorem r_cell_at (ns : List Int) (k : Nat) : g_l_cell_at [.scr ns, .int (k : Int)] = .ok (.int (cellAt ns k)) := by
  unfold g_l_cell_at s_l_cell_at
  by_cases h : k < ns.length
  · simp [h, atI_nat, cellAt]
  · simp [h, cellAt]
def gcdN (a b : Int) : Int := (Int.gcd a b : Int)
/-- the greatest number that divides both, by rests -/
theorem r_gcd_loop {c : L3.Env → Res Bool} {f : L3.Env → Out} {clr : List Nat} {E : Nat → Nat → L3.Env} (hc : ∀ a b : Nat, c (E a b) = .ok (decide (0 < b))) (hf : ∀ a b : Nat, b ≠ 0 → ∃ e, f (E a b) = .nx e ∧ wipeE e clr = E b (a % b)) :
    ∀ (n a b : Nat), b < n → whlGo c f clr n (E a b) = .nx (E (Nat.gcd a b) 0) := by
  intro n
  induction n with
  | zero => intro a b h; omega
  | succ n ih =>
    intro a b h
    rw [whlGo, hc]
    by_cases hb : 0 < b
    · obtain ⟨e, h1, h2⟩ := hf a b (by omega)
      simp only [Res.out_ok, hb, decide_true, if_true, h1, h2]
      rw [ih b (a % b) (by have := Nat.mod_lt a hb; omega)]
      rw [Nat.gcd_comm a b, Nat.gcd_rec b a, Nat.gcd_comm]
    · have : b = 0 := by omega
      subst this
      simp
theorem r_divisor {a b : Int} (ha : 0 ≤ a) (hb : 0 ≤ b) : g_l_divisor [.int a, .int b] = .ok (.int (gcdN a b)) := by
  have loop : ∀ a b : Nat, L3.exec T_l_divisor w_l_divisor_1 [some (.int a), some (.int b), none] = .nx [some (.int (Nat.gcd a b : Nat)), some (.int 0), none] := by
    intro a b
    unfold w_l_divisor_1 b_l_divisor_1
    simp
    rw [r_gcd_loop (E := fun a b => [some (.int a), some (.int b), none])]
    · rfl
    · intro a b
      simp
    · intro a b h0
      simp [chkO, h0, Int.fmod_eq_emod_of_nonneg]
    · simp [fuI]
  obtain ⟨m, rfl⟩ := Int.eq_ofNat_of_zero_le ha
  obtain ⟨n, rfl⟩ := Int.eq_ofNat_of_zero_le hb
  unfold g_l_divisor s_l_divisor
  simp [loop]
  simp [gcdN, Int.gcd]
theorem div_ok {g : Int} (h0 : g ≠ 0) (hb : g.natAbs ≤ 10 ^ 600) : DivOk g := DivOk.of 2000 h0 (Nat.lt_of_le_of_lt hb (by decide +kernel)) (by decide)
theorem gcd_pos {a b : Int} (h : b ≠ 0) : 0 < gcdN a b := by
  unfold gcdN
  have := Int.gcd_pos_of_ne_zero_right a h
  omega
theorem gcd_le {a b : Int} (h : b ≠ 0) : (gcdN a b).natAbs ≤ b.natAbs := by
  unfold gcdN
  rw [Int.natAbs_natCast]
  exact Nat.gcd_le_right _ (by omega)
/-- lowest terms -/
def lowI (a b : Int) : Int × Int := if b < 0 then (a.fdiv (-gcdN a b), b.fdiv (-gcdN a b)) else (a.fdiv (gcdN a b), b.fdiv (gcdN a b))
def pr (p : Int × Int) : D := .tup [.int p.1, .int p.2]
theorem r_greatest (a b : Int) : g_p_greatest_of [.lst .fz [.int a, .int b]] = .ok (.int (gcdN a b)) := by
  have loop : ∀ (L m : Option D) (a b : Nat), L3.exec T_p_greatest_of w_p_greatest_of_1 [L, some (.int a), m, some (.int b)] = .nx [L, some (.int (Nat.gcd a b : Nat)), m, some (.int 0)] := by
    intro L m a b
    unfold w_p_greatest_of_1 b_p_greatest_of_1
    simp
    rw [r_gcd_loop (E := fun a b => [L, some (.int a), m, some (.int b)])]
    · rfl
    · intro a b
      simp
    · intro a b h0
      simp [chkO, chkR, h0, Int.fmod_eq_emod_of_nonneg]
    · simp [fuI]
  have l2 : ∀ (L m : Option D) (b : Nat), L3.exec T_p_greatest_of w_p_greatest_of_1 [L, some (.int 0), m, some (.int b)] = .nx [L, some (.int (b : Nat)), m, some (.int 0)] := fun L m b => by
    have := loop L m 0 b
    simpa using this
  unfold g_p_greatest_of s_p_greatest_of
  simp [w_p_greatest_of_2, b_p_greatest_of_2, forGo, loop, l2]
  simp [gcdN, Int.gcd]
theorem r_ratio (a b : Int) (h : b ≠ 0) (hb : b.natAbs ≤ 10 ^ 600) : g_p_ratio [.int a, .int b] = .ok (pr (lowI a b)) := by
  have h1 := gcd_pos (a := a) h
  have h2 := gcd_le (a := a) h
  have d1 : DivOk (gcdN a b) := div_ok (by omega) (by omega)
  have e0 : gcdN (-a) (-b) = gcdN a b := by simp [gcdN]
  have e1 : (-a).fdiv (gcdN a b) = a.fdiv (-gcdN a b) := by
    have := Int.neg_fdiv_neg a (-gcdN a b)
    rw [Int.neg_neg] at this
    exact this
  have e2 : (-b).fdiv (gcdN a b) = b.fdiv (-gcdN a b) := by
    have := Int.neg_fdiv_neg b (-gcdN a b)
    rw [Int.neg_neg] at this
    exact this
  unfold g_p_ratio s_p_ratio
  by_cases hn : b < 0
  · simp [r_greatest, h, hn, pr, lowI, chkO, chkR, d1, e0, e1, e2]
  · simp [r_greatest, h, hn, pr, lowI, chkO, chkR, d1]
theorem mod_lt {c : Int} {m : Nat} (h : 0 < m) : (c.fmod (m : Int)).natAbs < m := by
  rw [Int.fmod_eq_emod_of_nonneg _ (by omega)]
  have h1 := Int.emod_nonneg c (show (m : Int) ≠ 0 by omega)
  have h2 := Int.emod_lt_of_pos c (show (0 : Int) < m by omega)
  omega
theorem lt_pow {n m : Nat} (h : n < m) (k : Nat) (h2 : m ≤ 2 ^ k) : n < 2 ^ k := Nat.lt_of_lt_of_le h h2
theorem pr_tup (a b : Int) : D.tup [.int a, .int b] = pr (a, b) := rfl
theorem low_ok (a b : Int) (h : b ≠ 0) : 0 < (lowI a b).2 ∧ (lowI a b).1.natAbs ≤ a.natAbs ∧ (lowI a b).2.natAbs ≤ b.natAbs := by
  have h1 := gcd_pos (a := a) h
  have h2 := gcd_le (a := a) h
  have e : ∀ x : Int, x.fdiv (-gcdN a b) = (-x) / gcdN a b := fun x => by
    have := Int.neg_fdiv_neg x (-gcdN a b)
    rw [← this, Int.neg_neg, Int.fdiv_eq_ediv_of_nonneg _ (by omega)]
  have e' : ∀ x : Int, x.fdiv (gcdN a b) = x / gcdN a b := fun x => Int.fdiv_eq_ediv_of_nonneg _ (by omega)
  unfold lowI
  by_cases hn : b < 0
  · rw [if_pos hn]
    dsimp only
    rw [e, e]
    refine ⟨?_, ?_, ?_⟩
    · have : 1 ≤ (-b) / gcdN a b := Int.le_ediv_of_mul_le h1 (by omega)
      omega
    · have := Int.natAbs_ediv_le_natAbs (-a) (gcdN a b)
      rw [Int.natAbs_neg] at this
      exact this
    · have := Int.natAbs_ediv_le_natAbs (-b) (gcdN a b)
      rw [Int.natAbs_neg] at this
      exact this
  · rw [if_neg hn]
    dsimp only
    rw [e', e']
    refine ⟨?_, Int.natAbs_ediv_le_natAbs a _, Int.natAbs_ediv_le_natAbs b _⟩
    have : 1 ≤ b / gcdN a b := Int.le_ediv_of_mul_le h1 (by omega)
    omega
end Z

namespace Z
open L3
open PySem (Str PyData)
open TL
/-! ### whole numbers written (k03, k04) -/
/-- a whole number's text -/
abbrev tS (i : Int) : Str := Str.ofString (toString i)
theorem tl_tS (n : Nat) : tl (tS (n : Int)) = numL n := tl_num n
theorem tl_neg {n : Nat} (h : 0 < n) : tl (tS (-(n : Int))) = 45 :: numL n := by
  have e := PyProof.Rows.toString_neg (n := -(n : Int)) (by omega)
  have e0 : (0 : Int) - -(n : Int) = (n : Int) := by omega
  rw [e0] at e
  unfold tS
  rw [e, tl_ofString, String.toList_append, List.map_append]
  have e2 := tl_num n
  rw [tl_ofString] at e2
  rw [e2]
  rfl
theorem digits10 : tl (Str.ofString "0123456789") = [48, 49, 50, 51, 52, 53, 54, 55, 56, 57] := by decide +kernel
theorem digit_at {d : Nat} (h : d < 10) : bopD .ix (.str "0123456789") (.int (d : Int)) = some (.str ⟨#[48 + d]⟩) := by
  have e : L2.atI [48, 49, 50, 51, 52, 53, 54, 55, 56, 57] (d : Int) = some (48 + d) := by
    rw [atI_nat (by simpa using h)]
    match d, h with
    | 0, _ => rfl
    | 1, _ => rfl
    | 2, _ => rfl
    | 3, _ => rfl
    | 4, _ => rfl
    | 5, _ => rfl
    | 6, _ => rfl
    | 7, _ => rfl
    | 8, _ => rfl
    | 9, _ => rfl
    | n + 10, h => omega
  have e2 : L2.atI (Str.ofString "0123456789").cps.toList (d : Int) = some (48 + d) := by
    rw [show (Str.ofString "0123456789").cps.toList = [48, 49, 50, 51, 52, 53, 54, 55, 56, 57] from digits10]
    exact e
  rw [b_ix_str, chkO_pos (by decide +kernel), e2]
  rfl
theorem len1 (c : Nat) : (⟨#[c]⟩ : Str).length = 1 := rfl
theorem len_tS {n k : Nat} (hk : 0 < k) (h : n < 10 ^ k) : (tS (n : Int)).length ≤ k := by
  rw [len_tl, tl_tS]
  exact numL_len hk h
end Z

namespace Z
open L3
open PySem (Str PyData)
open TL
/-! ### ratios written -/
theorem f_str (i : Int) : fnD .str [.int i] = chkO (i.natAbs.log2 < 1920) (some (.str (tS i))) := Eq.trans rfl rfl
theorem log_ok {i : Int} (h : i.natAbs < 10 ^ 300) : i.natAbs.log2 < 1920 := log2_lt (Nat.lt_trans h (by decide +kernel)) (by decide)
theorem sl1 : (Str.ofString "/").length = 1 := by decide +kernel
theorem mi1 : (Str.ofString "-").length = 1 := by decide +kernel
theorem tl_sl : tl (Str.ofString "/") = [47] := by decide +kernel
theorem tl_mi : tl (Str.ofString "-") = [45] := by decide +kernel
theorem len_app (x y : Str) : (x ++ y).length = x.length + y.length := by rw [len_tl, tl_append, List.length_append, ← len_tl, ← len_tl]
theorem tS_neg {n : Nat} (h : 0 < n) : tS (-(n : Int)) = Str.ofString "-" ++ tS (n : Int) := ext_tl (by rw [tl_neg h, tl_append, tl_mi, tl_tS]; rfl)
theorem numL_le {n : Nat} (h : n < 10 ^ 300) : (numL n).length ≤ 300 := numL_len (by decide) h
theorem tS_len {i : Int} (h : i.natAbs < 10 ^ 300) : (tS i).length ≤ 301 := by
  by_cases z : 0 ≤ i
  · obtain ⟨n, rfl⟩ := Int.eq_ofNat_of_zero_le z
    have := len_tS (n := n) (k := 300) (by decide) (by simpa using h)
    omega
  · obtain ⟨n, hn⟩ := Int.eq_ofNat_of_zero_le (show 0 ≤ -i by omega)
    have e : i = -(n : Int) := by omega
    subst e
    have hn : n < 10 ^ 300 := by simpa using h
    rw [tS_neg (by omega), len_app, mi1]
    have := len_tS (n := n) (k := 300) (by decide) hn
    omega
/-- a ratio's text -/
def shS (a : Int × Int) : Str := if 1 < a.2 then tS a.1 ++ (Str.ofString "/" ++ tS a.2) else tS a.1
theorem r_shown {a : Int × Int} (h1 : a.1.natAbs < 10 ^ 300) (h3 : a.2.natAbs < 10 ^ 300) : g_p_shown [.tup [.int a.1, .int a.2]] = .ok (.str (shS a)) := by
  have l1 := log_ok h1
  have l2 := log_ok h3
  have n1 := tS_len h1
  have n2 := tS_len h3
  have n3 := sl1
  unfold g_p_shown shS
  refine run_rt (env := [some (.tup [.int a.1, .int a.2]), none]) rfl ?_
  unfold s_p_shown
  dsimp only
  have f1 : fnD .str [.int a.1] = some (.str (tS a.1)) := by rw [f_str, chkO_pos l1]
  have f2 : fnD .str [.int a.2] = some (.str (tS a.2)) := by rw [f_str, chkO_pos l2]
  refine (execs_nx (env' := [some (.tup [.int a.1, .int a.2]), some (.str (tS a.1))]) (by simp [f1])).trans ?_
  generalize tS a.1 = x at *
  generalize tS a.2 = y at *
  have n4 := len_app (Str.ofString "/") y
  have c1 : bopD .add (.str "/") (.str y) = some (.str (Str.ofString "/" ++ y)) := by rw [b_add_str, chkO_pos (by omega)]
  have c2 : bopD .add (.str x) (.str (Str.ofString "/" ++ y)) = some (.str (x ++ (Str.ofString "/" ++ y))) := by rw [b_add_str, chkO_pos (by omega)]
  by_cases h : 1 < a.2
  · rw [if_pos h]
    refine (execs_nx (env' := [some (.tup [.int a.1, .int a.2]), some (.str (x ++ (Str.ofString "/" ++ y)))]) (by simp [h, f2, c1, c2, -b_add_str])).trans ?_
    exact execs_rt (by simp)
  · rw [if_neg h]
    refine (execs_nx (env' := [some (.tup [.int a.1, .int a.2]), some (.str x)]) (by simp [h])).trans ?_
    exact execs_rt (by simp)
theorem app_assoc (x y z : Str) : (x ++ y) ++ z = x ++ (y ++ z) := ext_tl (by simp only [tl_append, List.append_assoc])
end Z

namespace Z
open L3
open PySem (Str PyData)
open TL
/-! ### figures read -/
theorem head_num : ∀ n : Nat, 0 < n → ∃ c r, numL n = c :: r ∧ c ≠ 48 := by
  intro n
  induction n using Nat.strongRecOn with
  | _ n ih =>
    intro h
    by_cases h9 : n < 10
    · exact ⟨48 + n, [], numL_lt h9, by omega⟩
    · obtain ⟨c, r, e, hc⟩ := ih (n / 10) (by omega) (by omega)
      exact ⟨c, r ++ [48 + n % 10], by rw [numL_step (by omega), e]; rfl, hc⟩
theorem digit_in {c : Nat} (h : 48 ≤ c ∧ c ≤ 57) : c ∈ (Str.ofString "0123456789").cps.toList := by
  rw [show (Str.ofString "0123456789").cps.toList = [48, 49, 50, 51, 52, 53, 54, 55, 56, 57] from digits10]
  have : c = 48 ∨ c = 49 ∨ c = 50 ∨ c = 51 ∨ c = 52 ∨ c = 53 ∨ c = 54 ∨ c = 55 ∨ c = 56 ∨ c = 57 := by omega
  simpa using this
theorem f_intS (a : Str) : fnD .int [.str a] = chkO (a.length ≤ 640) ((PySem.intText? a).bind fun n => some (.int n)) := Eq.trans rfl rfl
theorem it_sqs (x : Str) (h : x.length ≤ 16000000) : items .sqs [.str x] = some (x.cps.toList.map fun c => .str ⟨#[c]⟩) := by
  show chkO _ _ = _
  rw [chkO_pos h]
theorem numL_dig (n : Nat) : ∀ c ∈ numL n, 48 ≤ c ∧ c ≤ 57 := fun c hc => numL_digits n c hc
theorem strOk_of {x : Str} (h : ∀ c ∈ tl x, c < 128) : PyData.strOk x = true := by
  unfold PyData.strOk
  rw [← Array.all_toList]
  exact List.all_eq_true.mpr fun c hc => decide_eq_true (by have := h c hc; omega)
theorem ok_empty : PyData.strOk (Str.ofString "") = true := by decide +kernel
theorem ok_zero : PyData.strOk (Str.ofString "0") = true := by decide +kernel
theorem ne_str {x y : Str} (h : tl x ≠ tl y) : (x == y) = false := beq_eq_false_iff_ne.mpr fun e => h (by rw [e])
theorem tl_zero : tl (Str.ofString "0") = [48] := by decide +kernel
theorem tl_empty : tl (Str.ofString "") = [] := by decide +kernel
theorem r_figs {n : Nat} (h : n < 10 ^ 60) : g_p_figures_of [.str (tS (n : Int)), .int 60] = .ok (.int (n : Nat)) := by
  have hl := len_tS (n := n) (k := 60) (by decide) h
  have ht := tl_tS n
  have hd := numL_dig n
  have hne := numL_ne n
  have hint : PySem.intText? (tS (n : Int)) = some (n : Int) := int_num (by rw [← ht, ← len_tl]; omega)
  have hlen : (numL n).length = (tS (n : Int)).length := by rw [len_tl, ht]
  have h1 : 1 < (tS (n : Int)).length → ∃ c r, numL n = c :: r ∧ c ≠ 48 := fun z => by
    by_cases z0 : n < 10
    · rw [numL_lt z0] at hlen
      simp at hlen
      omega
    · exact head_num n (by omega)
  generalize tS (n : Int) = x at *
  have ok := strOk_of (x := x) fun c hc => by rw [ht] at hc; have := hd c hc; omega
  have ok0 := ok_empty
  have ok1 := ok_zero
  have e1 : (x == Str.ofString "") = false := ne_str (by rw [ht, tl_empty]; exact hne)
  have e2 : fnD .len [.str x] = some (.int x.length) := by rw [f_len_str, chkO_pos (by omega)]
  have loop : L3.exec T_p_figures_of w_p_figures_of_1 [some (.str x), some (.int 60), none] = .nx [some (.str x), some (.int 60), none] := by
    unfold w_p_figures_of_1
    have hi := it_sqs x (by omega)
    simp [hi]
    refine forGo_same fun y m => ?_
    obtain ⟨c, hc, rfl⟩ := List.mem_map.mp m
    have hc : c ∈ tl x := hc
    rw [ht] at hc
    have hin := digit_in (hd c hc)
    have en : bopD .notin (.str ⟨#[c]⟩) (.str "0123456789") = some (.bl false) := by
      rw [b_notin_str, chkO_pos (show (⟨#[c]⟩ : Str).cps.size = 1 from rfl)]
      have : decide ((⟨#[c]⟩ : Str).cps.getD 0 0 ∈ (Str.ofString "0123456789").cps.toList) = true := decide_eq_true hin
      rw [this]
      rfl
    refine ⟨[some (.str x), some (.int 60), some (.str ⟨#[c]⟩)], ?_, rfl⟩
    simp [b_p_figures_of_1, en, -b_notin_str]
  unfold g_p_figures_of
  refine run_rt (env := [some (.str x), some (.int 60), none]) rfl ?_
  unfold s_p_figures_of
  dsimp only
  refine (execs_ifF (env' := [some (.str x), some (.int 60), none]) ?_ rfl).trans ?_
  · by_cases hz : 1 < x.length
    · obtain ⟨c, r, ec, hc⟩ := h1 hz
      have e3 : bopD .ix (.str x) (.int 0) = some (.str ⟨#[c]⟩) := by
        rw [b_ix_str, chkO_pos (by omega), show x.cps.toList = c :: r from ht.trans ec, atI_0]
        rfl
      have e4 : ((⟨#[c]⟩ : Str) == Str.ofString "0") = false := ne_str (by rw [tl_zero]; intro z; have z : [c] = [48] := z; exact hc (by simpa using z))
      have ok2 : PyData.strOk ⟨#[c]⟩ = true := strOk_of fun d hdd => by
        have : d = c := by simpa [tl] using hdd
        have := hd c (by rw [ec]; exact List.mem_cons_self)
        omega
      simp [ok, ok0, ok1, ok2, e1, e2, e3, e4, -b_ix_str, -f_len_str, show ¬ (60 : Int) < (x.length : Int) by omega, show (1 : Int) < (x.length : Int) by omega]
    · simp [ok, ok0, e1, e2, -f_len_str, show ¬ (60 : Int) < (x.length : Int) by omega, show ¬ (1 : Int) < (x.length : Int) by omega]
  refine (execs_nx loop).trans ?_
  refine execs_rt ?_
  have e5 : fnD .int [.str x] = some (.int (n : Nat)) := by rw [f_intS, chkO_pos (by omega), hint]; rfl
  simp [e5]
end Z

namespace Z
open L3
open PySem (Str PyData)
open TL
/-! ### a ratio's text, cut at its stroke -/
theorem split_no {x : Str} (h : 47 ∉ tl x) : PySem.Txt.split x "/" = [x] := by
  have := split_join (y := "/") (s := 47) (S := []) tl_sl (by decide +kernel) (parts := [x]) (by simp) (fun p hp => by rw [List.mem_singleton.mp hp]; exact h)
  rw [join_eq] at this
  simpa [PySem.Str.join] using this
theorem split_two {x y : Str} (hx : 47 ∉ tl x) (hy : 47 ∉ tl y) : PySem.Txt.split (x ++ (Str.ofString "/" ++ y)) "/" = [x, y] := by
  have := split_join (y := "/") (s := 47) (S := []) tl_sl (by decide +kernel) (parts := [x, y]) (by simp) (fun p hp => by
    rcases List.mem_cons.mp hp with rfl | hp
    · exact hx
    · rw [List.mem_singleton.mp hp]; exact hy)
  rw [join_eq] at this
  have e : PySem.Str.join "/" [x, y] = x ++ (Str.ofString "/" ++ y) := by
    refine ext_tl ?_
    simp [PySem.Str.join, tl_append]
  rw [e] at this
  exact this
end Z

namespace Z
open L3
open PySem (Str PyData)
open TL
/-! ### a ratio's text, read -/
theorem tl_take1 (x : Str) : tl (L2.cutS x none (some 1)) = (tl x).take 1 := by
  have e : HT.sIx x.length x.length (some ((1 : Nat) : Int)) = min 1 x.length := HT.sIx_nat ..
  have e : HT.sIx x.length x.length (some 1) = min 1 x.length := e
  unfold L2.cutS
  rw [tl_mk, HT.sIx_none, e, List.drop_zero, Nat.sub_zero, len_tl]
  show List.take (min 1 (tl x).length) (tl x) = _
  generalize tl x = l
  cases l with
  | nil => simp
  | cons c r => simp [show min 1 (r.length + 1) = 1 by omega]
theorem tl_drop1 (x : Str) : tl (L2.cutS x (some 1) none) = (tl x).drop 1 := by
  have e : HT.sIx x.length 0 (some ((1 : Nat) : Int)) = min 1 x.length := HT.sIx_nat ..
  have e : HT.sIx x.length 0 (some 1) = min 1 x.length := e
  unfold L2.cutS
  rw [tl_mk, HT.sIx_none, e, len_tl]
  cases h : tl x with
  | nil => simp [show x.cps.toList = [] from h]
  | cons c r =>
    have h' : x.cps.toList = c :: r := h
    rw [h']
    simp
theorem slc_str (x : Str) (lo hi : Option Int) (h : x.length ≤ 16000000) : slcD (.str x) lo hi = some (.str (L2.cutS x lo hi)) := by
  show chkO _ _ = _
  rw [chkO_pos h]
theorem free_tS {i : Int} : 47 ∉ tl (tS i) := by
  by_cases z : 0 ≤ i
  · obtain ⟨n, rfl⟩ := Int.eq_ofNat_of_zero_le z
    rw [show tl (tS ((n : Nat) : Int)) = numL n from tl_tS n]
    exact numL_free (by omega)
  · obtain ⟨n, hn⟩ := Int.eq_ofNat_of_zero_le (show 0 ≤ -i by omega)
    have e : i = -(n : Int) := by omega
    subst e
    rw [tl_neg (by omega)]
    intro m
    rcases List.mem_cons.mp m with m | m
    · omega
    · exact numL_free (n := n) (s := 47) (by omega) m
/-- the text in pieces -/
def pcs (a : Int × Int) (x : Str) : List Str := if 1 < a.2 then [x, tS a.2] else [x]
theorem split_sh (a : Int × Int) : PySem.Txt.split (shS a) "/" = pcs a (tS a.1) := by
  unfold shS pcs
  by_cases h : 1 < a.2
  · rw [if_pos h, if_pos h]
    exact split_two free_tS free_tS
  · rw [if_neg h, if_neg h]
    exact split_no free_tS
theorem head_sh {a : Int × Int} : (tl (shS a)).take 1 = (tl (tS a.1)).take 1 := by
  unfold shS
  by_cases h : 1 < a.2
  · rw [if_pos h, tl_append]
    have : tl (tS a.1) ≠ [] := by
      by_cases z : 0 ≤ a.1
      · obtain ⟨n, hn⟩ := Int.eq_ofNat_of_zero_le z
        rw [hn]
        rw [show tl (tS ((n : Nat) : Int)) = numL n from tl_tS n]
        exact numL_ne n
      · obtain ⟨n, hn⟩ := Int.eq_ofNat_of_zero_le (show 0 ≤ -a.1 by omega)
        rw [show a.1 = -(n : Int) by omega, tl_neg (by omega)]
        simp
    cases ht : tl (tS a.1) with
    | nil => exact absurd ht this
    | cons c r => simp
  · rw [if_neg h]
end Z

namespace Z
open L3
open PySem (Str PyData)
open TL
theorem low_tS (i : Int) : ∀ c ∈ tl (tS i), c < 128 := by
  by_cases z : 0 ≤ i
  · obtain ⟨n, rfl⟩ := Int.eq_ofNat_of_zero_le z
    intro c hc
    rw [show tl (tS ((n : Nat) : Int)) = numL n from tl_tS n] at hc
    have := numL_dig n c hc
    omega
  · obtain ⟨n, hn⟩ := Int.eq_ofNat_of_zero_le (show 0 ≤ -i by omega)
    have e : i = -(n : Int) := by omega
    subst e
    intro c hc
    rw [tl_neg (by omega)] at hc
    rcases List.mem_cons.mp hc with hc | hc
    · omega
    · have := numL_dig n c hc
      omega
theorem low_sh (a : Int × Int) : ∀ c ∈ tl (shS a), c < 128 := by
  intro c hc
  unfold shS at hc
  split at hc
  · rw [tl_append, tl_append, tl_sl] at hc
    rcases List.mem_append.mp hc with hc | hc
    · exact low_tS _ c hc
    · rcases List.mem_append.mp hc with hc | hc
      · have : c = 47 := by simpa using hc
        omega
      · exact low_tS _ c hc
  · exact low_tS _ c hc
theorem len_sh {a : Int × Int} (h1 : a.1.natAbs < 10 ^ 300) (h3 : a.2.natAbs < 10 ^ 300) : (shS a).length ≤ 603 := by
  have n1 := tS_len h1
  have n2 := tS_len h3
  have n3 := sl1
  unfold shS
  split
  · rw [len_app, len_app]
    omega
  · omega
theorem ok_mi : PyData.strOk (Str.ofString "-") = true := by decide +kernel
theorem r_read {a : Int × Int} (h1 : a.1.natAbs < 10 ^ 60) (h2 : 1 ≤ a.2) (h3 : a.2.natAbs < 10 ^ 60) (hr : g_p_ratio [.int a.1, .int a.2] = .ok (.tup [.int a.1, .int a.2])) : g_p_read [.str (shS a)] = .ok (.tup [.int a.1, .int a.2]) := by
  have p60 : (10 : Nat) ^ 60 < 10 ^ 300 := by decide +kernel
  have hsh := r_shown (a := a) (by omega) (by omega)
  have hl := len_sh (a := a) (by omega) (by omega)
  have hlx : (tS a.1).length ≤ 301 := tS_len (by omega)
  obtain ⟨m, hm⟩ := Int.eq_ofNat_of_zero_le (show 0 ≤ a.2 by omega)
  obtain ⟨n, hn⟩ : ∃ n, n = a.1.natAbs := ⟨_, rfl⟩
  have F1 := r_figs (n := n) (by omega)
  have F2 := r_figs (n := m) (by omega)
  have hspl := split_sh a
  have hhd := head_sh (a := a)
  have okx := strOk_of (low_sh a)
  have lowx := low_sh a
  have hsp : mthD .split (.str (shS a)) [.str "/"] = some (.lst .own ((pcs a (tS a.1)).map .str)) := by
    show chkO _ _ = _
    rw [chkO_pos ⟨by decide +kernel, by omega⟩, hspl]
  have hc1 := slc_str (shS a) none (some 1) (by omega)
  have ht1 := tl_take1 (shS a)
  rw [hhd] at ht1
  have hsg : (L2.cutS (shS a) none (some 1) == Str.ofString "-") = decide (a.1 < 0) := by
    by_cases z : a.1 < 0
    · rw [decide_eq_true z]
      have e : L2.cutS (shS a) none (some 1) = Str.ofString "-" := ext_tl (by
        rw [ht1, tl_mi, show a.1 = -(n : Int) by omega, tl_neg (by omega)]
        rfl)
      rw [e]
      simp
    · rw [decide_eq_false z]
      refine ne_str fun e => ?_
      rw [ht1, tl_mi, show a.1 = (n : Int) by omega, tl_tS] at e
      have hd := numL_dig n
      cases hq : numL n with
      | nil => exact numL_ne n hq
      | cons c r =>
        rw [hq] at e hd
        have := hd c List.mem_cons_self
        have e : [c] = [45] := by simpa using e
        have e : c = 45 := by simpa using e
        omega
  have okc : PyData.strOk (L2.cutS (shS a) none (some 1)) = true := strOk_of fun c hc => by
    rw [ht1] at hc
    exact low_tS _ c (List.mem_of_mem_take hc)
  have okm := ok_mi
  have hcut : a.1 < 0 → slcD (.str (tS a.1)) (some 1) none = some (.str (tS (n : Int))) := fun z => by
    rw [slc_str _ _ _ (by omega)]
    congr 2
    refine ext_tl ?_
    rw [tl_drop1, tl_tS, show a.1 = -(n : Int) by omega, tl_neg (by omega)]
    rfl
  have hpos : ¬ a.1 < 0 → tS a.1 = tS (n : Int) := fun z => by rw [show a.1 = (n : Int) by omega]
  have hmul : (if a.1 < 0 then -1 else 1) * (n : Int) = a.1 := by split <;> omega
  obtain ⟨s, hs⟩ : ∃ s : Int, s = if a.1 < 0 then -1 else 1 := ⟨_, rfl⟩
  rw [← hs] at hmul
  have hs2 : s = -1 ∨ s = 1 := by rw [hs]; split <;> simp
  haveI : Bd s 2 := ⟨by rcases hs2 with e | e <;> rw [e] <;> decide⟩
  haveI : Bd (n : Int) 250 := ⟨by rw [Int.natAbs_natCast]; exact Nat.lt_trans (show n < 10 ^ 60 by omega) (by decide +kernel)⟩
  generalize hX : tS a.1 = X at *
  generalize hx : shS a = x at *
  unfold g_p_read
  refine run_rt (env := [some (.str x), none, none, none, none, none]) rfl ?_
  unfold s_p_read
  dsimp only
  refine (execs_nx (env' := [some (.str x), some (.int 1), none, none, none, none]) (by simp)).trans ?_
  have tyS : tyM .split (.str x) = true := rfl
  refine (execs_nx (env' := [some (.str x), some (.int 1), some (.lst .own ((pcs a X).map .str)), none, none, none]) (by simp [hsp, tyS])).trans ?_
  refine (execs_nx (env' := [some (.str x), some (.int s), some (.lst .own ((pcs a (tS (n : Int))).map .str)), none, none, none]) (by
    by_cases z : a.1 < 0
    · rw [if_pos z] at hs
      have hcut := hcut z
      subst hs
      unfold pcs
      have e0 : L2.ixN 1 0 = some 0 := rfl
      have e1 : L2.ixN 2 0 = some 0 := rfl
      by_cases h : 1 < a.2
      · simp [h, hc1, hsg, z, okc, okm, hcut, e1]
      · simp [h, hc1, hsg, z, okc, okm, hcut, e0]
    · rw [if_neg z] at hs
      subst hs
      rw [hpos z]
      simp [hc1, hsg, z, okc, okm])).trans ?_
  clear hcut hpos hc1 hsg okc hsp
  generalize tS (n : Int) = N at *
  rw [← hm] at F2
  have m2 : ∀ x y : Int, minL [x, y] = min x y := fun x y => rfl
  have m3 : ∀ x y z : Int, minL [x, y, z] = min x (min y z) := fun x y z => rfl
  have i2 : ∀ x y : Int, intsD [.int x, .int y] = some [x, y] := fun x y => rfl
  have i3 : ∀ x y z : Int, intsD [.int x, .int y, .int z] = some [x, y, z] := fun x y z => rfl
  by_cases h : 1 < a.2
  · have e : pcs a N = [N, tS a.2] := by unfold pcs; rw [if_pos h]
    rw [e]
    refine (execs_nx (env' := [some (.str x), some (.int s), some (.lst .own [.str N, .str (tS a.2)]), some (.lst .fz [.int (n : Nat), .int a.2, .int 1]), none, none]) (by simp [lcGo, F1, F2])).trans ?_
    refine (execs_ifF (env' := [some (.str x), some (.int s), some (.lst .own [.str N, .str (tS a.2)]), some (.lst .fz [.int (n : Nat), .int a.2, .int 1]), none, none]) (by
      have z1 : ¬ min (n : Int) (min a.2 1) < 0 := by omega
      simp [m3, i3, z1, show ¬ a.2 = 0 by omega]) rfl).trans ?_
    refine (execs_nx (env' := [some (.str x), some (.int s), some (.lst .own [.str N, .str (tS a.2)]), some (.lst .fz [.int (n : Nat), .int a.2, .int 1]), some (.tup [.int a.1, .int a.2]), none]) (by simp [hmul, hr])).trans ?_
    refine (execs_ifF (env' := [some (.str x), some (.int s), some (.lst .own [.str N, .str (tS a.2)]), some (.lst .fz [.int (n : Nat), .int a.2, .int 1]), some (.tup [.int a.1, .int a.2]), none]) (by simp [hsh, okx]) rfl).trans ?_
    exact execs_rt (by simp)
  · have e : pcs a N = [N] := by unfold pcs; rw [if_neg h]
    have h1 : a.2 = 1 := by omega
    rw [e]
    rw [h1] at hr hsh ⊢
    refine (execs_nx (env' := [some (.str x), some (.int s), some (.lst .own [.str N]), some (.lst .fz [.int (n : Nat), .int 1]), none, none]) (by simp [lcGo, F1])).trans ?_
    refine (execs_ifF (env' := [some (.str x), some (.int s), some (.lst .own [.str N]), some (.lst .fz [.int (n : Nat), .int 1]), none, none]) (by
      have z1 : ¬ min (n : Int) 1 < 0 := by omega
      simp [m2, i2, z1]) rfl).trans ?_
    refine (execs_nx (env' := [some (.str x), some (.int s), some (.lst .own [.str N]), some (.lst .fz [.int (n : Nat), .int 1]), some (.tup [.int a.1, .int 1]), none]) (by simp [hmul, hr])).trans ?_
    refine (execs_ifF (env' := [some (.str x), some (.int s), some (.lst .own [.str N]), some (.lst .fz [.int (n : Nat), .int 1]), some (.tup [.int a.1, .int 1]), none]) (by simp [hsh, okx]) rfl).trans ?_
    exact execs_rt (by simp)
end Z

namespace Z
open L3
open PySem (Str PyData)
open TL
/-! ### texts that may write no whole number (k04) -/
def Dig (l : List Nat) : Prop := ∀ c ∈ l, 48 ≤ c ∧ c ≤ 57
/-- figures without a nought ahead are a number's -/
theorem num_snoc : ∀ (k : Nat) (l : List Nat), l.length = k → l ≠ [] → Dig l → (1 < l.length → ∀ c r, l = c :: r → c ≠ 48) → ∃ n, l = numL n := by
  intro k
  induction k using Nat.strongRecOn with
  | _ k ih =>
    intro l hk hne hd h0
    obtain ⟨c, e⟩ : ∃ c, l = l.dropLast ++ [c] := ⟨l.getLast hne, (List.dropLast_concat_getLast hne).symm⟩
    have hc : 48 ≤ c ∧ c ≤ 57 := hd c (by rw [e]; simp)
    by_cases hs : l.dropLast = []
    · rw [hs] at e
      refine ⟨c - 48, ?_⟩
      rw [numL_lt (by omega), e]
      simp
      omega
    · have hl : l.dropLast.length = k - 1 := by rw [List.length_dropLast, hk]
      have hpos : 0 < l.dropLast.length := List.length_pos_iff.mpr hs
      obtain ⟨m, hm⟩ := ih (k - 1) (by omega) l.dropLast hl hs (fun d hdd => hd d (by rw [e]; simp [hdd])) (fun _ c' r' e' => h0 (by omega) c' (r' ++ [c]) (by rw [e, e']; rfl))
      have hm0 : 0 < m := by
        rcases Nat.eq_zero_or_pos m with z | z
        · exfalso
          subst z
          have e0 : numL 0 = [48] := numL_lt (by decide)
          rw [e0] at hm
          exact h0 (by omega) 48 [c] (by rw [e, hm]; rfl) rfl
        · exact z
      refine ⟨10 * m + (c - 48), ?_⟩
      rw [numL_step (by omega), show (10 * m + (c - 48)) / 10 = m by omega, show (10 * m + (c - 48)) % 10 = c - 48 by omega, ← hm, show 48 + (c - 48) = c by omega]
      exact e
theorem numL_lt10 (n : Nat) : n < 10 ^ (numL n).length := by
  induction n using Nat.strongRecOn with
  | _ n ih =>
    by_cases h : n < 10
    · rw [numL_lt h]
      simpa using h
    · have := ih (n / 10) (by omega)
      rw [numL_step (by omega), List.length_append, List.length_singleton, Nat.pow_succ]
      omega
theorem tS_inj {m n : Nat} (h : tS (m : Int) = tS (n : Int)) : m = n := numL_inj (by rw [← tl_tS, ← tl_tS, h])
open Classical in
/-- the whole number below 10^60 that a text writes, -1 for none -/
noncomputable def wh (x : Str) : Int := if h : ∃ n : Nat, n < 10 ^ 60 ∧ x = tS (n : Int) then ((choose h : Nat) : Int) else -1
theorem wh_num {n : Nat} (h : n < 10 ^ 60) : wh (tS (n : Int)) = (n : Int) := by
  have he : ∃ m : Nat, m < 10 ^ 60 ∧ tS (n : Int) = tS (m : Int) := ⟨n, h, rfl⟩
  unfold wh
  rw [dif_pos he]
  have := (Classical.choose_spec he).2
  rw [← tS_inj this]
theorem wh_no {x : Str} (h : ¬ ∃ n : Nat, n < 10 ^ 60 ∧ x = tS (n : Int)) : wh x = -1 := by
  unfold wh
  rw [dif_neg h]
theorem wh_cases (x : Str) : (∃ n : Nat, n < 10 ^ 60 ∧ x = tS (n : Int) ∧ wh x = (n : Int)) ∨ ((¬ ∃ n : Nat, n < 10 ^ 60 ∧ x = tS (n : Int)) ∧ wh x = -1) := by
  by_cases h : ∃ n : Nat, n < 10 ^ 60 ∧ x = tS (n : Int)
  · obtain ⟨n, h1, h2⟩ := h
    exact .inl ⟨n, h1, h2, by rw [h2]; exact wh_num h1⟩
  · exact .inr ⟨h, wh_no h⟩
theorem wh_lt (x : Str) : -1 ≤ wh x ∧ (wh x).natAbs < 10 ^ 60 := by
  have p : 1 < 10 ^ 60 := by decide
  rcases wh_cases x with ⟨n, h1, _, h3⟩ | ⟨_, h⟩
  · rw [h3]; omega
  · rw [h]; omega
/-- why a text is no number's -/
theorem bad_of {x : Str} (h : ¬ ∃ n : Nat, n < 10 ^ 60 ∧ x = tS (n : Int)) : tl x = [] ∨ 60 < (tl x).length ∨ (1 < (tl x).length ∧ ∃ r, tl x = 48 :: r) ∨ ∃ u c v, tl x = u ++ c :: v ∧ Dig u ∧ ¬ (48 ≤ c ∧ c ≤ 57) := by
  by_cases h1 : tl x = []
  · exact .inl h1
  by_cases h2 : 60 < (tl x).length
  · exact .inr (.inl h2)
  by_cases h3 : 1 < (tl x).length ∧ ∃ r, tl x = 48 :: r
  · exact .inr (.inr (.inl h3))
  refine .inr (.inr (.inr ?_))
  refine Classical.byContradiction fun hn => ?_
  have hd : Dig (tl x) := by
    clear h h1 h2 h3
    generalize tl x = l at *
    have key : ∀ (w u : List Nat), l = u ++ w → Dig u → Dig w := by
      intro w
      induction w with
      | nil => intro u _ _ c hc; cases hc
      | cons c w ih =>
        intro u e hu
        by_cases hc : 48 ≤ c ∧ c ≤ 57
        · have := ih (u ++ [c]) (by rw [e]; simp) (fun d hd => by
            rcases List.mem_append.mp hd with hd | hd
            · exact hu d hd
            · rw [List.mem_singleton.mp hd]; exact hc)
          intro d hd
          rcases List.mem_cons.mp hd with rfl | hd
          · exact hc
          · exact this d hd
        · exact absurd ⟨u, c, w, e, hu, hc⟩ hn
    exact key l [] rfl (fun c hc => by cases hc)
  obtain ⟨n, hn⟩ := num_snoc _ (tl x) rfl h1 hd (fun hl c r e ec => h3 ⟨hl, r, by rw [e, ec]⟩)
  refine h ⟨n, ?_, ext_tl (by rw [tl_tS]; exact hn)⟩
  have := numL_lt10 n
  rw [← hn] at this
  exact Nat.lt_of_lt_of_le this (Nat.pow_le_pow_right (by decide) (by omega))
theorem digit_out {c : Nat} (h : ¬ (48 ≤ c ∧ c ≤ 57)) : c ∉ (Str.ofString "0123456789").cps.toList := by
  rw [show (Str.ofString "0123456789").cps.toList = [48, 49, 50, 51, 52, 53, 54, 55, 56, 57] from digits10]
  intro hm
  simp at hm
  omega
theorem notin_dig (c : Nat) : bopD .notin (.str ⟨#[c]⟩) (.str "0123456789") = some (.bl (!decide (48 ≤ c ∧ c ≤ 57))) := by
  rw [b_notin_str, chkO_pos (show (⟨#[c]⟩ : Str).cps.size = 1 from rfl)]
  have e : decide ((⟨#[c]⟩ : Str).cps.getD 0 0 ∈ (Str.ofString "0123456789").cps.toList) = decide (48 ≤ c ∧ c ≤ 57) := by
    by_cases h : 48 ≤ c ∧ c ≤ 57
    · rw [decide_eq_true h]
      exact decide_eq_true (digit_in h)
    · rw [decide_eq_false h]
      exact decide_eq_false (digit_out h)
  rw [e]
/-- a loop that passes some and returns at one -/
theorem forGo_pre {f : D → Env → Out} {clr : List Nat} {env : Env} {d y : D} {ys : List D} (hy : f y env = .rt d) : ∀ {xs : List D}, (∀ x ∈ xs, ∃ e', f x env = .nx e' ∧ wipeE e' clr = env) → forGo f clr (xs ++ y :: ys) env = .rt d
  | [], _ => forGo_rt hy
  | x :: xs, h => by
    obtain ⟨e', h1, h2⟩ := h x List.mem_cons_self
    rw [List.cons_append, forGo, h1]
    show forGo f clr (xs ++ y :: ys) (wipeE e' clr) = _
    rw [h2]
    exact forGo_pre hy fun z m => h z (List.mem_cons_of_mem _ m)
end Z

namespace Z
open L3
open PySem (Str PyData)
open TL
/-- a text of few plain signs -/
structure Low (x : Str) : Prop where
  len : x.length ≤ 1000
  cod : ∀ c ∈ tl x, c < 128
theorem sign_ok {c : Nat} (h : c < 128) : PyData.strOk ⟨#[c]⟩ = true := strOk_of fun d hd => by
  have : d = c := by simpa [tl] using hd
  omega
theorem head_ix {x : Str} {c : Nat} {r : List Nat} (h : tl x = c :: r) (hl : x.length ≤ 1000) : bopD .ix (.str x) (.int 0) = some (.str ⟨#[c]⟩) := by
  rw [b_ix_str, chkO_pos (by omega), show x.cps.toList = c :: r from h, atI_0]
  rfl
theorem one_zero (c : Nat) : ((⟨#[c]⟩ : Str) == Str.ofString "0") = decide (c = 48) := by
  by_cases h : c = 48
  · subst h; decide +kernel
  · rw [decide_eq_false h]
    exact ne_str (by rw [tl_zero]; intro z; have z : [c] = [48] := z; exact h (by simpa using z))
theorem len_of {x : Str} {l : List Nat} (h : tl x = l) : x.length = l.length := by rw [len_tl, h]
theorem eq_empty (x : Str) : (x == Str.ofString "") = decide (tl x = []) := by
  by_cases h : tl x = []
  · rw [decide_eq_true h]
    have : x = Str.ofString "" := ext_tl (by rw [h, tl_empty])
    rw [this]
    simp
  · rw [decide_eq_false h]
    exact ne_str (by rw [tl_empty]; exact h)
theorem r_figs' {x : Str} (h : Low x) : g_p_figures_of [.str x, .int 60] = .ok (.int (wh x)) := by
  rcases wh_cases x with ⟨n, h1, h2, h3⟩ | ⟨h1, h2⟩
  · rw [h3, h2]
    exact r_figs h1
  rw [h2]
  have hb := bad_of h1
  have hl := h.len
  have e1 := eq_empty x
  have e2 : fnD .len [.str x] = some (.int x.length) := by rw [f_len_str, chkO_pos (by omega)]
  have ok := strOk_of h.cod
  have ok0 := ok_empty
  have ok1 := ok_zero
  have lt := len_tl x
  unfold g_p_figures_of
  refine run_rt (env := [some (.str x), some (.int 60), none]) rfl ?_
  unfold s_p_figures_of
  dsimp only
  by_cases c1 : tl x = []
  · rw [decide_eq_true c1] at e1
    exact execs_rt (by simp [ok, ok0, e1])
  rw [decide_eq_false c1] at e1
  by_cases c2 : 60 < (tl x).length
  · exact execs_rt (by simp [ok, ok0, e1, e2, -f_len_str, show (60 : Int) < (x.length : Int) by omega])
  obtain ⟨c, r, hc⟩ : ∃ c r, tl x = c :: r := by
    cases hx : tl x with
    | nil => exact absurd hx c1
    | cons c r => exact ⟨c, r, rfl⟩
  have e3 := head_ix hc hl
  have ok2 := sign_ok (h.cod c (by rw [hc]; exact List.mem_cons_self))
  have e4 := one_zero c
  by_cases c3 : 1 < (tl x).length ∧ c = 48
  · rw [decide_eq_true c3.2] at e4
    exact execs_rt (by simp [ok, ok0, ok1, ok2, e1, e2, e3, e4, -b_ix_str, -f_len_str, show ¬ (60 : Int) < (x.length : Int) by omega, show (1 : Int) < (x.length : Int) by omega])
  refine (execs_nx (env' := [some (.str x), some (.int 60), none]) (by
    by_cases z : 1 < (tl x).length
    · rw [decide_eq_false (fun z2 => c3 ⟨z, z2⟩)] at e4
      simp [ok, ok0, ok1, ok2, e1, e2, e3, e4, -b_ix_str, -f_len_str, show ¬ (60 : Int) < (x.length : Int) by omega, show (1 : Int) < (x.length : Int) by omega]
    · simp [ok, ok0, e1, e2, -f_len_str, show ¬ (60 : Int) < (x.length : Int) by omega, show ¬ (1 : Int) < (x.length : Int) by omega])).trans ?_
  rcases hb with hb | hb | hb | ⟨u, d, v, hx, hu, hd⟩
  · exact absurd hb c1
  · exact absurd hb c2
  · obtain ⟨z1, r', z2⟩ := hb
    rw [hc] at z2
    exact absurd ⟨z1, (List.cons.inj z2).1⟩ c3
  refine execs_rt ?_
  unfold w_p_figures_of_1
  have hi := it_sqs x (by omega)
  have hx' : x.cps.toList = u ++ d :: v := hx
  simp [hi]
  rw [hx', List.map_append, List.map_cons]
  refine forGo_pre ?_ fun y m => ?_
  · have en := notin_dig d
    rw [decide_eq_false hd] at en
    simp [b_p_figures_of_1, en, -b_notin_str]
  · obtain ⟨c', hc', rfl⟩ := List.mem_map.mp m
    have en := notin_dig c'
    rw [decide_eq_true (hu c' hc')] at en
    refine ⟨[some (.str x), some (.int 60), some (.str ⟨#[c']⟩)], ?_, rfl⟩
    simp [b_p_figures_of_1, en, -b_notin_str]
theorem r_whole {x : Str} (h : Low x) : g_l_whole [.str x] = .ok (.int (wh x)) := by
  have hb : (¬ ∃ n : Nat, n < 10 ^ 60 ∧ x = tS (n : Int)) → _ := bad_of (x := x)
  have hl := h.len
  have e2 : fnD .len [.str x] = some (.int x.length) := by rw [f_len_str, chkO_pos (by omega)]
  have ok := strOk_of h.cod
  have ok1 := ok_zero
  have lt := len_tl x
  have hnum : ∀ n : Nat, n < 10 ^ 60 → x = tS (n : Int) → tl x ≠ [] ∧ ¬ 60 < (tl x).length ∧ (1 < (tl x).length → ∀ c r, tl x = c :: r → c ≠ 48) ∧ Dig (tl x) ∧ PySem.intText? x = some (n : Int) := fun n hn e => by
    have ht : tl x = numL n := by rw [e, tl_tS]
    have h60 : (numL n).length ≤ 60 := numL_len (by decide) hn
    refine ⟨by rw [ht]; exact numL_ne n, by rw [ht]; omega, fun z c r e' => ?_, by rw [ht]; exact numL_dig n, ?_⟩
    · rw [ht] at z e'
      by_cases z0 : n < 10
      · rw [numL_lt z0] at z
        simp at z
      · obtain ⟨c', r', e2, hc⟩ := head_num n (by omega)
        rw [e'] at e2
        rw [(List.cons.inj e2).1]
        exact hc
    · rw [e]
      exact int_num (by omega)
  unfold g_l_whole
  refine run_rt (env := [some (.str x), none]) rfl ?_
  unfold s_l_whole
  dsimp only
  by_cases c1 : tl x = []
  · have hw : wh x = -1 := wh_no fun ⟨n, hn, e⟩ => (hnum n hn e).1 c1
    have hz : x.length = 0 := by rw [lt, c1]; rfl
    rw [hw]
    exact execs_rt (by simp [ok, e2, hz, -f_len_str])
  by_cases c2 : 60 < (tl x).length
  · have hw : wh x = -1 := wh_no fun ⟨n, hn, e⟩ => (hnum n hn e).2.1 c2
    rw [hw]
    exact execs_rt (by simp [ok, e2, -f_len_str, show (60 : Int) < (x.length : Int) by omega, show ¬ x.length = 0 by omega])
  obtain ⟨c, r, hc⟩ : ∃ c r, tl x = c :: r := by
    cases hx : tl x with
    | nil => exact absurd hx c1
    | cons c r => exact ⟨c, r, rfl⟩
  have hpos : 0 < x.length := by rw [lt, hc]; simp
  have e3 := head_ix hc hl
  have ok2 := sign_ok (h.cod c (by rw [hc]; exact List.mem_cons_self))
  have e4 := one_zero c
  by_cases c3 : 1 < (tl x).length ∧ c = 48
  · have hw : wh x = -1 := wh_no fun ⟨n, hn, e⟩ => (hnum n hn e).2.2.1 c3.1 c r hc c3.2
    rw [hw]
    rw [decide_eq_true c3.2] at e4
    exact execs_rt (by simp [ok, ok1, ok2, e2, e3, e4, -b_ix_str, -f_len_str, show ¬ (60 : Int) < (x.length : Int) by omega, show (1 : Int) < (x.length : Int) by omega, show ¬ x.length = 0 by omega])
  refine (execs_nx (env' := [some (.str x), none]) (by
    by_cases z : c = 48
    · rw [decide_eq_true z] at e4
      simp [ok, ok1, ok2, e2, e3, e4, -b_ix_str, -f_len_str, show ¬ (60 : Int) < (x.length : Int) by omega, show ¬ (1 : Int) < (x.length : Int) by omega, show ¬ x.length = 0 by omega]
    · rw [decide_eq_false z] at e4
      simp [ok, ok1, ok2, e2, e3, e4, -b_ix_str, -f_len_str, show ¬ (60 : Int) < (x.length : Int) by omega, show ¬ x.length = 0 by omega])).trans ?_
  have hi := it_sqs x (by omega)
  rcases wh_cases x with ⟨n, h1, h2, h3⟩ | ⟨h1, h2⟩
  · obtain ⟨_, _, _, hd, hint⟩ := hnum n h1 h2
    rw [h3]
    have loop : L3.exec T_l_whole w_l_whole_1 [some (.str x), none] = .nx [some (.str x), none] := by
      unfold w_l_whole_1
      simp [hi]
      refine forGo_same fun y m => ?_
      obtain ⟨c', hc', rfl⟩ := List.mem_map.mp m
      have en := notin_dig c'
      rw [decide_eq_true (hd c' hc')] at en
      refine ⟨[some (.str x), some (.str ⟨#[c']⟩)], ?_, rfl⟩
      simp [b_l_whole_1, en, -b_notin_str]
    refine (execs_nx loop).trans ?_
    refine execs_rt ?_
    have e5 : fnD .int [.str x] = some (.int (n : Nat)) := by rw [f_intS, chkO_pos (by omega), hint]; rfl
    simp [e5]
  · rw [h2]
    rcases hb h1 with hb | hb | hb | ⟨u, d, v, hx, hu, hd⟩
    · exact absurd hb c1
    · exact absurd hb c2
    · obtain ⟨z1, r', z2⟩ := hb
      rw [hc] at z2
      exact absurd ⟨z1, (List.cons.inj z2).1⟩ c3
    refine execs_rt ?_
    unfold w_l_whole_1
    have hx' : x.cps.toList = u ++ d :: v := hx
    simp [hi]
    rw [hx', List.map_append, List.map_cons]
    refine forGo_pre ?_ fun y m => ?_
    · have en := notin_dig d
      rw [decide_eq_false hd] at en
      simp [b_l_whole_1, en, -b_notin_str]
    · obtain ⟨c', hc', rfl⟩ := List.mem_map.mp m
      have en := notin_dig c'
      rw [decide_eq_true (hu c' hc')] at en
      refine ⟨[some (.str x), some (.str ⟨#[c']⟩)], ?_, rfl⟩
      simp [b_l_whole_1, en, -b_notin_str]
end Z

namespace Z
open L3
open PySem (Str PyData)
open TL
/-! ### any text in pieces at its strokes -/
theorem sl_mk : Str.ofString "/" = (⟨#[47]⟩ : Str) := ext_tl (by rw [tl_sl])
theorem join_mem {y p : Str} {c : Nat} : ∀ {ps : List Str}, p ∈ ps → c ∈ tl p → c ∈ tl (PySem.Str.join y ps)
  | [q], hp, hc => by
    rw [List.mem_singleton.mp hp] at hc
    exact hc
  | q :: r :: rs, hp, hc => by
    show c ∈ tl (q ++ y ++ PySem.Str.join y (r :: rs))
    rw [tl_append, tl_append]
    rcases List.mem_cons.mp hp with rfl | hp
    · exact List.mem_append_left _ (List.mem_append_left _ hc)
    · exact List.mem_append_right _ (join_mem hp hc)
theorem split_facts (x : Str) : PySem.Txt.split x "/" ≠ [] ∧ PySem.Str.join "/" (PySem.Txt.split x "/") = x ∧ (∀ p ∈ PySem.Txt.split x "/", 47 ∉ tl p ∧ p.length ≤ x.length ∧ ∀ c ∈ tl p, c ∈ tl x) := by
  have h1 := PyProof.Rows.split_pos x "/"
  have h2 := PySem.StrLaws.join_split x "/"
  refine ⟨fun e => by rw [e] at h1; simp at h1, h2, fun p hp => ⟨?_, PyProof.Rows.part_short hp, fun c hc => ?_⟩⟩
  · have := PySem.StrLaws.split_free x 47 p
    rw [← sl_mk] at this
    exact this hp
  · have := join_mem (y := "/") hp hc
    rw [h2] at this
    exact this
theorem low_part {x p : Str} (h : Low x) (hp : p ∈ PySem.Txt.split x "/") : Low p := by
  obtain ⟨_, _, h3⟩ := split_facts x
  obtain ⟨_, h4, h5⟩ := h3 p hp
  exact ⟨Nat.le_trans h4 h.len, fun c hc => h.cod c (h5 c hc)⟩
/-- where the first stroke stands -/
theorem find_facts (x : Str) : (PySem.Txt.find x "/" = -1 ∧ 47 ∉ tl x) ∨ ∃ u v, tl x = u ++ 47 :: v ∧ 47 ∉ u ∧ PySem.Txt.find x "/" = (u.length : Int) := by
  have hat : ∀ i, PySem.StrLaws.At x ⟨#[47]⟩ x.length i ↔ (tl x)[i]? = some 47 := fun i => PySem.StrLaws.subAt_one x 47 i
  have hf := PyProof.Rows.find_whole x ⟨#[47]⟩
  rw [show PySem.Txt.find x "/" = PySem.Txt.find x ⟨#[47]⟩ by rw [show ("/" : Str) = (⟨#[47]⟩ : Str) from sl_mk]]
  rcases hf with ⟨h1, h2⟩ | ⟨i, h1, h2, h3⟩
  · refine .inl ⟨h1, fun m => ?_⟩
    obtain ⟨i, hi⟩ := List.getElem?_of_mem m
    exact h2 i ((hat i).mpr hi)
  · have hi := (hat i).mp h2
    obtain ⟨hlt, he⟩ := List.getElem?_eq_some_iff.mp hi
    refine .inr ⟨(tl x).take i, (tl x).drop (i + 1), ?_, fun m => ?_, ?_⟩
    · rw [← he, ← List.drop_eq_getElem_cons hlt, List.take_append_drop]
    · obtain ⟨k, hk⟩ := List.getElem?_of_mem m
      obtain ⟨hk1, hk2⟩ := List.getElem?_eq_some_iff.mp hk
      rw [List.length_take] at hk1
      rw [List.getElem?_take_of_lt (by omega)] at hk
      exact h3 k (by omega) ((hat k).mpr hk)
    · rw [h1, List.length_take]
      have : min i (tl x).length = i := by omega
      rw [this]
theorem cut_at {u v u' v' : List Nat} (h : u ++ 47 :: v = u' ++ 47 :: v') (h1 : 47 ∉ u) (h2 : 47 ∉ u') : u = u' ∧ v = v' := by
  induction u generalizing u' with
  | nil =>
    cases u' with
    | nil => exact ⟨rfl, by simpa using h⟩
    | cons c r =>
      have := (List.cons.inj h).1
      exact absurd (this ▸ List.mem_cons_self) h2
  | cons c r ih =>
    cases u' with
    | nil =>
      have := (List.cons.inj h).1
      exact absurd (this ▸ List.mem_cons_self) h1
    | cons d s =>
      obtain ⟨e1, e2⟩ := List.cons.inj h
      obtain ⟨e3, e4⟩ := ih e2 (fun m => h1 (List.mem_cons_of_mem _ m)) (fun m => h2 (List.mem_cons_of_mem _ m))
      exact ⟨by rw [e1, e3], e4⟩
/-- a text that writes the ratio a -/
structure Good (x : Str) (a : Int × Int) : Prop where
  t : a.1.natAbs < 10 ^ 60
  b1 : 1 ≤ a.2
  b2 : a.2.natAbs < 10 ^ 60
  g : gcdN a.1 a.2 = 1
  e : x = shS a
theorem good_low {x : Str} {a : Int × Int} (h : Good x a) : lowI a.1 a.2 = a := by
  have hb := h.b1
  unfold lowI
  rw [if_neg (by omega), h.g]
  simp
theorem good_read {x : Str} {a : Int × Int} (h : Good x a) : g_p_read [.str x] = .ok (.tup [.int a.1, .int a.2]) := by
  have p6 : (10 : Nat) ^ 60 ≤ 10 ^ 600 := by decide +kernel
  have h1 := h.t
  have h2 := h.b1
  have h3 := h.b2
  have hra := r_ratio a.1 a.2 (by omega) (by omega)
  rw [good_low h] at hra
  rw [h.e]
  exact r_read h1 h2 h3 hra
theorem low_cut {x : Str} (h : Low x) : Low (L2.cutS x (some 1) none) := by
  have e := tl_drop1 x
  refine ⟨?_, fun c hc => ?_⟩
  · rw [len_tl, e, List.length_drop]
    have := h.len
    rw [len_tl] at this
    omega
  · rw [e] at hc
    exact h.cod c (List.mem_of_mem_drop hc)
theorem low_good {V B : Int} (hV : V.natAbs < 10 ^ 60) (h1 : 1 ≤ B) (h2 : B.natAbs < 10 ^ 60) : Good (shS (lowI V B)) (lowI V B) := by
  obtain ⟨q1, q2, q3⟩ := low_ok V B (by omega)
  have hg := gcd_pos (a := V) (b := B) (by omega)
  have hd : gcdN V B ∣ B := Int.gcd_dvd_right ..
  have hp : 0 < B / gcdN V B := Int.ediv_pos_of_pos_of_dvd (by omega) (by omega) hd
  have e : lowI V B = (V / gcdN V B, B / gcdN V B) := by
    unfold lowI
    rw [if_neg (by omega), Int.fdiv_eq_ediv_of_nonneg _ (by omega), Int.fdiv_eq_ediv_of_nonneg _ (by omega)]
  have h1' : gcdN (V / gcdN V B) (B / gcdN V B) = 1 := by
    unfold gcdN at hg ⊢
    rw [Int.gcd_ediv_gcd_ediv_gcd (by omega)]
    rfl
  refine ⟨by omega, by rw [e]; exact hp, by omega, by rw [e]; exact h1', rfl⟩
end Z

namespace Z
open L3
open PySem (Str PyData)
open TL
/-! ### read refuses what is not written as told -/
theorem lc_figs {ps : List Str} (h : ∀ p ∈ ps, Low p) (hl : ps.length ≤ 1000000) {fl : Fl} (e0 e1 e3 e4 : Option D) :
    ev T_p_read (.lc .sql (.cons (.var 2) .nil) (.one 5) .hole (.call 2 (.cons (.var 5) (.cons (.glo 0) .nil)))) [e0, e1, some (.lst fl (ps.map .str)), e3, e4, none] = .ok (.lst .own (ps.map fun p => .int (wh p))) := by
  rw [ev]
  simp [items]
  rw [lcGo_map (e := D.str) (g := fun p => D.int (wh p)) fun p hp => by simp [r_figs' (h p hp)]]
  simp [hl]
theorem split_low {x : Str} (h : Low x) : (PySem.Txt.split x "/").length ≤ 1000000 := by
  have := PyProof.Rows.split_le x "/"
  have := h.len
  omega
theorem read_end {x : Str} (h : Low x) (hb : ¬ ∃ a, Good x a) {s n0 n1 : Int} (hs : s = -1 ∨ s = 1) (h0 : 0 ≤ n0) (h1 : n0.natAbs < 10 ^ 60) (h2 : 1 ≤ n1) (h3 : n1.natAbs < 10 ^ 60) {ps : List D} {t : List D} :
    ∃ e', execs T_p_read (.cons (.asg 4 true (.p (.call 1 (.cons (.bin .mul (.var 1) (.bin .ix (.var 3) (.int 0))) (.cons (.bin .ix (.var 3) (.int 1)) .nil))))) (.cons (.ifs (.bin .ne
  (.call 0 (.cons (.var 4) .nil)) (.var 0))
 (.cons (.rais "NoText") .nil)
 .nil) (.cons (.ret (.p (.var 4))) .nil))) [some (.str x), some (.int s), some (.lst .own ps), some (.lst .fz (.int n0 :: .int n1 :: t)), none, none] = .ex "NoText" e' := by
  have p6 : (10 : Nat) ^ 60 ≤ 10 ^ 600 := by decide +kernel
  have p60 : (10 : Nat) ^ 60 < 10 ^ 300 := by decide +kernel
  have hV : (s * n0).natAbs < 10 ^ 60 := by rcases hs with rfl | rfl <;> omega
  haveI : Bd s 2 := ⟨by rcases hs with e | e <;> rw [e] <;> decide⟩
  haveI : Bd n0 250 := ⟨Nat.lt_trans h1 (by decide +kernel)⟩
  have hra := r_ratio (s * n0) n1 (by omega) (by omega)
  have hg := low_good hV h2 h3
  generalize lowI (s * n0) n1 = a at *
  have ht := hg.t
  have hb2 := hg.b2
  have hsh := r_shown (a := a) (by omega) (by omega)
  have ok1 := strOk_of (low_sh a)
  have ok2 := strOk_of h.cod
  have hne : (shS a == x) = false := beq_eq_false_iff_ne.mpr fun e => hb ⟨a, by rw [← e]; exact hg⟩
  generalize shS a = y at *
  have hra : g_p_ratio [.int (s * n0), .int n1] = .ok (.tup [.int a.1, .int a.2]) := hra
  refine ⟨[some (.str x), some (.int s), some (.lst .own ps), some (.lst .fz (.int n0 :: .int n1 :: t)), some (.tup [.int a.1, .int a.2]), none], ?_⟩
  refine (execs_nx (env' := [some (.str x), some (.int s), some (.lst .own ps), some (.lst .fz (.int n0 :: .int n1 :: t)), some (.tup [.int a.1, .int a.2]), none]) (by simp [hra])).trans ?_
  exact execs_ex (by simp [hsh, ok1, ok2, hne, errsL])
theorem r_read_bad {x : Str} (h : Low x) (hb : ¬ ∃ a, Good x a) : g_p_read [.str x] = .ex "NoText" := by
  obtain ⟨f1, f2, f3⟩ := split_facts x
  have hlow : ∀ p ∈ PySem.Txt.split x "/", Low p := fun p hp => low_part h hp
  have hmany := split_low h
  have hl := h.len
  have okx := strOk_of h.cod
  have okm := ok_mi
  have hsp : mthD .split (.str x) [.str "/"] = some (.lst .own ((PySem.Txt.split x "/").map .str)) := by
    show chkO _ _ = _
    rw [chkO_pos ⟨by decide +kernel, by omega⟩]
  obtain ⟨p, ps, hps⟩ : ∃ p ps, PySem.Txt.split x "/" = p :: ps := by
    cases hx : PySem.Txt.split x "/" with
    | nil => exact absurd hx f1
    | cons p ps => exact ⟨p, ps, rfl⟩
  rw [hps] at hsp hlow hmany
  clear f1 f2 f3 hps
  have hp := hlow p List.mem_cons_self
  have hc1 := slc_str x none (some 1) (by omega)
  have okc : PyData.strOk (L2.cutS x none (some 1)) = true := strOk_of fun c hc => by
    rw [tl_take1] at hc
    exact h.cod c (List.mem_of_mem_take hc)
  have hc2 := slc_str p (some 1) none (by have := hp.len; omega)
  have hq0 := low_cut hp
  obtain ⟨s, q, hs, hq, step⟩ : ∃ (s : Int) (q : Str), (s = -1 ∨ s = 1) ∧ Low q ∧
      L3.exec T_p_read (.ifs (.bin .eq (.slc (.var 0) .hole (.int 1)) (.str "-"))
        (.cons (.asg 1 false (.p (.un .neg (.int 1)))) (.cons (.setix 2 (.int 0) (.p (.slc (.bin .ix (.var 2) (.int 0)) (.int 1) .hole))) .nil)) .nil)
        [some (.str x), some (.int 1), some (.lst .own ((p :: ps).map .str)), none, none, none] = .nx [some (.str x), some (.int s), some (.lst .own ((q :: ps).map .str)), none, none, none] := by
    have e0 : L2.ixN (ps.length + 1) 0 = some 0 := by simp [L2.ixN]
    by_cases z : (L2.cutS x none (some 1) == Str.ofString "-") = true
    · refine ⟨-1, L2.cutS p (some 1) none, .inl rfl, hq0, ?_⟩
      simp [hc1, hc2, z, okc, okm, e0]
    · have z : (L2.cutS x none (some 1) == Str.ofString "-") = false := by simpa using z
      refine ⟨1, p, .inr rfl, hp, ?_⟩
      simp [hc1, z, okc, okm]
  have hlow2 : ∀ r ∈ q :: ps, Low r := fun r hr => by
    rcases List.mem_cons.mp hr with rfl | hr
    · exact hq
    · exact hlow r (List.mem_cons_of_mem _ hr)
  have hlc := lc_figs hlow2 (by simpa using hmany) (fl := .own) (some (.str x)) (some (.int s)) none none
  clear hlow hq0 hc2 hc1 okc
  suffices ∃ e', execs T_p_read s_p_read.body [some (.str x), none, none, none, none, none] = .ex "NoText" e' by
    obtain ⟨e', h'⟩ := this
    unfold g_p_read
    exact run_ex (env := [some (.str x), none, none, none, none, none]) rfl h'
  unfold s_p_read
  dsimp only
  rw [execs_nx (env' := [some (.str x), some (.int 1), none, none, none, none]) (by simp)]
  have tyS : tyM .split (.str x) = true := rfl
  rw [execs_nx (env' := [some (.str x), some (.int 1), some (.lst .own ((p :: ps).map .str)), none, none, none]) (by simp [hsp, tyS])]
  rw [execs_nx step]
  have w0 := wh_lt q
  have hm8 : ps.length ≤ 15999998 := by
    rw [List.length_cons] at hmany
    omega
  rw [execs_nx (env' := [some (.str x), some (.int s), some (.lst .own ((q :: ps).map .str)), some (.lst .fz (.int (wh q) :: (ps.map (fun r => D.int (wh r)) ++ [.int 1]))), none, none]) (by
    simp only [exec, evm, ↓hlc, ev, evs, Res.bind_ok]
    simp [hm8])]
  have m2 : ∀ x y : Int, minL [x, y] = min x y := fun x y => rfl
  have m3 : ∀ x y z : Int, minL [x, y, z] = min x (min y z) := fun x y z => rfl
  have i2 : ∀ x y : Int, intsD [.int x, .int y] = some [x, y] := fun x y => rfl
  have i3 : ∀ x y z : Int, intsD [.int x, .int y, .int z] = some [x, y, z] := fun x y z => rfl
  match ps, hlow2 with
  | [], _ =>
    by_cases z : wh q < 0
    · refine ⟨_, execs_ex (by simp [m2, i2, show min (wh q) 1 < 0 by omega, errsL]; rfl)⟩
    · rw [execs_ifF (env' := [some (.str x), some (.int s), some (.lst .own ([q].map .str)), some (.lst .fz (.int (wh q) :: .int 1 :: [])), none, none]) (by simp [m2, i2, show ¬ min (wh q) 1 < 0 by omega]) rfl]
      exact read_end h hb hs (by omega) w0.2 (by decide) (by decide)
  | [r], _ =>
    have w1 := wh_lt r
    by_cases z : min (wh q) (min (wh r) 1) < 0
    · refine ⟨_, execs_ex (by simp [m3, i3, z, errsL]; rfl)⟩
    · by_cases z0 : wh r = 0
      · rw [z0] at z
        refine ⟨_, execs_ex (by simp [m3, i3, z, z0, errsL]; rfl)⟩
      · rw [execs_ifF (env' := [some (.str x), some (.int s), some (.lst .own ([q, r].map .str)), some (.lst .fz (.int (wh q) :: .int (wh r) :: [.int 1])), none, none]) (by simp [m3, i3, z, z0]) rfl]
        exact read_end h hb hs (by omega) w0.2 (by omega) w1.2
  | r :: t :: rest, _ =>
    refine ⟨_, execs_ex (by simp [errsL, show (2 : Int) < (rest.length : Int) + 1 + 1 + 1 by omega]; rfl)⟩
end Z

namespace Z
open L3
open PySem (Str PyData)
open TL
/-! ### the law's own reading -/
theorem take1T {x : Str} {r : List Nat} (hr : tl x = 45 :: r) : (L2.cutS x none (some 1) == Str.ofString "-") = true := by
  have e := tl_take1 x
  have : L2.cutS x none (some 1) = Str.ofString "-" := ext_tl (by rw [e, hr, tl_mi]; rfl)
  rw [this]
  simp
theorem take1F {x : Str} (z : ¬ ∃ r, tl x = 45 :: r) : (L2.cutS x none (some 1) == Str.ofString "-") = false := by
  have e := tl_take1 x
  refine ne_str fun e2 => z ?_
  rw [e, tl_mi] at e2
  cases hx : tl x with
  | nil => rw [hx] at e2; simp at e2
  | cons c r =>
    rw [hx] at e2
    exact ⟨r, by simpa using e2⟩
theorem cut_pre {y : Str} {u v : List Nat} (h : tl y = u ++ 47 :: v) (hl : y.length ≤ 1000) : slcD (.str y) none (some (u.length : Int)) = some (.str ⟨u.toArray⟩) ∧ slcD (.str y) (some ((u.length : Int) + 1)) none = some (.str ⟨v.toArray⟩) := by
  have hlen : y.length = u.length + (v.length + 1) := by rw [len_tl, h]; simp
  have h' : y.cps.toList = u ++ 47 :: v := h
  constructor
  · rw [slc_str _ _ _ (by omega)]
    unfold L2.cutS
    rw [HT.sIx_none, HT.sIx_nat, h', show min u.length y.length = u.length by omega]
    simp
  · rw [slc_str _ _ _ (by omega)]
    unfold L2.cutS
    have e : HT.sIx y.length 0 (some ((u.length : Int) + 1)) = min (u.length + 1) y.length := HT.sIx_nat _ _ (u.length + 1)
    rw [HT.sIx_none, e, h', show min (u.length + 1) y.length = u.length + 1 by omega, hlen]
    congr 3
    rw [show u.length + (v.length + 1) - (u.length + 1) = v.length by omega]
    simp [List.drop_append, List.drop_of_length_le (show u.length ≤ u.length + 1 by omega)]
theorem sgn_split (x : Str) : ∃ (s : Int) (y : Str), (s = 1 ∧ y = x ∧ ¬ ∃ r, tl x = 45 :: r) ∨ (s = -1 ∧ y = L2.cutS x (some 1) none ∧ ∃ r, tl x = 45 :: r ∧ tl y = r) := by
  by_cases z : ∃ r, tl x = 45 :: r
  · obtain ⟨r, hr⟩ := z
    exact ⟨-1, L2.cutS x (some 1) none, .inr ⟨rfl, rfl, r, hr, by rw [tl_drop1, hr]; rfl⟩⟩
  · exact ⟨1, x, .inl ⟨rfl, rfl, z⟩⟩
theorem no_mi {n : Nat} {t : List Nat} : ¬ ∃ r, numL n ++ t = 45 :: r := fun ⟨r, hr⟩ => by
  have hd := numL_dig n
  cases hq : numL n with
  | nil => exact numL_ne n hq
  | cons c w =>
    rw [hq] at hr hd
    have := hd c List.mem_cons_self
    have := (List.cons.inj hr).1
    omega
theorem tl_sh (a : Int × Int) (h : 1 ≤ a.2) : tl (shS a) = (if a.1 < 0 then [45] else []) ++ (numL a.1.natAbs ++ (if 1 < a.2 then 47 :: numL a.2.natAbs else [])) := by
  have e1 : tl (tS a.1) = (if a.1 < 0 then [45] else []) ++ numL a.1.natAbs := by
    by_cases z : a.1 < 0
    · rw [if_pos z]
      have := tl_neg (n := a.1.natAbs) (by omega)
      rw [show -((a.1.natAbs : Nat) : Int) = a.1 by omega] at this
      exact this
    · rw [if_neg z]
      have := tl_tS a.1.natAbs
      rw [show ((a.1.natAbs : Nat) : Int) = a.1 by omega] at this
      exact this
  unfold shS
  by_cases z : 1 < a.2
  · rw [if_pos z, if_pos z, tl_append, tl_append, tl_sl, e1]
    have := tl_tS a.2.natAbs
    rw [show ((a.2.natAbs : Nat) : Int) = a.2 by omega] at this
    rw [this]
    simp
  · rw [if_neg z, if_neg z, e1]
    simp
/-- what the law finds in a text: sign, top, bottom, and whether there is a stroke -/
structure Fnd (x : Str) (s t b at_ : Int) : Prop where
  sb : s = 1 ∨ s = -1
  tb : -1 ≤ t ∧ t.natAbs < 10 ^ 60
  bb : -1 ≤ b ∧ b.natAbs < 10 ^ 60
  /-- it writes such a ratio -/
  good : 0 ≤ t → 1 ≤ b → ¬ (0 ≤ at_ ∧ b = 1) → ¬ (s < 0 ∧ t = 0) → gcdN t b = 1 → Good x (s * t, b)
  bad : ∀ a, Good x a → 0 ≤ t ∧ 1 ≤ b ∧ ¬ (0 ≤ at_ ∧ b = 1) ∧ ¬ (s < 0 ∧ t = 0) ∧ gcdN t b = 1
theorem gcd_sgn {s t b : Int} (hs : s = 1 ∨ s = -1) : gcdN (s * t) b = gcdN t b := by
  rcases hs with rfl | rfl
  · rw [Int.one_mul]
  · unfold gcdN
    simp [Int.neg_gcd]
theorem sh_neg {t b : Int} (ht : 0 < t) : shS (-1 * t, b) = Str.ofString "-" ++ shS (t, b) := by
  have e : tS (-1 * t) = Str.ofString "-" ++ tS t := by
    have := tS_neg (n := t.toNat) (by omega)
    rw [show -((t.toNat : Nat) : Int) = -1 * t by omega, show ((t.toNat : Nat) : Int) = t by omega] at this
    exact this
  unfold shS
  dsimp only
  rw [e]
  split
  · rw [app_assoc]
  · rfl
theorem fnd_mk {x y : Str} {s t b at_ : Int} (hsy : (s = 1 ∧ y = x ∧ ¬ ∃ r, tl x = 45 :: r) ∨ (s = -1 ∧ ∃ r, tl x = 45 :: r ∧ tl y = r))
    (hk : (at_ = -1 ∧ 47 ∉ tl y ∧ t = wh y ∧ b = 1) ∨ (0 ≤ at_ ∧ ∃ u v : Str, tl y = tl u ++ 47 :: tl v ∧ 47 ∉ tl u ∧ t = wh u ∧ b = wh v)) : Fnd x s t b at_ := by
  have hs : s = 1 ∨ s = -1 := by rcases hsy with ⟨h, _⟩ | ⟨h, _⟩ <;> simp [h]
  have xy : s = 1 → x = y := fun z => by
    rcases hsy with ⟨_, h, _⟩ | ⟨h, _⟩
    · exact h.symm
    · omega
  have xm : s = -1 → x = Str.ofString "-" ++ y := fun z => by
    rcases hsy with ⟨h, _⟩ | ⟨_, r, h1, h2⟩
    · omega
    · exact ext_tl (by rw [tl_append, tl_mi, h1, h2]; rfl)
  refine ⟨hs, ?_, ?_, ?_, ?_⟩
  · rcases hk with ⟨_, _, h, _⟩ | ⟨_, u, v, _, _, h, _⟩ <;> rw [h] <;> exact wh_lt _
  · rcases hk with ⟨_, _, _, h⟩ | ⟨_, u, v, _, _, _, h⟩
    · rw [h]; decide
    · rw [h]; exact wh_lt _
  · intro h1 h2 h3 h4 h5
    have num : ∀ w : Str, 0 ≤ wh w → w = tS (wh w) := fun w hw => by
      rcases wh_cases w with ⟨n, _, e1, e2⟩ | ⟨_, e⟩
      · rw [e2]; exact e1
      · omega
    have hy : y = shS (t, b) := by
      rcases hk with ⟨_, _, ht, hb⟩ | ⟨k1, u, v, k2, k3, ht, hb⟩
      · unfold shS
        dsimp only
        rw [if_neg (by omega), ht]
        exact num y (by omega)
      · have e1 := num u (by omega)
        have e2 := num v (by omega)
        unfold shS
        dsimp only
        rw [if_pos (by omega)]
        refine ext_tl ?_
        rw [k2, tl_append, tl_append, tl_sl, ht, hb, ← e1, ← e2]
        rfl
    have tb : t.natAbs < 10 ^ 60 := by rcases hk with ⟨_, _, h, _⟩ | ⟨_, u, v, _, _, h, _⟩ <;> rw [h] <;> exact (wh_lt _).2
    have bb : b.natAbs < 10 ^ 60 := by
      rcases hk with ⟨_, _, _, h⟩ | ⟨_, u, v, _, _, _, h⟩
      · rw [h]; decide
      · rw [h]; exact (wh_lt _).2
    refine ⟨by dsimp only; rcases hs with z | z <;> rw [z] <;> omega, h2, bb, by dsimp only; rw [gcd_sgn hs]; exact h5, ?_⟩
    rcases hs with z | z
    · rw [xy z, hy, z, Int.one_mul]
    · rw [xm z, hy, z, sh_neg (by omega)]
  · intro a ha
    have hx := ha.e
    have h2 := ha.b1
    have ht := tl_sh a h2
    rw [← hx] at ht
    have hty : tl y = numL a.1.natAbs ++ (if 1 < a.2 then 47 :: numL a.2.natAbs else []) := by
      by_cases z : a.1 < 0
      · rw [if_pos z] at ht
        rcases hsy with ⟨_, _, h⟩ | ⟨_, r, h3, h4⟩
        · exact absurd ⟨_, ht⟩ h
        · rw [h4]
          rw [ht] at h3
          exact (List.cons.inj h3).2.symm
      · rw [if_neg z, List.nil_append] at ht
        rcases hsy with ⟨_, h, _⟩ | ⟨_, r, h3, h4⟩
        · rw [h]; exact ht
        · rw [ht] at h3
          exact absurd ⟨r, h3⟩ no_mi
    have hsa : s < 0 → a.1 < 0 := fun z => by
      rcases hsy with ⟨h, _⟩ | ⟨_, r, h3, _⟩
      · omega
      · refine Classical.byContradiction fun z2 => ?_
        rw [if_neg z2, List.nil_append] at ht
        rw [ht] at h3
        exact no_mi ⟨r, h3⟩
    have hnum : ∀ (w : Str) (m : Nat), m < 10 ^ 60 → tl w = numL m → wh w = (m : Int) := fun w m hm hw => by
      have : w = tS (m : Int) := ext_tl (by rw [hw, tl_tS])
      rw [this]
      exact wh_num hm
    have g := ha.g
    have hg : gcdN ((a.1.natAbs : Nat) : Int) ((a.2.natAbs : Nat) : Int) = 1 := by
      rw [← g]
      unfold gcdN Int.gcd
      simp
    have key : t = ((a.1.natAbs : Nat) : Int) ∧ b = ((a.2.natAbs : Nat) : Int) ∧ ¬ (0 ≤ at_ ∧ b = 1) := by
      by_cases z : 1 < a.2
      · rw [if_pos z] at hty
        rcases hk with ⟨_, k2, _⟩ | ⟨_, u, v, k2, k3, k4, k5⟩
        · exact absurd (by rw [hty]; simp) k2
        · rw [hty] at k2
          obtain ⟨e1, e2⟩ := cut_at k2 (numL_free (by omega)) k3
          have r1 := hnum u _ ha.t e1.symm
          have r2 := hnum v _ ha.b2 e2.symm
          exact ⟨by omega, by omega, by omega⟩
      · rw [if_neg z, List.append_nil] at hty
        rcases hk with ⟨k1, k2, k3, k4⟩ | ⟨_, u, v, k2, k3, k4, k5⟩
        · have r1 := hnum y _ ha.t hty
          exact ⟨by omega, by omega, by omega⟩
        · have : 47 ∈ tl y := by rw [k2]; simp
          rw [hty] at this
          exact absurd this (numL_free (by omega))
    obtain ⟨k1, k2, k3⟩ := key
    refine ⟨by omega, by omega, k3, fun ⟨z1, z2⟩ => ?_, by rw [k1, k2]; exact hg⟩
    have := hsa z1
    omega
end Z

namespace Z
open L3
open PySem (Str PyData)
open TL
theorem f_find (x y : Str) : mthD .find (.str x) [.str y] = some (.int (PySem.Txt.find x y)) := Eq.trans rfl rfl
theorem tl_arr (l : List Nat) : tl (⟨l.toArray⟩ : Str) = l := by simp [tl]
theorem r_due {x : Str} (h : Low x) : (∃ a, Good x a ∧ g_l_due [.str x] = .ok (.tup [.int a.1, .int a.2])) ∨ ((¬ ∃ a, Good x a) ∧ g_l_due [.str x] = .ok .non) := by
  have hl := h.len
  have okx := strOk_of h.cod
  have okm := ok_mi
  have hc1 := slc_str x none (some 1) (by omega)
  have hc2 := slc_str x (some 1) none (by omega)
  have okc : PyData.strOk (L2.cutS x none (some 1)) = true := strOk_of fun c hc => by
    rw [tl_take1] at hc
    exact h.cod c (List.mem_of_mem_take hc)
  obtain ⟨s, y, hy, hsy, step⟩ : ∃ (s : Int) (y : Str), Low y ∧ ((s = 1 ∧ y = x ∧ ¬ ∃ r, tl x = 45 :: r) ∨ (s = -1 ∧ ∃ r, tl x = 45 :: r ∧ tl y = r)) ∧
      L3.exec T_l_due (.ifs (.bin .eq (.slc (.var 0) .hole (.int 1)) (.str "-"))
        (.cons (.asg 1 false (.p (.un .neg (.int 1)))) (.cons (.asg 0 true (.p (.slc (.var 0) (.int 1) .hole))) .nil)) .nil)
        [some (.str x), some (.int 1), none, none, none] = .nx [some (.str y), some (.int s), none, none, none] := by
    by_cases z : ∃ r, tl x = 45 :: r
    · obtain ⟨r, hr⟩ := z
      have ht := take1T hr
      refine ⟨-1, L2.cutS x (some 1) none, low_cut h, .inr ⟨rfl, r, hr, by rw [tl_drop1, hr]; rfl⟩, ?_⟩
      simp [hc1, hc2, ht, okc, okm]
    · have ht := take1F z
      refine ⟨1, x, h, .inl ⟨rfl, rfl, z⟩, ?_⟩
      simp [hc1, ht, okc, okm]
  obtain ⟨A, t, b, hk, step2⟩ : ∃ A t b : Int, ((A = -1 ∧ 47 ∉ tl y ∧ t = wh y ∧ b = 1) ∨ (0 ≤ A ∧ ∃ u v : Str, tl y = tl u ++ 47 :: tl v ∧ 47 ∉ tl u ∧ t = wh u ∧ b = wh v)) ∧
      (∀ r, execs T_l_due (.cons (.asg 2 true (.p (.mth .find (.var 0) (.cons (.str "/") .nil)))) (.cons (.asg 3 true (.p (.call 1 (.cons (.var 0) .nil)))) (.cons (.asg 4 false (.p (.int
  1))) (.cons (.ifs (.bin .ge (.var 2) (.int 0))
 (.cons (.asg 3 true (.p (.call 1 (.cons (.slc (.var 0) .hole (.var 2)) .nil)))) (.cons (.asg 4 true (.p (.call 1 (.cons (.slc (.var 0) (.bin .add (.var 2) (.int 1))
  .hole) .nil)))) .nil))
 .nil) r)))) [some (.str y), some (.int s), none, none, none] = execs T_l_due r [some (.str y), some (.int s), some (.int A), some (.int t), some (.int b)]) := by
    have hw := r_whole hy
    have hf := f_find y "/"
    have tyS : tyM .find (.str y) = true := rfl
    rcases find_facts y with ⟨f1, f2⟩ | ⟨u, v, f1, f2, f3⟩
    · rw [f1] at hf
      refine ⟨-1, wh y, 1, .inl ⟨rfl, f2, rfl, rfl⟩, fun r => ?_⟩
      rw [execs_nx (env' := [some (.str y), some (.int s), some (.int (-1)), none, none]) (by simp [hf, tyS]),
        execs_nx (env' := [some (.str y), some (.int s), some (.int (-1)), some (.int (wh y)), none]) (by simp [hw]),
        execs_nx (env' := [some (.str y), some (.int s), some (.int (-1)), some (.int (wh y)), some (.int 1)]) (by simp),
        execs_nx (env' := [some (.str y), some (.int s), some (.int (-1)), some (.int (wh y)), some (.int 1)]) (by simp)]
    · rw [f3] at hf
      obtain ⟨p1, p2⟩ := cut_pre f1 hy.len
      have lu : Low (⟨u.toArray⟩ : Str) := ⟨by have := hy.len; rw [len_tl, f1] at this; rw [len_tl, tl_arr]; simp at this; omega, fun c hc => hy.cod c (by rw [tl_arr] at hc; rw [f1]; simp [hc])⟩
      have lv : Low (⟨v.toArray⟩ : Str) := ⟨by have := hy.len; rw [len_tl, f1] at this; rw [len_tl, tl_arr]; simp at this; omega, fun c hc => hy.cod c (by rw [tl_arr] at hc; rw [f1]; simp [hc])⟩
      have w1 := r_whole lu
      have w2 := r_whole lv
      refine ⟨(u.length : Int), wh ⟨u.toArray⟩, wh ⟨v.toArray⟩, .inr ⟨by omega, ⟨u.toArray⟩, ⟨v.toArray⟩, by rw [tl_arr, tl_arr]; exact f1, by rw [tl_arr]; exact f2, rfl, rfl⟩, fun r => ?_⟩
      rw [execs_nx (env' := [some (.str y), some (.int s), some (.int (u.length : Int)), none, none]) (by simp [hf, tyS]),
        execs_nx (env' := [some (.str y), some (.int s), some (.int (u.length : Int)), some (.int (wh y)), none]) (by simp [hw]),
        execs_nx (env' := [some (.str y), some (.int s), some (.int (u.length : Int)), some (.int (wh y)), some (.int 1)]) (by simp)]
      generalize wh (⟨u.toArray⟩ : Str) = t at *
      generalize wh (⟨v.toArray⟩ : Str) = b at *
      rw [execs_nx (env' := [some (.str y), some (.int s), some (.int (u.length : Int)), some (.int t), some (.int b)]) (by simp [p1, p2, w1, w2])]
  have F := fnd_mk hsy hk
  have hs := F.sb
  have t1 := F.tb
  have b1 := F.bb
  haveI : Bd s 2 := ⟨by rcases hs with e | e <;> rw [e] <;> decide⟩
  haveI : Bd t 250 := ⟨Nat.lt_trans t1.2 (by decide +kernel)⟩
  clear hsy hk
  have run : ∀ o, execs T_l_due (.cons (.ifs (.or (.bin .lt (.var 3) (.int 0)) (.or (.bin .lt (.var 4) (.int 1)) (.or (.and (.bin .ge (.var 2) (.int 0)) (.bin .eq (.var 4) (.int 1))) (.and (.bin
  .lt (.var 1) (.int 0)) (.bin .eq (.var 3) (.int 0))))))
 (.cons (.ret (.p .non)) .nil)
 .nil) (.cons (.ifs (.bin .ne (.call 0 (.cons (.var 3) (.cons (.var 4) .nil))) (.int 1))
 (.cons (.ret (.p .non)) .nil)
 .nil) (.cons (.ret (.p (.tup (.cons (.bin .mul (.var 1) (.var 3)) (.cons (.var 4) .nil))))) .nil))) [some (.str y), some (.int s), some (.int A), some (.int t), some (.int b)] = .rt o → g_l_due [.str x] = .ok o := fun o ho => by
    unfold g_l_due
    refine run_rt (env := [some (.str x), none, none, none, none]) rfl ?_
    unfold s_l_due
    dsimp only
    refine (execs_nx (env' := [some (.str x), some (.int 1), none, none, none]) (by simp)).trans ?_
    refine (execs_nx step).trans ?_
    refine (step2 _).trans ?_
    exact ho
  clear step step2
  by_cases c1 : t < 0
  · exact .inr ⟨fun ⟨a, ha⟩ => by have := F.bad a ha; omega, run _ (execs_rt (by simp [c1]))⟩
  by_cases c2 : b < 1
  · exact .inr ⟨fun ⟨a, ha⟩ => by have := F.bad a ha; omega, run _ (execs_rt (by simp [c1, c2]))⟩
  by_cases c3 : 0 ≤ A ∧ b = 1
  · exact .inr ⟨fun ⟨a, ha⟩ => (F.bad a ha).2.2.1 c3, run _ (execs_rt (by simp [c1, c2, c3.1, c3.2]))⟩
  by_cases c4 : s < 0 ∧ t = 0
  · refine .inr ⟨fun ⟨a, ha⟩ => (F.bad a ha).2.2.2.1 c4, run _ (execs_rt ?_)⟩
    by_cases z : 0 ≤ A
    · simp [c1, c2, z, show ¬ b = 1 from fun e => c3 ⟨z, e⟩, c4.1, c4.2]
    · simp [c1, c2, z, c4.1, c4.2]
  have skip : L3.exec T_l_due (.ifs (.or (.bin .lt (.var 3) (.int 0)) (.or (.bin .lt (.var 4) (.int 1)) (.or (.and (.bin .ge (.var 2) (.int 0)) (.bin .eq (.var 4) (.int 1))) (.and (.bin
  .lt (.var 1) (.int 0)) (.bin .eq (.var 3) (.int 0))))))
 (.cons (.ret (.p .non)) .nil)
 .nil) [some (.str y), some (.int s), some (.int A), some (.int t), some (.int b)] = .nx [some (.str y), some (.int s), some (.int A), some (.int t), some (.int b)] := by
    by_cases z : 0 ≤ A
    · by_cases z2 : s < 0
      · simp [c1, c2, z, show ¬ b = 1 from fun e => c3 ⟨z, e⟩, z2, show ¬ t = 0 from fun e => c4 ⟨z2, e⟩]
      · simp [c1, c2, z, show ¬ b = 1 from fun e => c3 ⟨z, e⟩, z2]
    · by_cases z2 : s < 0
      · simp [c1, c2, z, z2, show ¬ t = 0 from fun e => c4 ⟨z2, e⟩]
      · simp [c1, c2, z, z2]
  have hdv := r_divisor (a := t) (b := b) (by omega) (by omega)
  by_cases c5 : gcdN t b = 1
  · refine .inl ⟨(s * t, b), F.good (by omega) (by omega) c3 c4 c5, run _ ((execs_nx skip).trans ?_)⟩
    exact (execs_nx (env' := [some (.str y), some (.int s), some (.int A), some (.int t), some (.int b)]) (by simp [hdv, c5])).trans (execs_rt (by simp))
  · refine .inr ⟨fun ⟨a, ha⟩ => c5 (F.bad a ha).2.2.2.2, run _ ((execs_nx skip).trans ?_)⟩
    exact execs_rt (by simp [hdv, c5])
end Z

namespace Z
open L3
open PySem (Str PyData)
open TL
/-! ### the law's texts -/
structure Sh (x : Str) (n : Nat) : Prop where
  len : x.length ≤ n
  cod : ∀ c ∈ tl x, c < 128
theorem Sh.low {x : Str} {n : Nat} (h : Sh x n) (hn : n ≤ 1000) : Low x := ⟨Nat.le_trans h.len hn, h.cod⟩
theorem sh_cat {x y : Str} {n m : Nat} (hx : Sh x n) (hy : Sh y m) (h : n + m ≤ 1000) : bopD .add (.str x) (.str y) = some (.str (x ++ y)) ∧ Sh (x ++ y) (n + m) := by
  have h1 := hx.len
  have h2 := hy.len
  have h3 := len_app x y
  refine ⟨by rw [b_add_str, chkO_pos (by omega)], by omega, fun c hc => ?_⟩
  rw [tl_append] at hc
  rcases List.mem_append.mp hc with hc | hc
  · exact hx.cod c hc
  · exact hy.cod c hc
theorem sh_tS {i : Int} (h : i.natAbs < 10 ^ 300) : Sh (tS i) 301 := ⟨tS_len h, low_tS i⟩
theorem l_sl : Sh (Str.ofString "/") 1 := ⟨by decide +kernel, by decide +kernel⟩
theorem l_mi : Sh (Str.ofString "-") 1 := ⟨by decide +kernel, by decide +kernel⟩
theorem l_z : Sh (Str.ofString "0") 1 := ⟨by decide +kernel, by decide +kernel⟩
theorem l_e : Sh (Str.ofString "") 0 := ⟨by decide +kernel, by decide +kernel⟩
theorem l_s0 : Sh (Str.ofString "/0") 2 := ⟨by decide +kernel, by decide +kernel⟩
theorem l_s1 : Sh (Str.ofString "/1") 2 := ⟨by decide +kernel, by decide +kernel⟩
theorem l_m0 : Sh (Str.ofString "-0") 2 := ⟨by decide +kernel, by decide +kernel⟩
theorem l_0s : Sh (Str.ofString "0/") 2 := ⟨by decide +kernel, by decide +kernel⟩
theorem l_m0s : Sh (Str.ofString "-0/") 3 := ⟨by decide +kernel, by decide +kernel⟩
theorem l_sm : Sh (Str.ofString "/-") 2 := ⟨by decide +kernel, by decide +kernel⟩
theorem fm {x m : Int} (h : 0 < m) : 0 ≤ x.fmod m ∧ x.fmod m < m := by
  rw [Int.fmod_eq_emod_of_nonneg _ (by omega)]
  exact ⟨Int.emod_nonneg x (by omega), Int.emod_lt_of_pos x h⟩
theorem r_near {t b c : Int} (t0 : 0 ≤ t) (t1 : t.natAbs < 10 ^ 60) (b0 : 0 ≤ b) (b1 : b.natAbs < 10 ^ 60) : ∃ x, Low x ∧ g_l_near [.int t, .int b, .int c] = .ok (.str x) := by
  have p : (10 : Nat) ^ 60 * 4 < 10 ^ 300 := by decide +kernel
  have pI : (1000000000000000000000000000000000000000000000000000000000000 : Int).natAbs = 10 ^ 60 := by decide +kernel
  obtain ⟨q0, q1⟩ := fm (x := c.fdiv 8) (m := 4) (by decide)
  obtain ⟨r0, r1⟩ := fm (x := c) (m := 8) (by decide)
  obtain ⟨w0, w1⟩ := fm (x := c.fdiv 8) (m := 2) (by decide)
  haveI : Bd t 250 := ⟨Nat.lt_trans t1 (by decide +kernel)⟩
  haveI : Bd b 250 := ⟨Nat.lt_trans b1 (by decide +kernel)⟩
  have run : ∀ o, execs T_l_near s_l_near.body [some (.int t), some (.int b), some (.int c), none, none] = .rt o → g_l_near [.int t, .int b, .int c] = .ok o := fun o ho => by
    unfold g_l_near
    exact run_rt (env := [some (.int t), some (.int b), some (.int c), none, none]) rfl ho
  have q : (c.fdiv 8).fmod 4 = 0 ∨ (c.fdiv 8).fmod 4 = 1 ∨ (c.fdiv 8).fmod 4 = 2 ∨ (c.fdiv 8).fmod 4 = 3 := by omega
  have w : (c.fdiv 8).fmod 2 = 0 ∨ (c.fdiv 8).fmod 2 = 1 := by omega
  have r : c.fmod 8 = 0 ∨ c.fmod 8 = 1 ∨ c.fmod 8 = 2 ∨ c.fmod 8 = 3 ∨ c.fmod 8 = 4 ∨ c.fmod 8 = 5 ∨ c.fmod 8 = 6 ∨ c.fmod 8 = 7 := by omega
  have d1 : (t * (1 + (c.fdiv 8).fmod 4)).natAbs < 10 ^ 300 := by rcases q with e | e | e | e <;> rw [e] <;> omega
  have d2 : (b * (1 + (c.fdiv 8).fmod 4)).natAbs < 10 ^ 300 := by rcases q with e | e | e | e <;> rw [e] <;> omega
  have d3 : (t + 1000000000000000000000000000000000000000000000000000000000000).natAbs < 10 ^ 300 := by omega
  have d4 : (b + 1000000000000000000000000000000000000000000000000000000000000).natAbs < 10 ^ 300 := by omega
  have F : ∀ {i : Int}, i.natAbs < 10 ^ 300 → fnD .str [.int i] = some (.str (tS i)) := fun {i} h => by rw [f_str, chkO_pos (log_ok h)]
  have f1 := F d1
  have f2 := F d2
  have f3 := F (i := t) (by omega)
  have f4 := F (i := b) (by omega)
  have f5 := F d3
  have f6 := F d4
  have s1 := sh_tS d1
  have s2 := sh_tS d2
  have s3 := sh_tS (i := t) (by omega)
  have s4 := sh_tS (i := b) (by omega)
  have s5 := sh_tS d3
  have s6 := sh_tS d4
  obtain ⟨pp, hp⟩ : ∃ pp, pp = 1 + (c.fdiv 8).fmod 4 := ⟨_, rfl⟩
  rw [← hp] at f1 f2 s1 s2
  haveI : Bd pp 3 := ⟨by rcases q with e | e | e | e <;> rw [hp, e] <;> decide⟩
  generalize tS (t * pp) = x1 at *
  generalize tS (b * pp) = x2 at *
  generalize tS t = x3 at *
  generalize tS b = x4 at *
  generalize tS (t + 1000000000000000000000000000000000000000000000000000000000000) = x5 at *
  generalize tS (b + 1000000000000000000000000000000000000000000000000000000000000) = x6 at *
  obtain ⟨c1, c1'⟩ := sh_cat s1 l_sl (by decide)
  obtain ⟨c2, c2'⟩ := sh_cat c1' s2 (by decide)
  obtain ⟨c3, c3'⟩ := sh_cat l_mi c2' (by decide)
  obtain ⟨c4, c4'⟩ := sh_cat l_z c2' (by decide)
  obtain ⟨c5, c5'⟩ := sh_cat s3 l_s0 (by decide)
  obtain ⟨c6, c6'⟩ := sh_cat c5' s4 (by decide)
  obtain ⟨c7, c7'⟩ := sh_cat s3 l_s1 (by decide)
  obtain ⟨c9, c9'⟩ := sh_cat s3 l_e (by decide)
  obtain ⟨c10, c10'⟩ := sh_cat s3 l_sl (by decide)
  obtain ⟨c11, c11'⟩ := sh_cat l_0s s4 (by decide)
  obtain ⟨c12, c12'⟩ := sh_cat l_m0s s4 (by decide)
  obtain ⟨c13, c13'⟩ := sh_cat s3 l_sm (by decide)
  obtain ⟨c14, c14'⟩ := sh_cat c13' s4 (by decide)
  obtain ⟨c15, c15'⟩ := sh_cat c10' s6 (by decide)
  suffices ∃ x, Low x ∧ execs T_l_near s_l_near.body [some (.int t), some (.int b), some (.int c), none, none] = .rt (.str x) by
    obtain ⟨x, h1, h2⟩ := this
    exact ⟨x, h1, run _ h2⟩
  unfold s_l_near
  dsimp only
  rw [execs_nx (env' := [some (.int t), some (.int b), some (.int c), some (.int pp), none]) (by simp [hp])]
  rw [execs_nx (env' := [some (.int t), some (.int b), some (.int c), some (.int pp), some (.str (x1 ++ Str.ofString "/" ++ x2))]) (by simp [f1, f2, c1, c2, -b_add_str])]
  clear c1 c2 f1 f2
  generalize x1 ++ Str.ofString "/" ++ x2 = X at *
  rcases r with r | r | r | r | r | r | r | r
  · exact ⟨_, c3'.low (by decide), execs_rt (by simp [r, c3, -b_add_str])⟩
  · rw [execs_nx (env' := [some (.int t), some (.int b), some (.int c), some (.int pp), some (.str X)]) (by simp [r])]
    exact ⟨_, c4'.low (by decide), execs_rt (by simp [r, c4, -b_add_str])⟩
  all_goals rw [execs_nx (env' := [some (.int t), some (.int b), some (.int c), some (.int pp), some (.str X)]) (by simp [r]), execs_nx (env' := [some (.int t), some (.int b), some (.int c), some (.int pp), some (.str X)]) (by simp [r])]
  · exact ⟨_, c6'.low (by decide), execs_rt (by simp [r, f3, f4, c5, c6, -b_add_str])⟩
  all_goals rw [execs_nx (env' := [some (.int t), some (.int b), some (.int c), some (.int pp), some (.str X)]) (by simp [r])]
  · rcases q with q | q | q | q
    · exact ⟨_, c7'.low (by decide), execs_rt (by simp [r, q, f3, c7, -b_add_str])⟩
    · exact ⟨_, c5'.low (by decide), execs_rt (by simp [r, q, f3, c5, -b_add_str])⟩
    · exact ⟨_, c9'.low (by decide), execs_rt (by simp [r, q, f3, c9, -b_add_str])⟩
    · exact ⟨_, c10'.low (by decide), execs_rt (by simp [r, q, f3, c10, -b_add_str, show L2.atI [D.str "/1", .str "/0", .str "", .str "/"] 3 = some (.str "/") from rfl])⟩
  all_goals rw [execs_nx (env' := [some (.int t), some (.int b), some (.int c), some (.int pp), some (.str X)]) (by simp [r])]
  · rcases q with q | q | q | q
    · exact ⟨_, l_m0.low (by decide), execs_rt (by simp [r, q, f4, c11, c12, -b_add_str])⟩
    · exact ⟨_, c11'.low (by decide), execs_rt (by simp [r, q, f4, c11, c12, -b_add_str])⟩
    · exact ⟨_, c12'.low (by decide), execs_rt (by simp [r, q, f4, c11, c12, -b_add_str])⟩
    · refine ⟨_, l_z.low (by decide), execs_rt (by simp [r, q, f4, c11, c12, -b_add_str]; rfl)⟩
  all_goals rw [execs_nx (env' := [some (.int t), some (.int b), some (.int c), some (.int pp), some (.str X)]) (by simp [r])]
  · exact ⟨_, c14'.low (by decide), execs_rt (by simp [r, f3, f4, c13, c14, -b_add_str])⟩
  all_goals rw [execs_nx (env' := [some (.int t), some (.int b), some (.int c), some (.int pp), some (.str X)]) (by simp [r])]
  · rcases w with w | w
    · exact ⟨_, s5.low (by decide), execs_rt (by simp [r, w, f3, f4, f5, f6, c10, c15, -b_add_str])⟩
    · exact ⟨_, c15'.low (by decide), execs_rt (by simp [r, w, f3, f4, f5, f6, c10, c15, -b_add_str])⟩
  · rw [execs_nx (env' := [some (.int t), some (.int b), some (.int c), some (.int pp), some (.str X)]) (by simp [r])]
    exact ⟨_, c2'.low (by decide), execs_rt (by simp)⟩
theorem signs_ok : (Str.ofString "0123456789/-/+ .a\t\n").cps.toList.length = 19 ∧ (∀ c ∈ (Str.ofString "0123456789/-/+ .a\t\n").cps.toList, c < 128) ∧ (Str.ofString "0123456789/-/+ .a\t\n").length ≤ 16000000 := by decide +kernel
theorem r_signs (c : Int) : ∃ x, Low x ∧ g_l_signs [.int c] = .ok (.str x) := by
  obtain ⟨n, hn, n1⟩ : ∃ n : Nat, c.fmod 15 = (n : Int) ∧ n < 15 := by
    obtain ⟨a1, a2⟩ := fm (x := c) (m := 15) (by decide)
    exact ⟨(c.fmod 15).toNat, by omega, by omega⟩
  obtain ⟨g1, g2, g3⟩ := signs_ok
  have loop : ∃ e', L3.exec T_l_signs w_l_signs_1 [some (.int (c.fdiv 15)), some (.str "0123456789/-/+ .a\t\n"), some (.str ""), some (.int (n : Int)), none] = .nx e' ∧
      ∃ (d : Int) (x : Str), e' = [some (.int d), some (.str "0123456789/-/+ .a\t\n"), some (.str x), some (.int (n : Int)), none] ∧ Sh x n := by
    unfold w_l_signs_1
    have := forGo_rng (f := fun x e => (someOk (bindT (.one 4) x e)).out e fun e' => execs T_l_signs b_l_signs_1 e') (clr := [4]) (n := n) (env := [some (.int (c.fdiv 15)), some (.str "0123456789/-/+ .a\t\n"), some (.str ""), some (.int (n : Int)), none])
      (fun k e => ∃ (d : Int) (x : Str), e = [some (.int d), some (.str "0123456789/-/+ .a\t\n"), some (.str x), some (.int (n : Int)), none] ∧ Sh x k) ⟨_, _, rfl, l_e⟩ fun k e hk ⟨d, x, he, hx⟩ => by
        subst he
        obtain ⟨a1, a2⟩ := fm (x := d) (m := 19) (by decide)
        obtain ⟨v, hv, hv2⟩ : ∃ v, L2.atI (Str.ofString "0123456789/-/+ .a\t\n").cps.toList (d.fmod 19) = some v ∧ v < 128 := by
          refine ⟨_, atI_of a1 (by rw [g1]; exact a2), g2 _ (List.getElem_mem _)⟩
        have hix : bopD .ix (.str "0123456789/-/+ .a\t\n") (.int (d.fmod 19)) = some (.str ⟨#[v]⟩) := by
          rw [b_ix_str, chkO_pos g3, hv]
          rfl
        have sv : Sh (⟨#[v]⟩ : Str) 1 := ⟨by rw [len1]; exact Nat.le_refl 1, fun c hc => by
          have : c = v := by simpa [tl] using hc
          omega⟩
        obtain ⟨i1, i2⟩ := sh_cat hx sv (by omega)
        refine ⟨[some (.int (d.fdiv 19)), some (.str "0123456789/-/+ .a\t\n"), some (.str (x ++ ⟨#[v]⟩)), some (.int (n : Int)), none], ?_, _, _, rfl, i2⟩
        simp [b_l_signs_1, hix, i1, -b_add_str, -b_ix_str]
    obtain ⟨e', h1, h2⟩ := this
    refine ⟨e', ?_, h2⟩
    have hs : (n : Int) < 4611686018427387904 := by omega
    simp [hs]
    exact h1
  obtain ⟨e', h1, d, x, h2, h3⟩ := loop
  subst h2
  refine ⟨x, h3.low (by omega), ?_⟩
  unfold g_l_signs
  refine run_rt (env := [some (.int c), none, none, none, none]) rfl ?_
  unfold s_l_signs
  dsimp only
  rw [execs_nx (env' := [some (.int c), some (.str "0123456789/-/+ .a\t\n"), none, none, none]) (by simp),
    execs_nx (env' := [some (.int c), some (.str "0123456789/-/+ .a\t\n"), some (.str ""), none, none]) (by simp),
    execs_nx (env' := [some (.int c), some (.str "0123456789/-/+ .a\t\n"), some (.str ""), some (.int (n : Int)), none]) (by simp [hn]),
    execs_nx (env' := [some (.int (c.fdiv 15)), some (.str "0123456789/-/+ .a\t\n"), some (.str ""), some (.int (n : Int)), none]) (by simp),
    execs_nx h1]
  exact execs_rt (by simp)
end Z

namespace Z
open L3
open PySem (Str PyData)
open TL
theorem r_refused {x : Str} (h : Low x) (hb : ¬ ∃ a, Good x a) : g_l_refused [.str x] = .ok (.bl true) := by
  have hr := r_read_bad h hb
  unfold g_l_refused s_l_refused
  simp [hr, errsL, catsL, subX, isiDs, isiD, chkO, chkR, noexcE, noexc, noexcs]
theorem sh_form {a : Int × Int} {x : Str} (h : Good x a) : (tl x ≠ []) ∧ (tl x).countP (· == 47) ≤ 1 := by
  have ht := tl_sh a h.b1
  rw [← h.e] at ht
  have f1 : 47 ∉ numL a.1.natAbs := numL_free (by omega)
  have f2 : 47 ∉ numL a.2.natAbs := numL_free (by omega)
  have c1 : (numL a.1.natAbs).countP (· == 47) = 0 := List.countP_eq_zero.mpr fun c hc => by
    intro z
    have : c = 47 := by simpa using z
    exact f1 (this ▸ hc)
  have c2 : (numL a.2.natAbs).countP (· == 47) = 0 := List.countP_eq_zero.mpr fun c hc => by
    intro z
    have : c = 47 := by simpa using z
    exact f2 (this ▸ hc)
  refine ⟨fun z => ?_, ?_⟩
  · rw [ht] at z
    have := List.append_eq_nil_iff.mp (List.append_eq_nil_iff.mp z).2
    exact numL_ne _ this.1
  · rw [ht, List.countP_append, List.countP_append, c1]
    have c0 : (if a.1 < 0 then [45] else ([] : List Nat)).countP (· == 47) = 0 := by split <;> decide
    rw [c0]
    split
    · rw [List.countP_cons, c2]; decide
    · decide
theorem low_e : Low (Str.ofString "") := l_e.low (by decide)
theorem low_123 : Low (Str.ofString "1/2/3") := ⟨by decide +kernel, by decide +kernel⟩
theorem bad_e : ¬ ∃ a, Good (Str.ofString "") a := fun ⟨a, h⟩ => (sh_form h).1 (by decide +kernel)
theorem bad_123 : ¬ ∃ a, Good (Str.ofString "1/2/3") a := fun ⟨a, h⟩ => absurd (sh_form h).2 (by decide +kernel)
theorem fm0 (x m : Int) (h : 0 < m) : 0 ≤ x.fmod m ∧ x.fmod m < m := fm h
theorem half (k : Nat) (ns : List Int) (x : Str) (h : Low x) (c : Int) (e5 e6 : Option D) (r : Stms) (hr : ∀ d y, execs T_law r [some (.scr ns), some (.int (k : Int)), some (.int c), some (.str x), some d, e5, e6, y] = .nx [some (.scr ns), some (.int (k : Int)), some (.int c), some (.str x), some d, e5, e6, y]) :
    ∃ e', execs T_law (.cons (.asg 4 true (.p (.call 2 (.cons (.var 3) .nil)))) (.cons (.ifs (.bin .is (.var 4) .non)
 (.cons (.ifs (.un .not (.call 0 (.cons (.var 3) .nil)))
 (.cons (.ret (.p (.bl false))) .nil)
 .nil) .nil)
 (.cons (.asg 7 true (.p (.call 1 (.cons (.var 3) .nil)))) (.cons (.ifs (.or (.un .not (.isi (.var 7) true ["tuple"])) (.bin .ne (.var 7) (.var 4)))
 (.cons (.ret (.p (.bl false))) .nil)
 .nil) (.cons (.ifs (.or (.isi (.bin .ix (.var 7) (.int 0)) true ["bool"]) (.isi (.bin .ix (.var 7) (.int 1)) true ["bool"]))
 (.cons (.ret (.p (.bl false))) .nil)
 .nil) .nil)))) r)) [some (.scr ns), some (.int (k : Int)), some (.int c), some (.str x), none, e5, e6, none] = .nx e' ∧ wipeE e' [1, 2, 3, 4, 5, 6, 7] = [some (.scr ns), none, none, none, none, none, none, none] := by
  rcases r_due h with ⟨a, g, hd⟩ | ⟨g, hd⟩
  · have hread := good_read g
    refine ⟨[some (.scr ns), some (.int (k : Int)), some (.int c), some (.str x), some (.tup [.int a.1, .int a.2]), e5, e6, some (.tup [.int a.1, .int a.2])], ?_, rfl⟩
    rw [execs_nx (env' := [some (.scr ns), some (.int (k : Int)), some (.int c), some (.str x), some (.tup [.int a.1, .int a.2]), e5, e6, none]) (by simp [hd])]
    refine (execs_ifF (env' := [some (.scr ns), some (.int (k : Int)), some (.int c), some (.str x), some (.tup [.int a.1, .int a.2]), e5, e6, some (.tup [.int a.1, .int a.2])]) (by simp [isNon]) ?_).trans (hr _ _)
    rw [execs_nx (env' := [some (.scr ns), some (.int (k : Int)), some (.int c), some (.str x), some (.tup [.int a.1, .int a.2]), e5, e6, some (.tup [.int a.1, .int a.2])]) (by simp [hread])]
    refine (execs_ifF (env' := [some (.scr ns), some (.int (k : Int)), some (.int c), some (.str x), some (.tup [.int a.1, .int a.2]), e5, e6, some (.tup [.int a.1, .int a.2])]) (by simp [isiDs, isiD, tyNames]) rfl).trans ?_
    refine (execs_ifF (r := .nil) (env' := [some (.scr ns), some (.int (k : Int)), some (.int c), some (.str x), some (.tup [.int a.1, .int a.2]), e5, e6, some (.tup [.int a.1, .int a.2])]) (by simp [isiDs, isiD, tyNames]) rfl).trans rfl
  · have href := r_refused h g
    refine ⟨[some (.scr ns), some (.int (k : Int)), some (.int c), some (.str x), some .non, e5, e6, none], ?_, rfl⟩
    rw [execs_nx (env' := [some (.scr ns), some (.int (k : Int)), some (.int c), some (.str x), some .non, e5, e6, none]) (by simp [hd])]
    refine (execs_ifT (env' := [some (.scr ns), some (.int (k : Int)), some (.int c), some (.str x), some .non, e5, e6, none]) (by simp [isNon]) ?_).trans (hr _ _)
    exact (execs_ifF (r := .nil) (env' := [some (.scr ns), some (.int (k : Int)), some (.int c), some (.str x), some .non, e5, e6, none]) (by simp [href]) rfl).trans rfl
theorem turn (ns : List Int) (k : Nat) : ∃ e', execs T_law b_law_1 [some (.scr ns), some (.int (k : Int)), none, none, none, none, none, none] = .nx e' ∧ wipeE e' [1, 2, 3, 4, 5, 6, 7] = [some (.scr ns), none, none, none, none, none, none, none] := by
  have hc1 := r_cell_at ns k
  have hc2 := r_cell_at ns (k + 1)
  rw [show (((k + 1 : Nat)) : Int) = (k : Int) + 1 from rfl] at hc2
  generalize cellAt ns k = c at *
  generalize cellAt ns (k + 1) = d at *
  obtain ⟨x, lx, hx⟩ := r_signs (c.fdiv 2)
  unfold b_law_1
  rw [execs_nx (env' := [some (.scr ns), some (.int (k : Int)), some (.int c), none, none, none, none, none]) (by simp [hc1]),
    execs_nx (env' := [some (.scr ns), some (.int (k : Int)), some (.int c), some (.str x), none, none, none, none]) (by simp [hx])]
  by_cases hz : c.fmod 2 = 1
  · have p60 : (1000000000000000000000000000000000000000000000000000000000000 : Int).natAbs = 10 ^ 60 := by decide +kernel
    have w2 : (c.fdiv 2).fmod 2 = 0 ∨ (c.fdiv 2).fmod 2 = 1 := by
      have := fm0 (c.fdiv 2) 2 (by decide)
      omega
    have v2 : (d.fdiv 32).fmod 2 = 0 ∨ (d.fdiv 32).fmod 2 = 1 := by
      have := fm0 (d.fdiv 32) 2 (by decide)
      omega
    obtain ⟨T, hT, T0, T1⟩ : ∃ T, L2.atI [D.int ((c.fdiv 4).fmod 60), .int ((c.fdiv 4).fmod 100000000000000000000000000000000000000000000000000000000000)] ((c.fdiv 2).fmod 2) = some (.int T) ∧ 0 ≤ T ∧ T.natAbs < 10 ^ 60 := by
      have a1 := fm0 (c.fdiv 4) 60 (by decide)
      have a2 := fm0 (c.fdiv 4) 100000000000000000000000000000000000000000000000000000000000 (by decide +kernel)
      rcases w2 with e | e <;> rw [e]
      · exact ⟨_, rfl, a1.1, by omega⟩
      · exact ⟨_, rfl, a2.1, by omega⟩
    obtain ⟨M, hM, M0, M1⟩ : ∃ M, L2.atI [D.int 40, .int 10000000000000000000000000000000000000000000000000000000000] ((d.fdiv 32).fmod 2) = some (.int M) ∧ 0 < M ∧ M ≤ 10000000000000000000000000000000000000000000000000000000000 := by
      rcases v2 with e | e <;> rw [e]
      · exact ⟨_, rfl, by decide, by decide⟩
      · exact ⟨_, rfl, by decide, by decide⟩
    have bb := fm0 (d.fdiv 64) M M0
    obtain ⟨y, ly, hy⟩ := r_near (t := T) (b := 2 + (d.fdiv 64).fmod M) (c := d) T0 T1 (by omega) (by omega)
    have mz : M ≠ 0 := by omega
    have p1 : PowOk 10 59 := by decide +kernel
    have p2 : PowOk 10 58 := by decide +kernel
    obtain ⟨e', h1, h2⟩ := half k ns y ly c (some (.int d)) (some (.int T)) .nil (fun d y => rfl)
    refine ⟨e', ?_, h2⟩
    refine (execs_ifT (env' := [some (.scr ns), some (.int (k : Int)), some (.int c), some (.str y), none, some (.int d), some (.int T), none]) (by simp [hz]) ?_).trans h1
    rw [execs_nx (env' := [some (.scr ns), some (.int (k : Int)), some (.int c), some (.str x), none, some (.int d), none, none]) (by simp [hc2]),
      execs_nx (env' := [some (.scr ns), some (.int (k : Int)), some (.int c), some (.str x), none, some (.int d), some (.int T), none]) (by simp [p1, hT])]
    refine (execs_nx (r := .nil) (env' := [some (.scr ns), some (.int (k : Int)), some (.int c), some (.str y), none, some (.int d), some (.int T), none]) (by simp [p2, hM, mz, hy])).trans rfl
  · obtain ⟨e', h1, h2⟩ := half k ns x lx c none none .nil (fun d y => rfl)
    refine ⟨e', ?_, h2⟩
    exact (execs_ifF (env' := [some (.scr ns), some (.int (k : Int)), some (.int c), some (.str x), none, none, none, none]) (by simp [hz]) rfl).trans h1
theorem small_ok : ∀ m : Nat, m < 64 → PySem.Builtin.Range.small 0 (max 2 (min (m : Int) 62)) 2 = true := by decide +kernel
theorem law_holds (ns : List Int) (hl : ns.length ≤ 63) : g_law [.scr ns] = .ok (.bl true) := by
  have loop : L3.exec T_law w_law_1 [some (.scr ns), none, none, none, none, none, none, none] = .nx [some (.scr ns), none, none, none, none, none, none, none] := by
    unfold w_law_1
    have hs := small_ok ns.length (by omega)
    simp [chkO, hs]
    refine forGo_same fun x m => ?_
    obtain ⟨k, hk, rfl⟩ := List.mem_map.mp m
    have := turn ns (k * 2)
    simpa using this
  have r1 := r_refused low_e bad_e
  have r2 := r_refused low_123 bad_123
  unfold g_law s_law
  simp [loop, r1, r2]
end Z

section
open PySem PySem.W PySem.Calls PyProof.Rows
set_option maxHeartbeats 0
theorem PySem.Challenge.cw_chairclans_k04_unread_holds : PySem.Challenge.rw_chairclans_k04_unread.Holds := by
  w_on; o_law
  refine HandSHeadRun.head_any (r := OpenLaw.row PySem.Challenge.rw_chairclans_k04_unread) (q := view (OpenLaw.row PySem.Challenge.rw_chairclans_k04_unread).prog [32]) (H := Z.hk) (ob := Z.ob) (M := 6000) (loose := Z.loose) (d := HandSHeadRun.topDef (OpenLaw.row PySem.Challenge.rw_chairclans_k04_unread).prog 32) (kwd := []) Z.ob_eq
    (by kernel_rfl) (fun s => by kernel_rfl) Z.run (by kernel_rfl) (by kernel_rfl) (by kernel_rfl) (by rfl) (by first | assumption | decide +kernel) (by decide +kernel) ⟨rfl, rfl, rfl, rfl, rfl, by decide +kernel⟩ ?hw ?hc
  case hw => w_witness2
  case hc =>
    refine LamX.walk_ofTsE (l := PySem.Challenge.rw_chairclans_k04_unread) (n := 63) (k := 5) (x := "_law_script") (CX := fun _ => L2.CX0) rfl (by decide) (by kernel_rfl) ⟨rfl, by decide, by decide⟩ ?F (fun _ _ _ _ _ z => z)
    intro w mg fa h Y G hmg0
    have hmg : mg ("law" : PySem.Str) = some (.ref fa) := by
      have e : (HandSHeadRun.topDef (OpenLaw.row PySem.Challenge.rw_chairclans_k04_unread).prog 32).name = ("law" : PySem.Str) := by kernel_rfl
      rw [← e]
      exact hmg0
    exact Z.facts Z.law_holds w mg fa h Y G hmg
end

