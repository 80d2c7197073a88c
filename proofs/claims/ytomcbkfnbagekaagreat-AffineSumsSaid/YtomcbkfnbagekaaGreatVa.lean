/- A part of the proof that the law of the statement is true of all inputs: VmT, VmA, VmB, VmC, VmD, VmE, VmF, VmG. -/
import Derived.Below
import Derived.Orders
import Derived.Eval
import Derived.Laws.AppendOwn
import Derived.Laws.CopyRow
import Derived.Laws.Rows
import Derived.Laws.Slices
import Derived.Deep.Upon
/- A generic text: a trie keyed by numbers. No program. -/
set_option linter.unusedVariables false
set_option linter.unusedSimpArgs false
namespace Go.Vm
/-! ### a trie keyed by numbers -/
inductive T (α : Type) where
  | nil
  | node (l : T α) (v : Option α) (r : T α)
noncomputable def T.get {α : Type} (t : T α) : Nat → Option α :=
  T.rec (motive := fun _ => Nat → Option α) (fun _ => none) (fun _ v _ gl gr n => Nat.rec (motive := fun _ => Option α) v (fun m _ => Nat.rec (motive := fun _ => Option α) (gl (Nat.div m 2)) (fun _ _ => gr (Nat.div m 2)) (Nat.mod m 2)) n) t
noncomputable def T.single {α : Type} (a : α) (f : Nat) : Nat → T α :=
  Nat.rec (motive := fun _ => Nat → T α) (fun _ => .nil) (fun _ ih n => Nat.rec (motive := fun _ => T α) (T.node .nil (some a) .nil) (fun m _ => Nat.rec (motive := fun _ => T α) (T.node (ih (Nat.div m 2)) none .nil) (fun _ _ => T.node .nil none (ih (Nat.div m 2))) (Nat.mod m 2)) n) f
noncomputable def T.set {α : Type} (t : T α) (n : Nat) (a : α) : T α :=
  T.rec (motive := fun _ => Nat → T α) (fun n => T.single a (Nat.succ n) n) (fun l v r sl sr n => Nat.rec (motive := fun _ => T α) (T.node l (some a) r) (fun m _ => Nat.rec (motive := fun _ => T α) (T.node (sl (Nat.div m 2)) v r) (fun _ _ => T.node l v (sr (Nat.div m 2))) (Nat.mod m 2)) n) t n
theorem nat_split {β : Type} (z : β) (x y : Nat → β) (n : Nat) : (Nat.rec (motive := fun _ => β) z (fun m _ => Nat.rec (motive := fun _ => β) (x (Nat.div m 2)) (fun _ _ => y (Nat.div m 2)) (Nat.mod m 2)) n : β) = if n = 0 then z else if n % 2 = 1 then x (n / 2) else y (n / 2 - 1) := by
  cases n with
  | zero => rfl
  | succ m =>
    rw [if_neg (by omega)]
    show (Nat.rec (motive := fun _ => β) (x (m / 2)) (fun _ _ => y (m / 2)) (m % 2) : β) = _
    rcases Nat.mod_two_eq_zero_or_one m with h | h
    · rw [if_pos (by omega), show (m + 1) / 2 = m / 2 by omega]
      generalize m % 2 = q at h
      subst h
      rfl
    · rw [if_neg (by omega), show (m + 1) / 2 - 1 = m / 2 by omega]
      generalize m % 2 = q at h
      subst h
      rfl
theorem T.get_node {α : Type} (l : T α) (v : Option α) (r : T α) (n : Nat) : (T.node l v r).get n = if n = 0 then v else if n % 2 = 1 then l.get (n / 2) else r.get (n / 2 - 1) := nat_split _ _ _ _
theorem T.get_nil {α : Type} (n : Nat) : (T.nil : T α).get n = none := rfl
theorem T.single_succ {α : Type} (a : α) (f n : Nat) : T.single a (f + 1) n = if n = 0 then T.node .nil (some a) .nil else if n % 2 = 1 then T.node (T.single a f (n / 2)) none .nil else .node .nil none (T.single a f (n / 2 - 1)) := nat_split _ (fun m => T.node (T.single a f m) none .nil) (fun m => .node .nil none (T.single a f m)) _
theorem T.set_nil {α : Type} (a : α) (n : Nat) : (T.nil : T α).set n a = T.single a (n + 1) n := rfl
theorem T.set_node {α : Type} (a : α) (n : Nat) (l : T α) (v : Option α) (r : T α) : (T.node l v r).set n a = if n = 0 then T.node l (some a) r else if n % 2 = 1 then T.node (l.set (n / 2) a) v r else .node l v (r.set (n / 2 - 1) a) := nat_split _ (fun m => T.node (l.set m a) v r) (fun m => .node l v (r.set m a)) _
theorem T.get_single {α : Type} (a : α) : ∀ (f n m : Nat), n < f → (T.single a f n).get m = if m = n then some a else none := by
  intro f
  induction f with
  | zero => intro n m h; omega
  | succ f ih =>
    intro n m h
    rw [T.single_succ]
    by_cases h0 : n = 0
    · subst h0
      rw [if_pos rfl, T.get_node]
      by_cases m0 : m = 0
      · rw [if_pos m0, if_pos m0]
      · rw [if_neg m0, if_neg m0]; split <;> rfl
    · rw [if_neg h0]
      by_cases h1 : n % 2 = 1
      · rw [if_pos h1, T.get_node]
        by_cases m0 : m = 0
        · subst m0; rw [if_pos rfl, if_neg (by omega)]
        · rw [if_neg m0]
          by_cases m1 : m % 2 = 1
          · rw [if_pos m1, ih _ _ (by omega)]
            by_cases e : m = n
            · rw [if_pos e, if_pos (by omega)]
            · rw [if_neg e, if_neg (by omega)]
          · rw [if_neg m1, if_neg (by omega)]; rfl
      · rw [if_neg h1, T.get_node]
        by_cases m0 : m = 0
        · subst m0; rw [if_pos rfl, if_neg (by omega)]
        · rw [if_neg m0]
          by_cases m1 : m % 2 = 1
          · rw [if_pos m1, if_neg (by omega)]; rfl
          · rw [if_neg m1, ih _ _ (by omega)]
            by_cases e : m = n
            · rw [if_pos e, if_pos (by omega)]
            · rw [if_neg e, if_neg (by omega)]
theorem T.get_set {α : Type} (t : T α) (n m : Nat) (a : α) : (t.set n a).get m = if m = n then some a else t.get m := by
  induction t generalizing n m with
  | nil => rw [T.set_nil, T.get_single _ _ _ _ (by omega)]; rfl
  | node l v r ihl ihr =>
    rw [T.set_node]
    by_cases h0 : n = 0
    · subst h0
      rw [if_pos rfl, T.get_node, T.get_node]
      by_cases m0 : m = 0
      · rw [if_pos m0, if_pos m0]
      · rw [if_neg m0, if_neg m0, if_neg m0]
    · rw [if_neg h0]
      by_cases h1 : n % 2 = 1
      · rw [if_pos h1, T.get_node, T.get_node]
        by_cases m0 : m = 0
        · subst m0; rw [if_pos rfl, if_neg (by omega), if_pos rfl]
        · rw [if_neg m0, if_neg m0]
          by_cases m1 : m % 2 = 1
          · rw [if_pos m1, if_pos m1, ihl]
            by_cases e : m = n
            · rw [if_pos e, if_pos (by omega)]
            · rw [if_neg e, if_neg (by omega)]
          · rw [if_neg m1, if_neg m1, if_neg (by omega)]
      · rw [if_neg h1, T.get_node, T.get_node]
        by_cases m0 : m = 0
        · subst m0; rw [if_pos rfl, if_neg (by omega), if_pos rfl]
        · rw [if_neg m0, if_neg m0]
          by_cases m1 : m % 2 = 1
          · rw [if_pos m1, if_pos m1, if_neg (by omega)]
          · rw [if_neg m1, if_neg m1, ihr]
            by_cases e : m = n
            · rw [if_pos e, if_pos (by omega)]
            · rw [if_neg e, if_neg (by omega)]

end Go.Vm
/- A generic text: abstract values and stores, and how they stand to the model's. No program. -/
set_option linter.unusedVariables false
set_option linter.unusedSimpArgs false
namespace Go.Vm
open Go

/-- abstract values; 'C cid' is the type of the elements of lists of the kind 'cid' -/
inductive V (C : Nat → Type) where
  | unk
  | raw (x : Value)
  | bool (b : Bool)
  | int (k : IntKind) (n : Int)
  | str (s : ByteArray)
  | nilFunc
  | nilIface
  | nilPtr
  | nilSl
  | nilMap
  | ptr (r o : Nat)
  | eptr (r i j : Nat)
  | fptr (cid : Nat) (l : List (C cid)) (i j : Nat)
  | aptr (r o n i : Nat)
  | sl (r o n c : Nat)
  | rsw (r : Nat)
  | rsl (r o n c : Nat)
  | fz (nn : Bool) (cid : Nat) (l : List (C cid))
  | own (cid : Nat) (l : List (C cid))
  | map (r : Nat)
  | iface (t : TypeId) (v : V C)
  | func (f : FuncId) (a c : List (V C))
  | agg (l : List (V C))
  | tuple (l : List (V C))
/-- how elements lie in cells -/
structure Codec (C : Nat → Type) where
  n : Nat
  ty : Nat → TypeId
  k : Nat → Nat
  dflt : (cid : Nat) → C cid
  enc : (cid : Nat) → C cid → List (V C)
  dec : (cid : Nat) → List (V C) → C cid
  ok : Nat → List (V C) → Bool
  kind : Nat → List (Option Bool)      -- of each cell: some true: a list of its own; some false: a frozen one
  pure : Nat → Bool                     -- no cell owns
  fzOf : Nat → Nat
  toFz : (cid : Nat) → List (C cid) → List (C (fzOf cid))
  isStr : Nat → Bool
  str : (cid : Nat) → List (C cid) → ByteArray
variable {C : Nat → Type}
def Codec.flat (K : Codec C) (cid : Nat) (l : List (C cid)) : List (V C) := (l.map (K.enc cid)).flatten

/-! ### names -/
inductive RS where
  | no
  | dead
  | emp
  | to (b s k z q : Nat)   -- the real block, where it begins there, an element's cells, its size, how many elements
/-- names of blocks: 'm' of the roots; 'f' the blocks that a root's cell owns; 'z' what is frozen -/
structure Ren where
  m : Nat → RS
  f : Nat → Nat → List Nat
  z : Nat → Option (Array Value × TypeId)
structure Ren.le (ρ ρ' : Ren) : Prop where
  dead : ∀ r, ρ.m r = .dead → ρ'.m r = .dead
  emp : ∀ r, ρ.m r = .emp → ρ'.m r = .emp ∨ ρ'.m r = .dead
  to : ∀ r b s k z q, ρ.m r = .to b s k z q → ρ'.m r = .to b s k z q ∨ ρ'.m r = .dead
  z : ∀ b x, ρ.z b = some x → ρ'.z b = some x
theorem Ren.le_refl (ρ : Ren) : ρ.le ρ := ⟨fun _ h => h, fun _ h => .inl h, fun _ _ _ _ _ _ h => .inl h, fun _ _ h => h⟩
theorem Ren.le_trans {a b c : Ren} (h : a.le b) (k : b.le c) : a.le c where
  dead r e := k.dead r (h.dead r e)
  emp r e := by
    rcases h.emp r e with e | e
    · exact k.emp r e
    · exact .inr (k.dead r e)
  to r x y u v q e := by
    rcases h.to r x y u v q e with e | e
    · exact k.to r x y u v q e
    · exact .inr (k.dead r e)
  z b x e := k.z b x (h.z b x e)

def one : Value → Bool
  | .agg _ | .tuple _ => false
  | _ => true
theorem one_cells {v : Value} (h : one v = true) : v.cells = #[v] := by cases v <;> simp_all [one, Value.cells]
/-- a value of one cell, that owns nothing -/
def V.one : V C → Bool
  | .agg _ | .tuple _ | .own _ _ | .raw _ => false
  | _ => true
def V.isOwn : V C → Bool
  | .own _ _ => true
  | _ => false
def V.cells : V C → List (V C)
  | .agg l => l
  | v => [v]

mutual
inductive RelV (K : Codec C) (ρ : Ren) : V C → Value → Prop
  | unk {v} : Vm.one v = true → RelV K ρ .unk v
  | raw (x) : RelV K ρ (.raw x) x
  | bool (b) : RelV K ρ (.bool b) (.bool b)
  | int (k n) : RelV K ρ (.int k n) (.int k n)
  | str (s) : RelV K ρ (.str s) (.string s)
  | nilFunc : RelV K ρ .nilFunc .nilFunc
  | nilIface : RelV K ρ .nilIface .nilIface
  | nilPtr : RelV K ρ .nilPtr (.pointer none)
  | nilSl : RelV K ρ .nilSl (.slice none 0 0)
  | nilMap : RelV K ρ .nilMap (.map none)
  | ptr {r o b s k z q} : ρ.m r = .to b s k z q → RelV K ρ (.ptr r o) (.pointer (some ⟨b, s + o, none⟩))
  | ptrDead {r o a} : ρ.m r = .dead → RelV K ρ (.ptr r o) (.pointer (some a))
  | eptr {r i j b s k z q} : ρ.m r = .to b s k z q → RelV K ρ (.eptr r i j) (.pointer (some ⟨b, s + (i * k + j), none⟩))
  | eptrDead {r i j a} : ρ.m r = .dead → RelV K ρ (.eptr r i j) (.pointer (some a))
  | fptr {cid l i j b s n} {cs : Array Value} {us vs} : ρ.z b = some (cs, K.ty cid) → cid < K.n → i < l.length →
      RelL K ρ us vs → us = K.flat cid l → vs = (cs.toList.drop s).take (l.length * K.k cid) → n = s + (i * K.k cid + j) → RelV K ρ (.fptr cid l i j) (.pointer (some ⟨b, n, none⟩))
  | aptr {r o n i b s k z q m} : ρ.m r = .to b s k z q → m = s + (o + i) → RelV K ρ (.aptr r o n i) (.pointer (some ⟨b, m, none⟩))
  | aptrDead {r o n i a} : ρ.m r = .dead → RelV K ρ (.aptr r o n i) (.pointer (some a))
  | sl {r o n c b s k z q c'} : ρ.m r = .to b s k z q → n ≤ c → c ≤ c' → s + o + c' * k ≤ z → RelV K ρ (.sl r o n c) (.slice (some ⟨b, s + o, none⟩) n c')
  | slDead {r o n c a c'} : ρ.m r = .dead → RelV K ρ (.sl r o n c) (.slice (some a) n c')
  | slEmp (r o a) : RelV K ρ (.sl r o 0 0) (.slice (some a) 0 0)
  | rsw {r b s k z q c'} : ρ.m r = .to b s k z q → q ≤ c' → s + c' * k ≤ z → RelV K ρ (.rsw r) (.slice (some ⟨b, s, none⟩) q c')
  | rswDead {r a n c'} : ρ.m r = .dead → RelV K ρ (.rsw r) (.slice a n c')
  | rswEmp {r a} : ρ.m r = .emp → RelV K ρ (.rsw r) (.slice a 0 0)
  | rsl {r o n c b s k z q c'} : ρ.m r = .to b s k z q → n ≤ c → c ≤ c' → o + c ≤ q → s + (o + c') * k ≤ z → RelV K ρ (.rsl r o n c) (.slice (some ⟨b, s + o * k, none⟩) n c')
  | rslDead {r o n c a c'} : ρ.m r = .dead → RelV K ρ (.rsl r o n c) (.slice a n c')
  | rslEmp (r o a) : RelV K ρ (.rsl r o 0 0) (.slice (some a) 0 0)
  | rslNil (r o) : RelV K ρ (.rsl r o 0 0) (.slice none 0 0)
  | fz {nn cid l b s n c'} {cs : Array Value} {us vs} : ρ.z b = some (cs, K.ty cid) → cid < K.n → n ≤ c' → s + c' * K.k cid ≤ cs.size →
      RelL K ρ us vs → us = K.flat cid l → vs = (cs.toList.drop s).take (n * K.k cid) → n = l.length → RelV K ρ (.fz nn cid l) (.slice (some ⟨b, s, none⟩) n c')
  | fzEmp (nn cid a c') : RelV K ρ (.fz nn cid []) (.slice (some a) 0 c')
  | fzNil (cid) : RelV K ρ (.fz false cid []) (.slice none 0 0)
  | map {r b} : ρ.m r = .to b 0 0 0 0 → RelV K ρ (.map r) (.map (some b))
  | mapDead {r b} : ρ.m r = .dead → RelV K ρ (.map r) (.map (some b))
  | iface {t v v'} : RelV K ρ v v' → RelV K ρ (.iface t v) (.iface t v')
  | func {f a a' c c'} : RelL K ρ a a' → RelL K ρ c c' → RelV K ρ (.func f a c) (.func (.func f) ⟨a'⟩ ⟨c'⟩)
  | agg {a a'} : RelL K ρ a a' → RelV K ρ (.agg a) (.agg ⟨a'⟩)
  | tuple {a a'} : RelL K ρ a a' → RelV K ρ (.tuple a) (.tuple ⟨a'⟩)
inductive RelL (K : Codec C) (ρ : Ren) : List (V C) → List Value → Prop
  | nil : RelL K ρ [] []
  | cons {v v' l l'} : RelV K ρ v v' → RelL K ρ l l' → RelL K ρ (v :: l) (v' :: l')
end
mutual
/-- a cell, with the blocks that it owns -/
inductive RelC (K : Codec C) (ρ : Ren) (w : World) : V C → Value → List Nat → Prop
  | val {v v'} : RelV K ρ v v' → RelC K ρ w v v' []
  | own {cid l b s n c' us vs g} {cs : Array Value} {fs : List (List Nat)} : cid < K.n → w.heap[b]? = some (.cells cs (K.ty cid) (0, 0)) → n ≤ c' → s + c' * K.k cid ≤ cs.size →
      RelCs K ρ w us vs fs → us = K.flat cid l → vs = (cs.toList.drop s).take (n * K.k cid) → n = l.length → g = b :: fs.flatten → RelC K ρ w (.own cid l) (.slice (some ⟨b, s, none⟩) n c') g
  | ownNil {cid} : cid < K.n → RelC K ρ w (.own cid []) (.slice none 0 0) []
  | ownEmp {cid} (a) : cid < K.n → RelC K ρ w (.own cid []) (.slice (some a) 0 0) []
inductive RelCs (K : Codec C) (ρ : Ren) (w : World) : List (V C) → List Value → List (List Nat) → Prop
  | nil : RelCs K ρ w [] [] []
  | cons {u us v vs g gs} : RelC K ρ w u v g → RelCs K ρ w us vs gs → RelCs K ρ w (u :: us) (v :: vs) (g :: gs)
end

theorem RelV.mono {K : Codec C} {ρ ρ' : Ren} (h : ρ.le ρ') {v : V C} {v' : Value} (k : RelV K ρ v v') : RelV K ρ' v v' := by
  refine RelV.rec (motive_1 := fun v v' _ => RelV K ρ' v v') (motive_2 := fun l l' _ => RelL K ρ' l l') ?_ ?_ ?_ ?_ ?_ ?_ ?_ ?_ ?_ ?_ ?_ ?_ ?_ ?_ ?_ ?_ ?_ ?_ ?_ ?_ ?_ ?_ ?_ ?_ ?_ ?_ ?_ ?_ ?_ ?_ ?_ ?_ ?_ ?_ ?_ ?_ ?_ ?_ k
  case refine_1 => exact fun e => .unk e
  case refine_2 => exact fun x => .raw x
  case refine_3 => exact fun b => .bool b
  case refine_4 => exact fun k n => .int k n
  case refine_5 => exact fun s => .str s
  case refine_6 => exact .nilFunc
  case refine_7 => exact .nilIface
  case refine_8 => exact .nilPtr
  case refine_9 => exact .nilSl
  case refine_10 => exact .nilMap
  case refine_11 =>
    intro r o b s k z q e
    rcases h.to _ _ _ _ _ _ e with e | e
    · exact .ptr e
    · exact .ptrDead e
  case refine_12 => exact fun e => .ptrDead (h.dead _ e)
  case refine_13 =>
    intro r i j b s k z q e
    rcases h.to _ _ _ _ _ _ e with e | e
    · exact .eptr e
    · exact .eptrDead e
  case refine_14 => exact fun e => .eptrDead (h.dead _ e)
  case refine_15 => exact fun e p x _ e1 e2 e3 m => .fptr (h.z _ _ e) p x m e1 e2 e3
  case refine_16 =>
    intro r o n i b s k z q m e hm
    rcases h.to _ _ _ _ _ _ e with e | e
    · exact .aptr e hm
    · exact .aptrDead e
  case refine_17 => exact fun e => .aptrDead (h.dead _ e)
  case refine_18 =>
    intro r o n c b s k z q c' e p q x
    rcases h.to _ _ _ _ _ _ e with e | e
    · exact .sl e p q x
    · exact .slDead e
  case refine_19 => exact fun e => .slDead (h.dead _ e)
  case refine_20 => exact fun r o a => .slEmp r o a
  case refine_21 =>
    intro r b s k z q c' e p q
    rcases h.to _ _ _ _ _ _ e with e | e
    · exact .rsw e p q
    · exact .rswDead e
  case refine_22 => exact fun e => .rswDead (h.dead _ e)
  case refine_23 =>
    intro r a e
    rcases h.emp _ e with e | e
    · exact .rswEmp e
    · exact .rswDead e
  case refine_24 =>
    intro r o n c b s k z q c' e p q x y
    rcases h.to _ _ _ _ _ _ e with e | e
    · exact .rsl e p q x y
    · exact .rslDead e
  case refine_25 => exact fun e => .rslDead (h.dead _ e)
  case refine_26 => exact fun r o a => .rslEmp r o a
  case refine_27 => exact fun r o => .rslNil r o
  case refine_28 => exact fun e p x y _ e1 e2 e3 m => .fz (h.z _ _ e) p x y m e1 e2 e3
  case refine_29 => exact fun a b c d => .fzEmp a b c d
  case refine_30 => exact fun c => .fzNil c
  case refine_31 =>
    intro r b e
    rcases h.to _ _ _ _ _ _ e with e | e
    · exact .map e
    · exact .mapDead e
  case refine_32 => exact fun e => .mapDead (h.dead _ e)
  case refine_33 => exact fun _ k => .iface k
  case refine_34 => exact fun _ _ a c => .func a c
  case refine_35 => exact fun _ a => .agg a
  case refine_36 => exact fun _ a => .tuple a
  case refine_37 => exact .nil
  case refine_38 => exact fun _ _ a b => .cons a b
theorem RelL.mono {K : Codec C} {ρ ρ' : Ren} (h : ρ.le ρ') : ∀ {l : List (V C)} {l' : List Value}, RelL K ρ l l' → RelL K ρ' l l'
  | _, _, .nil => .nil
  | _, _, .cons v l => .cons (v.mono h) (RelL.mono h l)
theorem RelC.mono {K : Codec C} {ρ ρ' : Ren} {w w' : World} (h : ρ.le ρ') {v : V C} {v' : Value} {g : List Nat} (k : RelC K ρ w v v' g) : (∀ b ∈ g, w'.heap[b]? = w.heap[b]?) → RelC K ρ' w' v v' g := by
  refine RelC.rec (motive_1 := fun v v' g _ => (∀ b ∈ g, w'.heap[b]? = w.heap[b]?) → RelC K ρ' w' v v' g) (motive_2 := fun l l' g _ => (∀ b ∈ g.flatten, w'.heap[b]? = w.heap[b]?) → RelCs K ρ' w' l l' g) ?_ ?_ ?_ ?_ ?_ ?_ k
  · exact fun k _ => .val (k.mono h)
  · intro cid l b s n c' us vs g cs fs a b c d _ e1 e2 e3 e4 e hw
    exact .own a ((hw _ (by simp [e4])).trans b) c d (e fun b hb => hw b (by rw [e4]; exact List.mem_cons_of_mem _ hb)) e1 e2 e3 e4
  · exact fun h _ => .ownNil h
  · exact fun a h _ => .ownEmp a h
  · exact fun _ => .nil
  · exact fun _ _ a b hw => .cons (a fun b hb => hw b (by simp [hb])) (b fun b hb => hw b (by simp only [List.flatten_cons, List.mem_append]; exact .inr hb))
theorem RelCs.mono {K : Codec C} {ρ ρ' : Ren} {w w' : World} (h : ρ.le ρ') : ∀ {l : List (V C)} {l' : List Value} {g : List (List Nat)}, RelCs K ρ w l l' g → (∀ b ∈ g.flatten, w'.heap[b]? = w.heap[b]?) → RelCs K ρ' w' l l' g
  | _, _, _, .nil, _ => .nil
  | _, _, _, .cons a b, hw => .cons (a.mono h fun b hb => hw b (by simp [hb])) (b.mono h fun b hb => hw b (by simp only [List.flatten_cons, List.mem_append]; exact .inr hb))

/-! ### the abstract store -/
inductive AObj (C : Nat → Type) where
  | dead
  | cells (c : List (V C)) (t : TypeId)
  | rows (cid : Nat) (l : List (C cid))
  | hole (cid : Nat) (l : List (C cid)) (i : Nat) (row : List (V C))
  | map (es : List (V C × V C))
structure AStore (C : Nat → Type) where
  t : T (AObj C)
  n : Nat
  low : Nat
noncomputable def AStore.get (H : AStore C) (r : Nat) : Option (AObj C) := H.t.get r
noncomputable def AStore.push (H : AStore C) (o : AObj C) : AStore C := { t := H.t.set H.n o, n := H.n + 1, low := H.low }
noncomputable def AStore.upd (H : AStore C) (r : Nat) (o : AObj C) : AStore C := { t := H.t.set r o, n := H.n, low := min H.low r }
theorem AStore.get_push (H : AStore C) (o : AObj C) (m : Nat) : (H.push o).get m = if m = H.n then some o else H.get m := T.get_set ..
theorem AStore.get_upd (H : AStore C) (r : Nat) (o : AObj C) (m : Nat) : (H.upd r o).get m = if m = r then some o else H.get m := T.get_set ..
/-- the cells that an object stands for, and their elements' type -/
def AObj.flat (K : Codec C) : AObj C → Option (List (V C) × TypeId)
  | .cells c t => some (c, t)
  | .rows cid l => if cid < K.n then some (K.flat cid l, K.ty cid) else none
  | .hole cid l i row => if cid < K.n ∧ i < l.length ∧ row.length = K.k cid then some (K.flat cid (l.take i) ++ row ++ K.flat cid (l.drop (i + 1)), K.ty cid) else none
  | _ => none
def AObj.count : AObj C → Nat
  | .rows _ l => l.length
  | .hole _ l _ _ => l.length
  | _ => 0
def AObj.isRows : AObj C → Bool
  | .rows _ _ | .hole _ _ _ _ => true
  | _ => false
/-- whose a real block is -/
inductive Who where
  | root (r : Nat)
  | cell (r i : Nat)
  | ice
def Own (ρ : Ren) (b : Nat) : Who → Prop
  | .root r => ∃ s k z q, ρ.m r = .to b s k z q
  | .cell r i => b ∈ ρ.f r i
  | .ice => ∃ x, ρ.z b = some x
/-- names that fit together -/
structure Names (ρ : Ren) (n sz : Nat) : Prop where
  dom : ∀ r, n ≤ r → ρ.m r = .no ∧ ∀ i, ρ.f r i = []
  lt : ∀ b x, Own ρ b x → b < sz
  uniq : ∀ b x y, Own ρ b x → Own ρ b y → x = y
  nod : ∀ r i, (ρ.f r i).Nodup
theorem Names.live {ρ : Ren} {n sz : Nat} (h : Names ρ n sz) {r b s k z q : Nat} (e : ρ.m r = .to b s k z q) : b < sz := h.lt b (.root r) ⟨s, k, z, q, e⟩
theorem Names.root_lt {ρ : Ren} {n sz : Nat} (h : Names ρ n sz) {r b s k z q : Nat} (e : ρ.m r = .to b s k z q) : r < n := by
  rcases Nat.lt_or_ge r n with h1 | h1
  · exact h1
  · rw [(h.dom r h1).1] at e; cases e
theorem Names.f_lt {ρ : Ren} {n sz : Nat} (h : Names ρ n sz) {r i b : Nat} (e : b ∈ ρ.f r i) : r < n := by
  rcases Nat.lt_or_ge r n with h1 | h1
  · exact h1
  · rw [(h.dom r h1).2] at e; cases e
theorem Names.inj {ρ : Ren} {n sz : Nat} (h : Names ρ n sz) {r r' b s k z q s' k' z' q' : Nat} (e : ρ.m r = .to b s k z q) (e' : ρ.m r' = .to b s' k' z' q') : r = r' := by
  have := h.uniq b (.root r) (.root r') ⟨s, k, z, q, e⟩ ⟨s', k', z', q', e'⟩
  cases this; rfl
/-- owners change: 'T y x': what was y's may be x's -/
theorem Names.remap {ρ ρ' : Ren} {n n' sz sz' : Nat} (h : Names ρ n sz) (hs : sz ≤ sz') (T : Who → Who → Prop) (hT : ∀ y x x', T y x → T y x' → x = x') (x0 : Who)
    (hb : ∀ b x, Own ρ' b x → (sz ≤ b ∧ b < sz' ∧ x = x0) ∨ ∃ y, Own ρ b y ∧ T y x) (hn : ∀ r i, (ρ'.f r i).Nodup) (hd : ∀ r, n' ≤ r → ρ'.m r = .no ∧ ∀ i, ρ'.f r i = []) : Names ρ' n' sz' := by
  refine ⟨hd, fun b x hx => ?_, fun b x y hx hy => ?_, hn⟩
  · rcases hb b x hx with ⟨_, h1, _⟩ | ⟨y, h1, _⟩
    · exact h1
    · exact Nat.lt_of_lt_of_le (h.lt b y h1) hs
  · rcases hb b x hx with ⟨h1, _, h2⟩ | ⟨y1, h1, h2⟩
    · rcases hb b y hy with ⟨_, _, h4⟩ | ⟨y2, h3, _⟩
      · rw [h2, h4]
      · have := h.lt b y2 h3; omega
    · rcases hb b y hy with ⟨h3, _, _⟩ | ⟨y2, h3, h4⟩
      · have := h.lt b y1 h1; omega
      · have := h.uniq b y1 y2 h1 h3
        subst this
        exact hT _ _ _ h2 h4
def RelB (K : Codec C) (P : Program) (ρ : Ren) (w : World) (r b s k z q : Nat) : AObj C → Prop
  | .dead => False
  | .map es => s = 0 ∧ k = 0 ∧ z = 0 ∧ q = 0 ∧ ∃ es' clk, w.heap[b]? = some (.map es' clk) ∧ es.length = es'.size ∧ ∀ (i : Nat) (e : V C × V C), es[i]? = some e → ∃ e' : MapEntry, es'[i]? = some e' ∧ RelV K ρ e.1 e'.key ∧ RelV K ρ e.2 e'.val
  | o => (o.isRows = true → q = o.count) ∧ ∃ c t cs, o.flat K = some (c, t) ∧ k = P.cellsOf t ∧ w.heap[b]? = some (.cells cs t (0, 0)) ∧ cs.size = z ∧ s + c.length ≤ z ∧
      ∀ (i : Nat) (v : V C), c[i]? = some v → ∃ v', cs[s + i]? = some v' ∧ RelC K ρ w v v' (ρ.f r i)
structure RelS (K : Codec C) (P : Program) (ρ : Ren) (H : AStore C) (w : World) : Prop where
  names : Names ρ H.n w.heap.size
  blk : ∀ r b s k z q o, ρ.m r = .to b s k z q → H.get r = some o → RelB K P ρ w r b s k z q o
  emp : ∀ r o, ρ.m r = .emp → H.get r = some o → ∃ cid, cid < K.n ∧ o = .rows cid []
  dead : ∀ r o, ρ.m r = .dead → H.get r = some o → o = .dead
  frz : ∀ b cs t, ρ.z b = some (cs, t) → ∃ fr, w.heap[b]? = some (.cells cs t fr)
/-- a block of which a written cell is, or that it owns -/
def Touched (ρ : Ren) (W : Nat → Nat → Prop) (b : Nat) : Prop := (∃ r s k z q i, ρ.m r = .to b s k z q ∧ W r i) ∨ ∃ r i, b ∈ ρ.f r i ∧ W r i
/-- what a stretch of a run has done: 'W' tells the cells that may have changed, 'T' the blocks that may have changed, or changed hands -/
structure Ext (ρ ρ' : Ren) (n : Nat) (W : Nat → Nat → Prop) (T : Nat → Prop) (w w' : World) : Prop where
  le : ρ.le ρ'
  size : w.heap.size ≤ w'.heap.size
  os : w'.os = w.os
  tape : w'.tape = w.tape
  output : w'.output = w.output
  keep : ∀ b, b < w.heap.size → ¬ T b → w'.heap[b]? = w.heap[b]?
  keepR : ∀ r b s k z q, ρ.m r = .to b s k z q → (∃ i, ¬ W r i) → ∀ cs t fr, w.heap[b]? = some (.cells cs t fr) → ∃ cs', w'.heap[b]? = some (.cells cs' t fr) ∧ cs'.size = cs.size ∧ ∀ i, ¬ W r i → cs'[s + i]? = cs[s + i]?
  fresh : ∀ r b s k z q, ρ'.m r = .to b s k z q → b < w.heap.size → ρ.m r = .to b s k z q ∨ T b
  freshF : ∀ r i b, b ∈ ρ'.f r i → b < w.heap.size → b ∈ ρ.f r i ∨ T b
  freshZ : ∀ b x, ρ'.z b = some x → b < w.heap.size → ρ.z b = some x ∨ T b
  stay : ∀ r, r < n → (∃ i, ¬ W r i) → ρ'.m r = ρ.m r
  stayF : ∀ r i, r < n → ¬ W r i → ρ'.f r i = ρ.f r i
theorem Ext.refl (ρ : Ren) (n : Nat) (W : Nat → Nat → Prop) (T : Nat → Prop) (w : World) : Ext ρ ρ n W T w w :=
  ⟨Ren.le_refl ρ, Nat.le_refl _, rfl, rfl, rfl, fun _ _ _ => rfl, fun _ _ _ _ _ _ _ _ cs t fr h => ⟨cs, h, rfl, fun _ _ => rfl⟩, fun _ _ _ _ _ _ h _ => .inl h, fun _ _ _ h _ => .inl h, fun _ _ h _ => .inl h, fun _ _ _ => rfl, fun _ _ _ _ => rfl⟩
theorem Touched.mono {ρ : Ren} {W W' : Nat → Nat → Prop} {b : Nat} (h : Touched ρ W b) (hW : ∀ r i, W r i → W' r i) : Touched ρ W' b := by
  rcases h with ⟨r, s, k, z, q, i, h1, h2⟩ | ⟨r, i, h1, h2⟩
  · exact .inl ⟨r, s, k, z, q, i, h1, hW _ _ h2⟩
  · exact .inr ⟨r, i, h1, hW _ _ h2⟩
theorem Ext.wider {ρ ρ' : Ren} {n : Nat} {W W' : Nat → Nat → Prop} {T T' : Nat → Prop} {w w' : World} (h : Ext ρ ρ' n W T w w') (hW : ∀ r i, W r i → W' r i) (hT : ∀ b, b < w.heap.size → T b → T' b) : Ext ρ ρ' n W' T' w w' where
  le := h.le
  size := h.size
  os := h.os
  tape := h.tape
  output := h.output
  keep b hb h1 := h.keep b hb fun ht => h1 (hT b hb ht)
  keepR r b s k z q e hi cs t fr hh := by
    obtain ⟨cs', h1, h2, h3⟩ := h.keepR r b s k z q e (hi.imp fun i hi hw => hi (hW r i hw)) cs t fr hh
    exact ⟨cs', h1, h2, fun i hi => h3 i fun hw => hi (hW r i hw)⟩
  fresh r b s k z q e hb := (h.fresh r b s k z q e hb).imp id (hT b hb)
  freshF r i b e hb := (h.freshF r i b e hb).imp id (hT b hb)
  freshZ b x e hb := (h.freshZ b x e hb).imp id (hT b hb)
  stay r hr hi := h.stay r hr (hi.imp fun i hi hw => hi (hW r i hw))
  stayF r i hr hi := h.stayF r i hr fun hw => hi (hW r i hw)
/-- two stretches, one behind the other; of the elder names alone is spoken -/
theorem Ext.trans {ρ ρ' ρ'' : Ren} {n n' : Nat} {W W' : Nat → Nat → Prop} {T T' : Nat → Prop} {w w' w'' : World} (hN : Names ρ n w.heap.size) (hn : n ≤ n') (h : Ext ρ ρ' n W T w w') (k : Ext ρ' ρ'' n' W' T' w' w'') (hW : ∀ r i, W' r i → W r i ∨ n ≤ r) (hT : ∀ b, b < w.heap.size → T' b → T b) : Ext ρ ρ'' n W T w w'' := by
  have root : ∀ r b s k z q, ρ.m r = .to b s k z q → r < n := fun r b s k z q e => hN.root_lt e
  refine ⟨Ren.le_trans h.le k.le, Nat.le_trans h.size k.size, k.os.trans h.os, k.tape.trans h.tape, k.output.trans h.output, ?_, ?_, ?_, ?_, ?_, ?_, ?_⟩
  · intro b hb h1
    rw [← h.keep b hb h1]
    exact k.keep b (Nat.lt_of_lt_of_le hb h.size) fun ht => h1 (hT b hb ht)
  · intro r b s kk z q e hi cs t fr0 hh
    have hr := root r b s kk z q e
    have e2 : ρ'.m r = .to b s kk z q := (h.stay r hr hi).trans e
    obtain ⟨cs1, g1, g2, g3⟩ := h.keepR r b s kk z q e hi cs t fr0 hh
    have nw : ∀ i, ¬ W r i → ¬ W' r i := fun i hi hw => by
      rcases hW r i hw with g | g
      · exact hi g
      · omega
    obtain ⟨cs2, f1, f2, f3⟩ := k.keepR r b s kk z q e2 (hi.imp nw) cs1 t fr0 g1
    exact ⟨cs2, f1, f2.trans g2, fun i hi => (f3 i (nw i hi)).trans (g3 i hi)⟩
  · intro r b s kk z q e hb
    rcases k.fresh r b s kk z q e (Nat.lt_of_lt_of_le hb h.size) with e | e
    · exact h.fresh r b s kk z q e hb
    · exact .inr (hT b hb e)
  · intro r i b e hb
    rcases k.freshF r i b e (Nat.lt_of_lt_of_le hb h.size) with e | e
    · exact h.freshF r i b e hb
    · exact .inr (hT b hb e)
  · intro b x e hb
    rcases k.freshZ b x e (Nat.lt_of_lt_of_le hb h.size) with e | e
    · exact h.freshZ b x e hb
    · exact .inr (hT b hb e)
  · rintro r hr ⟨i, hi⟩
    rw [← h.stay r hr ⟨i, hi⟩]
    refine k.stay r (Nat.lt_of_lt_of_le hr hn) ⟨i, fun hw => ?_⟩
    rcases hW r i hw with g | g
    · exact hi g
    · omega
  · intro r i hr hi
    rw [← h.stayF r i hr hi]
    refine k.stayF r i (Nat.lt_of_lt_of_le hr hn) fun hw => ?_
    rcases hW r i hw with g | g
    · exact hi g
    · omega
/-- what is touched behind a stretch was touched ahead of it -/
theorem Ext.touched {ρ ρ' : Ren} {n : Nat} {W W' : Nat → Nat → Prop} {T : Nat → Prop} {w w' : World} (hN : Names ρ n w.heap.size) (h : Ext ρ ρ' n W T w w') (hW : ∀ r i, W' r i → W r i ∨ n ≤ r) (hT : ∀ b, T b → Touched ρ W b) : ∀ b, b < w.heap.size → Touched ρ' W' b → Touched ρ W b := by
  rintro b hb (⟨r, s, k, z, q, i, h1, h2⟩ | ⟨r, i, h1, h2⟩)
  · rcases h.fresh r b s k z q h1 hb with e | e
    · rcases hW r i h2 with h3 | h3
      · exact .inl ⟨r, s, k, z, q, i, e, h3⟩
      · rw [(hN.dom r h3).1] at e; cases e
    · exact hT b e
  · rcases h.freshF r i b h1 hb with e | e
    · rcases hW r i h2 with h3 | h3
      · exact .inr ⟨r, i, e, h3⟩
      · rw [(hN.dom r h3).2] at e; cases e
    · exact hT b e
end Go.Vm
/- A generic text: the abstract machine: what an operation comes to. No program. -/
set_option linter.unusedVariables false
namespace Go.Vm
open Go
variable {C : Nat → Type}

inductive CK where
  | int | bool | string
structure TI (C : Nat → Type) where
  desc : TypeDesc
  size : Nat
  bytes : Nat
  zero : List (V C)
  flat : Option (List CK) := none
structure Env (C : Nat → Type) where
  P : Program
  K : Codec C
  ti : TypeId → Option (TI C)
  fn : FuncId → Option Func
  cid : TypeId → Option Nat          -- how new lists of an element type are held
def isAggD : TypeDesc → Bool
  | .struct _ | .array _ _ => true
  | _ => false
/-- a run that asks nothing of the world -/
def quiet {α : Type} (P : Program) : Sem α → Option α
  | .pure a => some a
  | .program k => quiet P (k P)
  | _ => none
def putAt (c : List (V C)) (o : Nat) (us : List (V C)) : List (V C) := c.take o ++ us ++ c.drop (o + us.length)
def choose2 (t : Bool) : V C → V C → V C
  | .bool p, .bool q => .bool (cond t p q)
  | .int k p, .int k' q => cond (Nat.beq k.ctorIdx k'.ctorIdx) (.int k (cond t p q)) (cond t (.int k p) (.int k' q))
  | x, y => cond t x y
/-! plain values, there and back -/
mutual
def ofVal : Nat → Value → Option (V C)
  | 0, _ => none
  | _ + 1, .bool b => some (.bool b)
  | _ + 1, .int k n => some (.int k n)
  | _ + 1, .string s => some (.str s)
  | _ + 1, .nilFunc => some .nilFunc
  | _ + 1, .nilIface => some .nilIface
  | _ + 1, .pointer none => some .nilPtr
  | _ + 1, .slice none 0 0 => some .nilSl
  | _ + 1, .map none => some .nilMap
  | n + 1, .iface t v => match ofVal n v with | some u => some (.iface t u) | none => none
  | n + 1, .agg ⟨l⟩ => match ofVals n l with | some u => some (.agg u) | none => none
  | n + 1, .tuple ⟨l⟩ => match ofVals n l with | some u => some (.tuple u) | none => none
  | n + 1, .func (.func f) ⟨a⟩ ⟨c⟩ => match ofVals n a, ofVals n c with | some a, some c => some (.func f a c) | _, _ => none
  | _ + 1, _ => none
def ofVals : Nat → List Value → Option (List (V C))
  | _, [] => some []
  | 0, _ => none
  | n + 1, v :: l => match ofVal n v, ofVals n l with | some u, some us => some (u :: us) | _, _ => none
end
mutual
def toVal : Nat → V C → Option Value
  | 0, _ => none
  | _ + 1, .bool b => some (.bool b)
  | _ + 1, .int k n => some (.int k n)
  | _ + 1, .str s => some (.string s)
  | _ + 1, .nilFunc => some .nilFunc
  | _ + 1, .nilIface => some .nilIface
  | _ + 1, .nilPtr => some (.pointer none)
  | _ + 1, .nilSl => some (.slice none 0 0)
  | _ + 1, .nilMap => some (.map none)
  | n + 1, .iface t v => match toVal n v with | some u => some (.iface t u) | none => none
  | n + 1, .agg l => match toVals n l with | some u => some (.agg ⟨u⟩) | none => none
  | n + 1, .tuple l => match toVals n l with | some u => some (.tuple ⟨u⟩) | none => none
  | n + 1, .func f a c => match toVals n a, toVals n c with | some a, some c => some (.func (.func f) ⟨a⟩ ⟨c⟩) | _, _ => none
  | _ + 1, _ => none
def toVals : Nat → List (V C) → Option (List Value)
  | _, [] => some []
  | 0, _ => none
  | n + 1, v :: l => match toVal n v, toVals n l with | some u, some us => some (u :: us) | _, _ => none
end
/-! numbers -/
def modulus : IntKind → Int
  | .i8 | .u8 => 256
  | .i16 | .u16 => 65536
  | .i32 | .u32 => 4294967296
  | .i64 | .u64 => 18446744073709551616
def half : IntKind → Int
  | .i8 => 128
  | .i16 => 32768
  | .i32 => 2147483648
  | .i64 => 9223372036854775808
  | .u8 => 256
  | .u16 => 65536
  | .u32 => 4294967296
  | .u64 => 18446744073709551616
/-- 'IntKind.wrap', for the kernel -/
def wr (k : IntKind) (n : Int) : Int := if n % modulus k < half k then n % modulus k else n % modulus k - modulus k
theorem wr_eq (k : IntKind) (n : Int) : wr k n = k.wrap n := by
  by_cases h : n % modulus k < half k
  · unfold wr
    rw [if_pos h]
    unfold IntKind.wrap
    cases k <;> simp [modulus, half, IntKind.bits, IntKind.signed] at h ⊢ <;> intro hh <;> omega
  · unfold wr
    rw [if_neg h]
    unfold IntKind.wrap
    cases k <;> simp [modulus, half, IntKind.bits, IntKind.signed] at h ⊢ <;> omega
def sameKind (k k' : IntKind) : Bool := Nat.beq k.ctorIdx k'.ctorIdx
theorem sameKind_eq {k k' : IntKind} (h : sameKind k k' = true) : k = k' := by
  cases k <;> cases k' <;> first | rfl | (exact absurd h (by decide))
def pow2 (k : IntKind) (b : Int) : Int := Int.ofNat (Nat.pow 2 (min b.toNat k.bits))
abbrev R (C : Nat → Type) := Option (V C × AStore C × List Bool)
def ibin2 (op : BinOp) (k : IntKind) (a b : Int) : Option (V C × List Bool) :=
  match op with
  | .add => some (.int k (wr k (a + b)), [])
  | .sub => some (.int k (wr k (a - b)), [])
  | .mul => some (.int k (wr k (a * b)), [])
  | .quo => some (.int k (wr k (a.tdiv b)), [!(b == 0)])
  | .rem => some (.int k (a.tmod b), [!(b == 0)])
  | .and => some (.int k (wr k (BitVec.ofInt k.bits a &&& BitVec.ofInt k.bits b).toNat), [])
  | .or => some (.int k (wr k (BitVec.ofInt k.bits a ||| BitVec.ofInt k.bits b).toNat), [])
  | .xor => some (.int k (wr k (BitVec.ofInt k.bits a ^^^ BitVec.ofInt k.bits b).toNat), [])
  | .eql => some (.bool (a == b), [])
  | .neq => some (.bool (a != b), [])
  | .lss => some (.bool (decide (a < b)), [])
  | .leq => some (.bool (decide (a ≤ b)), [])
  | .gtr => some (.bool (decide (a > b)), [])
  | .geq => some (.bool (decide (a ≥ b)), [])
  | _ => none
def ibin (op : BinOp) (k : IntKind) (a : Int) (k' : IntKind) (b : Int) : Option (V C × List Bool) :=
  match op with
  | .shl => some (.int k (wr k (a * pow2 k b)), [decide (0 ≤ b)])
  | .shr => some (.int k (a.fdiv (pow2 k b)), [decide (0 ≤ b)])
  | _ => cond (sameKind k k') (ibin2 op k a b) none
def scalarEq : CK → V C → V C → Option Bool
  | .int, .int k a, .int k' b => cond (sameKind k k') (some (a == b)) none
  | .bool, .bool a, .bool b => some (a == b)
  | .string, .str a, .str b => some (a == b)
  | _, _, _ => none
def cellsEq : List CK → List (V C) → List (V C) → Option Bool
  | [], [], [] => some true
  | k :: ks, v :: l, v' :: l' => match scalarEq k v v', cellsEq ks l l' with
    | some b, some c => some (b && c)
    | _, _ => none
  | _, _, _ => none
abbrev Vals (C : Nat → Type) := Operand → Option (V C)
def Vals.all (v : Vals C) : List Operand → Option (List (V C))
  | [] => some []
  | x :: l => match v x, Vals.all v l with
    | some u, some us => some (u :: us)
    | _, _ => none
def Vals.parts (v : Vals C) : List (Nat × Operand) → Option (List (Nat × V C))
  | [] => some []
  | (i, x) :: l => match v x, Vals.parts v l with
    | some u, some us => some ((i, u) :: us)
    | _, _ => none
def some_ (H : AStore C) (u : V C) : R C := some (u, H, [])
/-- whatever operation on values without an address, that asks nothing of the world -/
noncomputable def plainOp (E : Env C) (v : Vals C) (o : Oper) (H : AStore C) : R C :=
  if (o.op.operands.toList.all fun x => match v x with | some u => (toVal 99 u).isSome | none => false) then
    match o.op with
    | .select _ _ => none
    | _ => match quiet E.P (execOp (fun x => ((v x).bind (toVal 99)).getD (.tuple #[])) o) with
      | some (.value u) => (ofVal 99 u).bind (some_ H)
      | _ => none
  else none
noncomputable def partOf (E : Env C) (t : TypeId) (cs : List (V C)) (off : Nat) : Option (V C) :=
  match E.ti t with
  | some i => if isAggD i.desc then some (.agg ((cs.drop off).take i.size)) else cs[off]?
  | none => none
/-- a bound of a slice expression -/
def bound (v : Vals C) : Option Operand → Option (Option Int)
  | none => some none
  | some x => match v x with
    | some (.int _ n) => some (some n)
    | _ => none
/-! ### lists that lists own -/
def cut {α : Type} (l : List α) (o n : Nat) : List α := (l.drop o).take n
/-- a reference becomes what it refers to -/
noncomputable def absorb1 (K : Codec C) (H : AStore C) : Option Bool → V C → Option (V C × AStore C)
  | none, v => some (v, H)
  | some true, .rsw r => match H.get r with
    | some (.rows c l) => some (.own c l, H.upd r .dead)
    | _ => none
  | some true, v => some (v, H)
  | some false, .rsw r => match H.get r with
    | some (.rows c l) => some (.fz false (K.fzOf c) (K.toFz c l), H.upd r .dead)
    | _ => none
  | some false, .rsl r o n _ => match H.get r with
    | some (.rows c l) => some (.fz false (K.fzOf c) (K.toFz c (cut l o n)), H.upd r .dead)
    | _ => none
  | some false, v => some (v, H)
noncomputable def absorb (K : Codec C) : List (Option Bool) → List (V C) → AStore C → Option (List (V C) × AStore C)
  | k :: ks, v :: vs, H => match absorb1 K H k v with
    | some (u, H1) => match absorb K ks vs H1 with
      | some (us, H2) => some (u :: us, H2)
      | none => none
    | none => none
  | _, [], H => some ([], H)
  | [], _ :: _, _ => none
/-- cells, row by row, as elements -/
noncomputable def chunk (K : Codec C) (cid : Nat) : Nat → List (V C) → AStore C → Option (List (C cid) × AStore C)
  | 0, [], H => some ([], H)
  | 0, _ :: _, _ => none
  | n + 1, c, H => match absorb K (K.kind cid) (c.take (K.k cid)) H with
    | some (row, H1) => cond (K.ok cid row) (match chunk K cid n (c.drop (K.k cid)) H1 with
      | some (l, H2) => some (K.dec cid row :: l, H2)
      | none => none) none
    | none => none
/-! ### the operations -/
noncomputable def rowAt (K : Codec C) (cid : Nat) (l : List (C cid)) (i : Nat) : List (V C) := K.enc cid (l.getD i (K.dflt cid))
def readRow (d : TypeDesc) (size : Nat) (row : List (V C)) (j : Nat) : Option (V C) :=
  if isAggD d then (if j + size ≤ row.length then (cond (((row.drop j).take size).all V.one) (some (.agg ((row.drop j).take size))) none) else none)
  else match row[j]? with | some v => cond v.one (some v) none | none => none
def okLen (len : Nat) : Option (IntKind × List Int) → Option (IntKind × List Int)
  | some p => cond (Nat.beq p.2.length len) (some p) none
  | none => none
def intsOf : List (V C) → Option (IntKind × List Int)
  | [] => none
  | [.int k n] => some (k, [n])
  | .int k n :: l => match intsOf l with | some (k', ns) => cond (sameKind k k') (some (k, n :: ns)) none | none => none
  | _ :: _ => none
noncomputable def aop_pick (E : Env C) (v : Vals C) (c a b : Operand) (H : AStore C) : R C :=
  match v c, v a, v b with
  | some (.bool t), some x, some y => some_ H (choose2 t x y)
  | _, _, _ => none
noncomputable def aop_alloc (E : Env C) (t : TypeId) (H : AStore C) : R C := (E.ti t).bind fun i => some (.ptr H.n 0, H.push (.cells i.zero t), [])
noncomputable def aop_box (E : Env C) (v : Vals C) (t : TypeId) (x : Operand) (H : AStore C) : R C :=
  match v x with
  | some (.tuple _) => none
  | some (.raw _) => none
  | some u => some (.ptr H.n 0, H.push (.cells u.cells t), [])
  | none => none
noncomputable def aop_load (E : Env C) (v : Vals C) (t : TypeId) (x : Operand) (H : AStore C) : R C :=
  match v x, E.ti t with
  | some (.ptr r o), some i =>
    match H.get r with
    | some (.cells c _) => (readRow i.desc i.size c o).bind (some_ H)
    | _ => none
  | some (.eptr r i' j), some i =>
    match H.get r with
    | some (.rows cid l) => match readRow i.desc i.size (rowAt E.K cid l i') j with
      | some u => some (u, H, [Nat.blt i' l.length])
      | none => none
    | some (.hole cid l h row) => match readRow i.desc i.size row j with
      | some u => some (u, H, [Nat.beq i' h])
      | none => none
    | _ => none
  | some (.fptr cid l i' j), some i => (readRow i.desc i.size (rowAt E.K cid l i') j).bind (some_ H)
  | some (.aptr r o n a), some i =>
    cond (isAggD i.desc) none (match H.get r with
    | some (.cells c _) => match intsOf ((c.drop o).take n) with
      | some (k, ns) => some (.int k (ns.getD a 0), H, [Nat.blt a ns.length])
      | none => none
    | _ => none)
  | _, _ => none
noncomputable def aop_store (E : Env C) (v : Vals C) (t : TypeId) (x y : Operand) (H : AStore C) : R C :=
  match v x, v y, E.ti t with
  | _, some (.raw _), _ => none
  | some (.ptr r o), some u, some i =>
    match H.get r with
    | some (.cells c t') =>
      if u.cells.length = i.size ∧ o + u.cells.length ≤ c.length then cond (u.cells.all V.one) (some (.tuple [], H.upd r (.cells (putAt c o u.cells) t'), [])) none else none
    | _ => none
  | some (.eptr r i' j), some u, some i =>
    if u.cells.length = i.size then
      match H.get r with
      | some (.rows cid _) => match absorb E.K ((E.K.kind cid).drop j) u.cells H with
        | some (us, H1) => match H1.get r with
          | some (.rows cid l) => if j + us.length ≤ E.K.k cid then cond (E.K.ok cid (putAt (rowAt E.K cid l i') j us))
              (some (.tuple [], H1.upd r (.rows cid (l.set i' (E.K.dec cid (putAt (rowAt E.K cid l i') j us)))), [Nat.blt i' l.length])) none else none
          | _ => none
        | none => none
      | some (.hole cid l h row) => if j + u.cells.length ≤ row.length then cond (u.cells.all V.one) (some (.tuple [], H.upd r (.hole cid l h (putAt row j u.cells)), [Nat.beq i' h])) none else none
      | _ => none
    else none
  | _, _, _ => none
noncomputable def aop_nilCheck (v : Vals C) (x : Operand) (H : AStore C) : R C :=
  match v x with
  | some (.ptr r o) => some_ H (.ptr r o)
  | some (.eptr r i j) => some_ H (.eptr r i j)
  | some (.fptr c l i j) => some_ H (.fptr c l i j)
  | some (.iface t u) => some_ H (.iface t u)
  | some (.func f a c) => some_ H (.func f a c)
  | _ => none
noncomputable def aop_fieldAddr (E : Env C) (v : Vals C) (s : TypeId) (x : Operand) (f : Nat) (H : AStore C) : R C :=
  match E.ti s with
  | some ⟨.struct fs, _, _, _, _⟩ =>
    match fs[f]? with
    | some fl => match E.ti fl.type with
      | some fi => if fi.size = 0 then none else match v x with
        | some (.ptr r o) => some_ H (.ptr r (o + fl.offset))
        | some (.eptr r i j) => some_ H (.eptr r i (j + fl.offset))
        | some (.fptr c l i j) => some_ H (.fptr c l i (j + fl.offset))
        | _ => none
      | none => none
    | none => none
  | _ => none
noncomputable def aop_field (E : Env C) (v : Vals C) (t : TypeId) (x : Operand) (f : Nat) (H : AStore C) : R C :=
  match v x, E.ti t with
  | some (.agg cs), some ⟨.struct fs, _, _, _, _⟩ =>
    match fs[f]? with
    | some fl => (partOf E fl.type cs fl.offset).bind (some_ H)
    | none => none
  | _, _ => none
/-- an index of an array whose number is known: the elements are told apart by it -/
noncomputable def aop_index (E : Env C) (v : Vals C) (o : Oper) (t : TypeId) (x i : Operand) (H : AStore C) : R C :=
  match v x, v i, E.ti t with
  | some (.agg cs), some (.int _ n), some ⟨.array len e, _, _, _, _⟩ =>
    match E.ti e with
    | some ei => match cond (Nat.beq ei.size 1) (cond (isAggD ei.desc) none (okLen len (intsOf cs))) none with
      | some (k, ns) => some (.int k (ns.getD n.toNat 0), H, [decide (0 ≤ n), decide (n < (len : Int))])
      | none => match partOf E e cs (n.toNat * ei.size) with
        | some u => some (u, H, [decide (0 ≤ n), decide (n < (len : Int))])
        | none => none
    | none => none
  | _, _, _ => plainOp E v o H
noncomputable def aop_indexAddr (E : Env C) (v : Vals C) (t : TypeId) (x i : Operand) (H : AStore C) : R C :=
  match E.ti t, v i with
  | some ⟨.slice e, _, _, _, _⟩, some (.int _ n) =>
    match E.ti e with
    | some ei => match v x with
      | some (.sl r o len c) => some (.ptr r (o + n.toNat * ei.size), H, [decide (0 ≤ n), decide (n < (len : Int))])
      | some (.rsw r) => match H.get r with
        | some (.rows cid l) => cond (Nat.beq (E.K.ty cid) e) (some (.eptr r n.toNat 0, H, [decide (0 ≤ n), decide (n < (l.length : Int))])) none
        | some (.hole cid l _ _) => cond (Nat.beq (E.K.ty cid) e) (some (.eptr r n.toNat 0, H, [decide (0 ≤ n), decide (n < (l.length : Int))])) none
        | _ => none
      | some (.rsl r o len c) => match H.get r with
        | some (.rows cid l) => cond (Nat.beq (E.K.ty cid) e) (some (.eptr r (n.toNat + o) 0, H, [decide (0 ≤ n), decide (n < (len : Int))])) none
        | _ => none
      | some (.fz _ cid l) => cond (Nat.beq (E.K.ty cid) e) (some (.fptr cid l n.toNat 0, H, [decide (0 ≤ n), decide (n < (l.length : Int))])) none
      | _ => none
    | none => none
  | some ⟨.array len e, _, _, _, _⟩, some (.int _ n) =>
    match E.ti e with
    | some ei => match v x with
      | some (.ptr r o) => match cond (Nat.beq ei.size 1) (cond (isAggD ei.desc) none (match H.get r with | some (.cells c _) => intsOf ((c.drop o).take len) | _ => none)) none with
        | some _ => some (.aptr r o len n.toNat, H, [decide (0 ≤ n), decide (n < (len : Int))])
        | none => some (.ptr r (o + n.toNat * ei.size), H, [decide (0 ≤ n), decide (n < (len : Int))])
      | some (.eptr r i j) => some (.eptr r i (j + n.toNat * ei.size), H, [decide (0 ≤ n), decide (n < (len : Int))])
      | some (.fptr c l i j) => some (.fptr c l i (j + n.toNat * ei.size), H, [decide (0 ≤ n), decide (n < (len : Int))])
      | _ => none
    | none => none
  | _, _ => none
noncomputable def aop_extract (v : Vals C) (x : Operand) (i : Nat) (H : AStore C) : R C :=
  match v x with
  | some (.tuple vs) => (vs[i]?).bind (some_ H)
  | _ => none
noncomputable def aop_makeFunc (v : Vals C) (f : FuncId) (a c : Array Operand) (H : AStore C) : R C :=
  match v.all a.toList, v.all c.toList with
  | some a, some c => some_ H (.func f a c)
  | _, _ => none
noncomputable def aop_makeInterface (E : Env C) (v : Vals C) (t : TypeId) (x : Operand) (H : AStore C) : R C :=
  match v x, E.ti t with
  | some u, some i => match i.desc with
    | .interface _ => none
    | _ => some_ H (.iface t u)
  | _, _ => none
def afill (place : Nat → Option (Nat × Nat)) (cells : List (V C)) : List (Nat × V C) → Option (List (V C))
  | [] => some cells
  | (_, .raw _) :: _ => none
  | (i, v) :: rest =>
    match place i with
    | none => none
    | some (off, size) =>
      if v.cells.length = size ∧ off + v.cells.length ≤ cells.length then afill place (putAt cells off v.cells) rest else none
noncomputable def aop_build (E : Env C) (v : Vals C) (t : TypeId) (parts : Array (Nat × Operand)) (H : AStore C) : R C :=
  match v.parts parts.toList, E.ti t with
  | some ps, some i =>
    match i.desc with
    | .struct fs => (afill (fun j => match fs[j]? with | some f => (E.ti f.type).map fun fi => (f.offset, fi.size) | none => none) i.zero ps).bind fun cs => some_ H (.agg cs)
    | .array _ e => match E.ti e with
      | some ei => (afill (fun j => some (j * ei.size, ei.size)) i.zero ps).bind fun cs => some_ H (.agg cs)
      | none => none
    | _ => none
  | _, _ => none
noncomputable def aop_buildSlice (E : Env C) (v : Vals C) (t : TypeId) (len : Nat) (parts : Array (Nat × Operand)) (H : AStore C) : R C :=
  match v.parts parts.toList, E.ti t with
  | some ps, some ⟨.slice e, _, _, _, _⟩ =>
    match E.ti e with
    | some ei =>
      if len * ei.size ≤ 16777216 ∧ ei.zero.length = ei.size then
        match afill (fun j => some (j * ei.size, ei.size)) (List.replicate len ei.zero).flatten ps with
        | some cs => match E.cid e with
          | none => some (.sl H.n 0 len len, H.push (.cells cs e), [])
          | some cid => cond (Nat.beq (E.K.ty cid) e) (match chunk E.K cid len cs H with
            | some (l, H1) => some (.rsw H1.n, H1.push (.rows cid l), [])
            | none => none) none
        | none => none
      else none
    | none => none
  | _, _ => none
noncomputable def aop_makeSlice (E : Env C) (v : Vals C) (t : TypeId) (l c : Operand) (H : AStore C) : R C :=
  match v l, v c, E.ti t with
  | some (.int .i64 ln), some (.int .i64 cn), some ⟨.slice e, _, _, _, _⟩ =>
    match E.ti e with
    | some ei =>
      if ei.zero.length = ei.size ∧ 0 < ei.bytes then
        match E.cid e with
        | none => some (.sl H.n 0 ln.toNat cn.toNat, H.push (.cells (List.replicate cn.toNat ei.zero).flatten e), [decide (0 ≤ ln), decide (ln ≤ cn), decide (cn * ei.bytes ≤ 281474976710656)])
        | some cid => cond (Nat.beq (E.K.ty cid) e) (match absorb E.K (E.K.kind cid) ei.zero H with
          | some (row, _) => cond (E.K.ok cid row) (some (.rsw H.n, H.push (.rows cid (List.replicate ln.toNat (E.K.dec cid row))), [decide (0 ≤ ln), ln == cn, decide (ln * ei.bytes ≤ 281474976710656)])) none
          | none => none) none
      else none
    | none => none
  | _, _, _ => none
def lcond : Option Int → List Bool
  | some l => [decide (0 ≤ l)]
  | none => []
/-- a part of a slice -/
noncomputable def aslice (E : Env C) (H : AStore C) (e : TypeId) (size : Nat) (l? h? : Option Int) : V C → R C
  | .sl r off n c => match H.get r with
    | some (.cells _ t) => cond (Nat.beq t e) (some (.sl r (off + (l?.getD 0).toNat * size) ((h?.getD n).toNat - (l?.getD 0).toNat) (c - (l?.getD 0).toNat), H, lcond l? ++ [decide (l?.getD 0 ≤ h?.getD n), decide (h?.getD n ≤ (c : Int)), Nat.ble n c])) none
    | _ => none
  | .rsw r => match H.get r with
    | some (.rows cid ls) => cond (Nat.beq (E.K.ty cid) e) (some (.rsl r (l?.getD 0).toNat ((h?.getD ls.length).toNat - (l?.getD 0).toNat) (ls.length - (l?.getD 0).toNat), H, lcond l? ++ [decide (l?.getD 0 ≤ h?.getD ls.length), decide (h?.getD ls.length ≤ (ls.length : Int))])) none
    | _ => none
  | .rsl r off n c => match H.get r with
    | some (.rows cid _) => cond (Nat.beq (E.K.ty cid) e) (some (.rsl r ((l?.getD 0).toNat + off) ((h?.getD n).toNat - (l?.getD 0).toNat) (c - (l?.getD 0).toNat), H, lcond l? ++ [decide (l?.getD 0 ≤ h?.getD n), decide (h?.getD n ≤ (c : Int)), Nat.ble n c])) none
    | _ => none
  | .fz nn cid ls => cond (Nat.beq (E.K.ty cid) e) (match h?, l? with
    | some h, some l => some (.fz nn cid (cut ls l.toNat (h.toNat - l.toNat)), H, [decide (0 ≤ l), decide (l ≤ h), decide (h ≤ (ls.length : Int))])
    | some h, none => some (.fz nn cid (ls.take h.toNat), H, [decide (0 ≤ h), decide (h ≤ (ls.length : Int))])
    | none, some l => some (.fz nn cid (ls.drop l.toNat), H, [decide (0 ≤ l), decide (l ≤ (ls.length : Int))])
    | none, none => some_ H (.fz nn cid ls)) none
  | .nilSl => some (.nilSl, H, lcond l? ++ [decide (l?.getD 0 ≤ h?.getD 0), decide (h?.getD 0 ≤ 0)])
  | _ => none
noncomputable def aop_slice (E : Env C) (v : Vals C) (o : Oper) (t : TypeId) (x : Operand) (lo hi mx : Option Operand) (H : AStore C) : R C :=
  match E.ti t, v x, bound v lo, bound v hi, mx with
  | some ⟨.slice e, _, _, _, _⟩, some xv, some l?, some h?, none =>
    match E.ti e with
    | some ei => aslice E H e ei.size l? h? xv
    | none => none
  | _, _, _, _, _ => plainOp E v o H
/-- what is appended: its cells -/
noncomputable def srcCells (E : Env C) (H : AStore C) (size : Nat) : V C → Option (List (V C) × Nat)
  | .nilSl => some ([], 0)
  | .sl r o m _ => match H.get r with
    | some (.cells c _) => if o + m * size ≤ c.length then some ((c.drop o).take (m * size), m) else none
    | _ => none
  | _ => none
/-- what is appended: its elements, and the store without it -/
noncomputable def srcRows (E : Env C) (cid : Nat) (H : AStore C) : V C → Option (List (C cid) × AStore C)
  | .nilSl => some ([], H)
  | .fz _ c l => if h : c = cid then some (h ▸ l, H) else none
  | .rsw r => match H.get r with
    | some (.rows c l) => if h : c = cid then some (h ▸ l, cond (E.K.pure cid) H (H.upd r .dead)) else none
    | _ => none
  | .rsl r o n _ => match H.get r with
    | some (.rows c l) => if h : c = cid then cond (E.K.pure cid) (some (cut (h ▸ l) o n, H)) none else none
    | _ => none
  | _ => none
noncomputable def aappend (E : Env C) (st : TypeId) (s x : V C) (H : AStore C) : R C :=
  match E.ti st with
  | some ⟨.slice e, _, _, _, _⟩ =>
    match E.ti e with
    | some ei =>
      if 0 < ei.size ∧ 0 < ei.bytes then
      match E.cid e with
      | none => match srcCells E H ei.size x with
        | some (news, m) =>
          match s with
          | .nilSl => if m = 0 then some (.nilSl, H, []) else cond (news.all V.one) (some (.sl H.n 0 m m, H.push (.cells news e), [decide (m * ei.bytes ≤ 140737488355328)])) none
          | .sl r o n c => match H.get r with
            | some (.cells cs t) =>
              if m = 0 then some (.sl r o n c, H, [Nat.ble n c]) else
              if t = e ∧ r < H.n ∧ o + n * ei.size ≤ cs.length then
                cond (news.all V.one) (some (.sl H.n 0 (n + m) (n + m), (H.push (.cells ((cs.drop o).take (n * ei.size) ++ news) e)).upd r .dead, [Nat.ble n c, decide ((n + m) * ei.bytes ≤ 140737488355328)])) none
              else none
            | _ => none
          | _ => none
        | none => none
      | some cid => cond (Nat.beq (E.K.ty cid) e) (match srcRows E cid H x with
        | some (news, H1) =>
          match s with
          | .nilSl => some (.rsw H1.n, H1.push (.rows cid news), [decide (news.length * ei.bytes ≤ 140737488355328)])
          | .rsw r => match H1.get r with
            | some (.rows c l) => if h : c = cid then cond (Nat.blt r H1.n) (some (.rsw H1.n, (H1.push (.rows cid ((h ▸ l) ++ news))).upd r .dead, [decide ((l.length + news.length) * ei.bytes ≤ 140737488355328)])) none else none
            | _ => none
          | .rsl r o n c' => match H1.get r with
            | some (.rows c l) => if h : c = cid then cond (Nat.blt r H1.n) (some (.rsw H1.n, (H1.push (.rows cid (cut (h ▸ l) o n ++ news))).upd r .dead, [Nat.ble n c', decide ((n + news.length) * ei.bytes ≤ 140737488355328)])) none else none
            | _ => none
          | _ => none
        | none => none) none
      else none
    | none => none
  | _ => none
noncomputable def aop_append (E : Env C) (v : Vals C) (s x : Operand) (st xt : TypeId) (H : AStore C) : R C :=
  match v s, v x with
  | some s, some x => if st = xt then aappend E st s x H else none
  | _, _ => none
def isNilSl : V C → Option Bool
  | .nilSl => some true
  | .sl _ _ _ (_ + 1) => some false
  | .fz true _ _ => some false
  | _ => none
noncomputable def aop_binOp (E : Env C) (v : Vals C) (o : Oper) (op : BinOp) (t : TypeId) (x y : Operand) (H : AStore C) : R C :=
  match v x, v y with
  | some (.int k a), some (.int k' b) => (ibin op k a k' b).map fun p => (p.1, H, p.2)
  | some (.agg xs), some (.agg ys) => match E.ti t, op with
    | some ⟨_, _, _, _, some ks⟩, .eql => (cellsEq ks xs ys).bind fun b => some_ H (.bool b)
    | some ⟨_, _, _, _, some ks⟩, .neq => (cellsEq ks xs ys).bind fun b => some_ H (.bool !b)
    | _, _ => plainOp E v o H
  | some xv, some .nilSl => match E.ti t, isNilSl xv, op with
    | some ⟨.slice _, _, _, _, _⟩, some b, .eql => some_ H (.bool b)
    | some ⟨.slice _, _, _, _, _⟩, some b, .neq => some_ H (.bool !b)
    | _, _, _ => none
  | _, _ => plainOp E v o H
noncomputable def lenOf (H : AStore C) : V C → Option Nat
  | .sl _ _ n _ => some n
  | .rsl _ _ n _ => some n
  | .fz _ _ l => some l.length
  | .nilSl => some 0
  | .rsw r => match H.get r with
    | some (.rows _ l) => some l.length
    | some (.hole _ l _ _) => some l.length
    | _ => none
  | _ => none
noncomputable def aop_len (E : Env C) (v : Vals C) (o : Oper) (x : Operand) (t : TypeId) (H : AStore C) : R C :=
  match v x, E.ti t with
  | some xv, some ⟨.slice _, _, _, _, _⟩ => match lenOf H xv with
    | some n => some_ H (.int .i64 n)
    | none => none
  | _, _ => plainOp E v o H
noncomputable def aop_cap (E : Env C) (v : Vals C) (x : Operand) (t : TypeId) (H : AStore C) : R C :=
  match v x, E.ti t with
  | some .nilSl, some ⟨.slice _, _, _, _, _⟩ => some_ H (.int .i64 0)
  | _, _ => none
noncomputable def aop_min (E : Env C) (v : Vals C) (o : Oper) (x y : Operand) (H : AStore C) : R C :=
  match v x, v y with
  | some (.int k a), some (.int _ b) => some_ H (.int k (if b < a then b else a))
  | _, _ => plainOp E v o H
noncomputable def aop_max (E : Env C) (v : Vals C) (o : Oper) (x y : Operand) (H : AStore C) : R C :=
  match v x, v y with
  | some (.int k a), some (.int _ b) => some_ H (.int k (if b > a then b else a))
  | _, _ => plainOp E v o H
noncomputable def aop_not (v : Vals C) (x : Operand) (H : AStore C) : R C :=
  match v x with
  | some (.bool b) => some_ H (.bool !b)
  | _ => none
noncomputable def aop_neg (v : Vals C) (x : Operand) (H : AStore C) : R C :=
  match v x with
  | some (.int k a) => some_ H (.int k (wr k (0 - a)))
  | _ => none
noncomputable def aop_convert (E : Env C) (v : Vals C) (o : Oper) (s d : TypeId) (x : Operand) (H : AStore C) : R C :=
  match v x, E.ti s, E.ti d with
  | some (.int _ n), some _, some ⟨.int k, _, _, _, _⟩ => some_ H (.int k (wr k n))
  | some (.fz _ cid l), some ⟨.slice e, _, _, _, _⟩, some ⟨.string, _, _, _, _⟩ => cond (Nat.blt cid E.K.n && E.K.isStr cid && Nat.beq (E.K.ty cid) e) (some_ H (.str (E.K.str cid l))) none
  | some (.rsw r), some ⟨.slice e, _, _, _, _⟩, some ⟨.string, _, _, _, _⟩ => match H.get r with
    | some (.rows cid l) => cond (Nat.blt cid E.K.n && E.K.isStr cid && Nat.beq (E.K.ty cid) e) (some_ H (.str (E.K.str cid l))) none
    | _ => none
  | _, _, _ => plainOp E v o H
noncomputable def aop (E : Env C) (v : Vals C) (o : Oper) (H : AStore C) : R C :=
  match o.op with
  | .move x | .assign x => (v x).bind (some_ H)
  | .pick c a b => aop_pick E v c a b H
  | .alloc t => aop_alloc E t H
  | .box t x => aop_box E v t x H
  | .load t x => aop_load E v t x H
  | .store t x y => aop_store E v t x y H
  | .nilCheck x => aop_nilCheck v x H
  | .fieldAddr s x f => aop_fieldAddr E v s x f H
  | .field t x f => aop_field E v t x f H
  | .index t x i => aop_index E v o t x i H
  | .indexAddr t x i => aop_indexAddr E v t x i H
  | .extract x i => aop_extract v x i H
  | .makeFunc (.func f) a c => aop_makeFunc v f a c H
  | .makeInterface t x => aop_makeInterface E v t x H
  | .build t parts => aop_build E v t parts H
  | .buildSlice t len parts => aop_buildSlice E v t len parts H
  | .makeSlice t l c => aop_makeSlice E v t l c H
  | .slice t x lo hi mx => aop_slice E v o t x lo hi mx H
  | .binOp op t x y _ => aop_binOp E v o op t x y H
  | .call { callee := .builtin .len, args := ⟨[x]⟩, argTypes := ⟨[t]⟩ } => aop_len E v o x t H
  | .call { callee := .builtin .cap, args := ⟨[x]⟩, argTypes := ⟨[t]⟩ } => aop_cap E v x t H
  | .call { callee := .builtin .append, args := ⟨[s, x]⟩, argTypes := ⟨[st, xt]⟩ } => aop_append E v s x st xt H
  | .call { callee := .builtin .min, args := ⟨[x, y]⟩, .. } => aop_min E v o x y H
  | .call { callee := .builtin .max, args := ⟨[x, y]⟩, .. } => aop_max E v o x y H
  | .unOp .not _ x => aop_not v x H
  | .unOp .neg _ x => aop_neg v x H
  | .convert s d x => aop_convert E v o s d x H
  | .call { callee := .builtin _, .. } | .unOp .. | .typeAssert .. => plainOp E v o H
  | _ => none
end Go.Vm
/- A generic text: changes of names and stores. No program. -/
set_option linter.unusedVariables false
set_option linter.unusedSimpArgs false
namespace Go.Vm
open Go
variable {C : Nat → Type}

def V.cell1 : V C → Bool
  | .agg _ | .tuple _ | .raw _ => false
  | _ => true
def Codec.snap (K : Codec C) : V C → V C
  | .own c l => .fz false (K.fzOf c) (K.toFz c l)
  | v => v
/-- what is known may be told less exactly -/
inductive Coe (K : Codec C) : V C → V C → Prop
  | refl (v) : Coe K v v
  | nilOwn {c} : c < K.n → Coe K .nilSl (.own c [])
  | nilFz (c) : Coe K .nilSl (.fz false c [])
  | fz (nn c l) : Coe K (.fz nn c l) (.fz false c l)
inductive Coes (K : Codec C) : List (V C) → List (V C) → Prop
  | nil : Coes K [] []
  | cons {u v l l'} : Coe K u v → Coes K l l' → Coes K (u :: l) (v :: l')
/-- a cell that refers to no root -/
def V.root0 : V C → Bool
  | .bool _ | .int _ _ | .str _ | .nilFunc | .nilIface | .nilPtr | .nilSl | .nilMap | .fz _ _ _ | .own _ _ => true
  | _ => false
structure CodecOk (P : Program) (K : Codec C) : Prop where
  size : ∀ cid, cid < K.n → K.k cid = P.cellsOf (K.ty cid)
  pos : ∀ cid, cid < K.n → 0 < K.k cid
  len : ∀ cid, cid < K.n → ∀ x, (K.enc cid x).length = K.k cid
  cell : ∀ cid, cid < K.n → ∀ x, ∀ v ∈ K.enc cid x, v.cell1 = true
  root0 : ∀ cid, cid < K.n → ∀ x, ∀ v ∈ K.enc cid x, v.root0 = true
  okd : ∀ cid, cid < K.n → ∀ row, K.ok cid row = true → Coes K row (K.enc cid (K.dec cid row))
  pure : ∀ cid, cid < K.n → K.pure cid = true → ∀ x, ∀ v ∈ K.enc cid x, v.isOwn = false
  fzn : ∀ cid, cid < K.n → K.fzOf cid < K.n ∧ K.ty (K.fzOf cid) = K.ty cid
  fzl : ∀ cid l, (K.toFz cid l).length = l.length
  fz : ∀ cid, cid < K.n → ∀ l, K.flat (K.fzOf cid) (K.toFz cid l) = (K.flat cid l).map K.snap
  str : ∀ cid, cid < K.n → K.isStr cid = true → P.underlying (K.ty cid) = some (.int .u8) ∧ K.k cid = 1 ∧ ∀ l : List (C cid), ∃ ns : List Int, K.flat cid l = ns.map (V.int .u8) ∧ K.str cid l = ⟨(ns.map fun n => UInt8.ofNat n.toNat).toArray⟩
/-- the same, of the model's own values -/
def scalarEqV : CK → Value → Value → Option Bool
  | .int, .int k a, .int k' b => cond (sameKind k k') (some (a == b)) none
  | .bool, .bool a, .bool b => some (a == b)
  | .string, .string a, .string b => some (a == b)
  | _, _, _ => none
def cellsEqV : List CK → List Value → List Value → Option Bool
  | [], [], [] => some true
  | k :: ks, v :: l, v' :: l' => match scalarEqV k v v', cellsEqV ks l l' with
    | some b, some c => some (b && c)
    | _, _ => none
  | _, _, _ => none
structure TIOk (P : Program) (t : TypeId) (i : TI C) : Prop where
  under : P.underlying t = some i.desc
  info : ∃ f z, P.info? t = some f ∧ f.size = i.size ∧ f.bytes = i.bytes ∧ f.zero = some z ∧ toVals 99 i.zero = some z.cells.toList
  zlen : i.zero.length = i.size
  fields : ∀ fs, i.desc = .struct fs → ∀ f ∈ fs.toList, (P.info? f.type).isSome = true
  flat : ∀ ks, i.flat = some ks → ∀ (w : World) (xs ys : List Value) (b : Bool), cellsEqV ks xs ys = some b → (Op.equal t (.agg ⟨xs⟩) (.agg ⟨ys⟩)).run P w = .ok b w
  guard : ∀ ks, i.flat = some ks → P.eqGuardType P.depth t = false
structure EnvOk (E : Env C) : Prop where
  codec : CodecOk E.P E.K
  ti : ∀ t i, E.ti t = some i → TIOk E.P t i
  fn : ∀ f F, E.fn f = some F → E.P.funcs[f]? = some F ∧ (F.name == "runtime.NumGoroutine") = false
  cid : ∀ e c, E.cid e = some c → c < E.K.n

section
variable {K : Codec C} {ρ : Ren} {w : World}
theorem RelL.length : ∀ {l : List (V C)} {l' : List Value}, RelL K ρ l l' → l.length = l'.length
  | _, _, .nil => rfl
  | _, _, .cons _ k => by simp [k.length]
theorem RelL.get : ∀ {l : List (V C)} {l' : List Value} (_ : RelL K ρ l l') (i : Nat) (v : V C), l[i]? = some v → ∃ v', l'[i]? = some v' ∧ RelV K ρ v v'
  | _, _, .nil, i, v, h => by simp at h
  | _, _, .cons a k, 0, v, h => by simp at h; subst h; exact ⟨_, rfl, a⟩
  | _, _, .cons a k, i + 1, v, h => by simpa using k.get i v (by simpa using h)
theorem RelL.of : ∀ {l : List (V C)} {l' : List Value}, l.length = l'.length → (∀ (i : Nat) (v : V C), l[i]? = some v → ∃ v', l'[i]? = some v' ∧ RelV K ρ v v') → RelL K ρ l l'
  | [], [], _, _ => .nil
  | [], b :: l', h, _ => by simp at h
  | a :: l, [], h, _ => by simp at h
  | a :: l, b :: l', h, k => by
    obtain ⟨v', e, r⟩ := k 0 a rfl
    simp at e; subst e
    exact .cons r (RelL.of (by simpa using h) fun i v hv => by simpa using k (i + 1) v (by simpa using hv))
theorem RelL.append : ∀ {l m : List (V C)} {l' m' : List Value}, RelL K ρ l l' → RelL K ρ m m' → RelL K ρ (l ++ m) (l' ++ m')
  | _, _, _, _, .nil, k => k
  | _, _, _, _, .cons a h, k => .cons a (h.append k)
theorem RelL.take : ∀ (n : Nat) {l : List (V C)} {l' : List Value}, RelL K ρ l l' → RelL K ρ (l.take n) (l'.take n)
  | 0, _, _, _ => by simpa using RelL.nil
  | n + 1, _, _, .nil => by simpa using RelL.nil
  | n + 1, _, _, .cons a h => by simpa using RelL.cons a (h.take n)
theorem RelL.drop : ∀ (n : Nat) {l : List (V C)} {l' : List Value}, RelL K ρ l l' → RelL K ρ (l.drop n) (l'.drop n)
  | 0, _, _, h => by simpa using h
  | n + 1, _, _, .nil => by simpa using RelL.nil
  | n + 1, _, _, .cons a h => by simpa using h.drop n
theorem RelC.val_of {u : V C} {v : Value} {g : List Nat} (h : RelC K ρ w u v g) (ho : u.isOwn = false) : RelV K ρ u v ∧ g = [] := by
  cases h with
  | val k => exact ⟨k, rfl⟩
  | own => simp [V.isOwn] at ho
  | ownNil => simp [V.isOwn] at ho
  | ownEmp => simp [V.isOwn] at ho
theorem V.one_own {u : V C} (h : u.one = true) : u.isOwn = false := by cases u <;> simp_all [V.one, V.isOwn]
theorem RelV.coe {u u' : V C} {v : Value} (h : RelV K ρ u v) (c : Coe K u u') (ho : u'.isOwn = false) : RelV K ρ u' v := by
  cases c with
  | refl => exact h
  | nilOwn => simp [V.isOwn] at ho
  | nilFz c => cases h; exact .fzNil c
  | fz nn c l =>
    cases h with
    | fz a b c d e f g i => exact .fz a b c d e f g i
    | fzEmp a b c d => exact .fzEmp _ _ _ _
    | fzNil c => exact .fzNil c
theorem RelC.coe {u u' : V C} {v : Value} {g : List Nat} (h : RelC K ρ w u v g) (c : Coe K u u') : RelC K ρ w u' v g := by
  cases c with
  | refl => exact h
  | nilOwn c =>
    obtain ⟨h1, rfl⟩ := h.val_of rfl
    cases h1; exact .ownNil c
  | nilFz c =>
    obtain ⟨h1, rfl⟩ := h.val_of rfl
    exact .val (h1.coe (.nilFz c) rfl)
  | fz nn c l =>
    obtain ⟨h1, rfl⟩ := h.val_of rfl
    exact .val (h1.coe (.fz nn c l) rfl)
theorem Coes.length : ∀ {l l' : List (V C)}, Coes K l l' → l.length = l'.length
  | _, _, .nil => rfl
  | _, _, .cons _ h => by simp [h.length]
theorem Coes.get : ∀ {l l' : List (V C)}, Coes K l l' → ∀ (i : Nat) (v : V C), l'[i]? = some v → ∃ u, l[i]? = some u ∧ Coe K u v
  | _, _, .nil, i, v, h => by simp at h
  | _, _, .cons a _, 0, v, h => by simp at h; subst h; exact ⟨_, rfl, a⟩
  | _, _, .cons _ k, i + 1, v, h => by simpa using k.get i v (by simpa using h)
end

/-! ### flat lists of rows -/
section
variable {P : Program} {K : Codec C}
theorem flat_nil (K : Codec C) (cid : Nat) : K.flat cid [] = [] := rfl
theorem flat_cons (K : Codec C) (cid : Nat) (x : C cid) (l : List (C cid)) : K.flat cid (x :: l) = K.enc cid x ++ K.flat cid l := by simp [Codec.flat]
theorem flat_append (K : Codec C) (cid : Nat) (l l' : List (C cid)) : K.flat cid (l ++ l') = K.flat cid l ++ K.flat cid l' := by simp [Codec.flat]
theorem flat_length (hK : CodecOk P K) {cid : Nat} (hc : cid < K.n) (l : List (C cid)) : (K.flat cid l).length = l.length * K.k cid := by
  induction l with
  | nil => simp [flat_nil]
  | cons x l ih => rw [flat_cons, List.length_append, ih, hK.len cid hc, List.length_cons, Nat.add_mul]; omega
theorem flat_row (hK : CodecOk P K) {cid : Nat} (hc : cid < K.n) : ∀ (l : List (C cid)) (i j : Nat), i < l.length → j < K.k cid → (K.flat cid l)[i * K.k cid + j]? = (rowAt K cid l i)[j]?
  | [], i, j, h, _ => by simp at h
  | x :: l, 0, j, _, hj => by
    rw [flat_cons, List.getElem?_append_left (by rw [hK.len cid hc]; omega)]
    simp [rowAt]
  | x :: l, i + 1, j, h, hj => by
    have hl := hK.len cid hc x
    rw [flat_cons, List.getElem?_append_right (by rw [hl, Nat.add_mul]; omega), hl, show (i + 1) * K.k cid + j - K.k cid = i * K.k cid + j by rw [Nat.add_mul]; omega, flat_row hK hc l i j (by simpa using h) hj]
    simp [rowAt]
theorem flat_take (hK : CodecOk P K) {cid : Nat} (hc : cid < K.n) : ∀ (l : List (C cid)) (n : Nat), (K.flat cid l).take (n * K.k cid) = K.flat cid (l.take n)
  | [], n => by simp [flat_nil]
  | x :: l, 0 => by simp [flat_nil]
  | x :: l, n + 1 => by
    have hl := hK.len cid hc x
    rw [flat_cons, List.take_succ_cons, flat_cons, List.take_append, hl, List.take_of_length_le (by rw [hl, Nat.add_mul]; omega), show (n + 1) * K.k cid - K.k cid = n * K.k cid by rw [Nat.add_mul]; omega, flat_take hK hc l n]
theorem flat_drop (hK : CodecOk P K) {cid : Nat} (hc : cid < K.n) : ∀ (l : List (C cid)) (n : Nat), (K.flat cid l).drop (n * K.k cid) = K.flat cid (l.drop n)
  | [], n => by simp [flat_nil]
  | x :: l, 0 => by simp
  | x :: l, n + 1 => by
    have hl := hK.len cid hc x
    rw [flat_cons, List.drop_succ_cons, List.drop_append, hl, List.drop_of_length_le (by rw [hl, Nat.add_mul]; omega), show (n + 1) * K.k cid - K.k cid = n * K.k cid by rw [Nat.add_mul]; omega, flat_drop hK hc l n, List.nil_append]
theorem flat_set (hK : CodecOk P K) {cid : Nat} (hc : cid < K.n) (l : List (C cid)) (i : Nat) (x : C cid) (h : i < l.length) : K.flat cid (l.set i x) = K.flat cid (l.take i) ++ K.enc cid x ++ K.flat cid (l.drop (i + 1)) := by
  rw [List.set_eq_take_append_cons_drop, if_pos h, flat_append, flat_cons, List.append_assoc]
theorem flat_split (hK : CodecOk P K) {cid : Nat} (hc : cid < K.n) (l : List (C cid)) (i : Nat) (h : i < l.length) : K.flat cid l = K.flat cid (l.take i) ++ rowAt K cid l i ++ K.flat cid (l.drop (i + 1)) := by
  have : l = l.take i ++ (l[i] :: l.drop (i + 1)) := by rw [List.getElem_cons_drop, List.take_append_drop]
  conv => lhs; rw [this]
  rw [flat_append, flat_cons, List.append_assoc]
  congr 2
  simp [rowAt, List.getElem?_eq_getElem h]
theorem flat_cell (hK : CodecOk P K) {cid : Nat} (hc : cid < K.n) (l : List (C cid)) : ∀ v ∈ K.flat cid l, v.cell1 = true := by
  intro v hv
  simp only [Codec.flat, List.mem_flatten, List.mem_map] at hv
  obtain ⟨_, ⟨x, _, rfl⟩, h⟩ := hv
  exact hK.cell cid hc x v h
theorem flat_pure (hK : CodecOk P K) {cid : Nat} (hc : cid < K.n) (hp : K.pure cid = true) (l : List (C cid)) : ∀ v ∈ K.flat cid l, v.isOwn = false := by
  intro v hv
  simp only [Codec.flat, List.mem_flatten, List.mem_map] at hv
  obtain ⟨_, ⟨x, _, rfl⟩, h⟩ := hv
  exact hK.pure cid hc hp x v h
end

/-! ### names change -/
def Ren.setM (ρ : Ren) (r : Nat) (x : RS) : Ren := { ρ with m := fun r' => if r' = r then x else ρ.m r' }
def Ren.setF (ρ : Ren) (r : Nat) (g : Nat → List Nat) : Ren := { ρ with f := fun r' => if r' = r then g else ρ.f r' }
theorem Ren.setM_same (ρ : Ren) (r : Nat) (x : RS) : (ρ.setM r x).m r = x := if_pos rfl
theorem Ren.setM_ne (ρ : Ren) {r r' : Nat} (x : RS) (h : r' ≠ r) : (ρ.setM r x).m r' = ρ.m r' := if_neg h
theorem Ren.setF_same (ρ : Ren) (r : Nat) (g : Nat → List Nat) : (ρ.setF r g).f r = g := if_pos rfl
theorem Ren.setF_ne (ρ : Ren) {r r' : Nat} (g : Nat → List Nat) (h : r' ≠ r) : (ρ.setF r g).f r' = ρ.f r' := if_neg h
theorem Ren.le_setM {ρ : Ren} {r : Nat} (x : RS) (h : ρ.m r = .no) : ρ.le (ρ.setM r x) := by
  refine ⟨fun r' e => ?_, fun r' e => ?_, fun r' b s k z q e => ?_, fun _ _ h => h⟩ <;> (by_cases er : r' = r; · subst er; rw [h] at e; cases e)
  · rw [Ren.setM_ne _ _ er]; exact e
  · rw [Ren.setM_ne _ _ er]; exact .inl e
  · rw [Ren.setM_ne _ _ er]; exact .inl e
theorem Ren.le_kill (ρ : Ren) (r : Nat) : ρ.le (ρ.setM r .dead) := by
  refine ⟨fun r' e => ?_, fun r' e => ?_, fun r' b s k z q e => ?_, fun _ _ h => h⟩ <;> by_cases er : r' = r
  · subst er; exact Ren.setM_same ..
  · rw [Ren.setM_ne _ _ er]; exact e
  · subst er; exact .inr (Ren.setM_same ..)
  · rw [Ren.setM_ne _ _ er]; exact .inl e
  · subst er; exact .inr (Ren.setM_same ..)
  · rw [Ren.setM_ne _ _ er]; exact .inl e
theorem Ren.le_setF (ρ : Ren) (r : Nat) (g : Nat → List Nat) : ρ.le (ρ.setF r g) := ⟨fun _ e => e, fun _ e => .inl e, fun _ _ _ _ _ _ e => .inl e, fun _ _ h => h⟩

section
variable {P : Program} {K : Codec C} {ρ ρ' : Ren} {H : AStore C} {w w' : World}
theorem RelB.mono {r r' b s k z q : Nat} {o : AObj C} (h : RelB K P ρ w r b s k z q o) (hl : ρ.le ρ') (hf : ρ'.f r' = ρ.f r) (hw : w'.heap[b]? = w.heap[b]?) (hg : ∀ i, ∀ b' ∈ ρ.f r i, w'.heap[b']? = w.heap[b']?) : RelB K P ρ' w' r' b s k z q o := by
  have key : ∀ o : AObj C, (∃ c t cs, o.flat K = some (c, t) ∧ k = P.cellsOf t ∧ w.heap[b]? = some (.cells cs t (0, 0)) ∧ cs.size = z ∧ s + c.length ≤ z ∧
      ∀ (i : Nat) (v : V C), c[i]? = some v → ∃ v', cs[s + i]? = some v' ∧ RelC K ρ w v v' (ρ.f r i)) → (∃ c t cs, o.flat K = some (c, t) ∧ k = P.cellsOf t ∧ w'.heap[b]? = some (.cells cs t (0, 0)) ∧ cs.size = z ∧ s + c.length ≤ z ∧
      ∀ (i : Nat) (v : V C), c[i]? = some v → ∃ v', cs[s + i]? = some v' ∧ RelC K ρ' w' v v' (ρ'.f r' i)) := by
    rintro o ⟨c, t, cs, h1, h2, h3, h4, h5, h6⟩
    refine ⟨c, t, cs, h1, h2, hw.trans h3, h4, h5, fun i v hv => ?_⟩
    obtain ⟨v', g1, g2⟩ := h6 i v hv
    exact ⟨v', g1, by rw [hf]; exact g2.mono hl fun b' hb' => hg i b' hb'⟩
  cases o with
  | dead => exact h
  | cells c t => exact ⟨h.1, key _ h.2⟩
  | rows c l => exact ⟨h.1, key _ h.2⟩
  | hole c l i row => exact ⟨h.1, key _ h.2⟩
  | map es =>
    obtain ⟨h1, h2, h3, h4, es', clk, hh, hl', he⟩ := h
    exact ⟨h1, h2, h3, h4, es', clk, hw.trans hh, hl', fun i e hi => by obtain ⟨e', a, b, c⟩ := he i e hi; exact ⟨e', a, b.mono hl, c.mono hl⟩⟩
/-- a block with cells -/
structure Lies (K : Codec C) (P : Program) (ρ : Ren) (w : World) (r b s k z : Nat) (c : List (V C)) (t : TypeId) (cs : Array Value) : Prop where
  k : k = P.cellsOf t
  heap : w.heap[b]? = some (.cells cs t (0, 0))
  size : cs.size = z
  fits : s + c.length ≤ z
  rel : ∀ (i : Nat) (v : V C), c[i]? = some v → ∃ v', cs[s + i]? = some v' ∧ RelC K ρ w v v' (ρ.f r i)
theorem RelB.lies {r b s k z q : Nat} {o : AObj C} (h : RelB K P ρ w r b s k z q o) {c : List (V C)} {t : TypeId} (hf : o.flat K = some (c, t)) : (o.isRows = true → q = o.count) ∧ ∃ cs, Lies K P ρ w r b s k z c t cs := by
  cases o with
  | dead => simp [AObj.flat] at hf
  | map es => simp [AObj.flat] at hf
  | cells c' t' =>
    obtain ⟨h0, c1, t1, cs, h1, h2, h3, h4, h5, h6⟩ := h
    rw [hf] at h1; cases h1
    exact ⟨h0, cs, h2, h3, h4, h5, h6⟩
  | rows cid l =>
    obtain ⟨h0, c1, t1, cs, h1, h2, h3, h4, h5, h6⟩ := h
    rw [hf] at h1; cases h1
    exact ⟨h0, cs, h2, h3, h4, h5, h6⟩
  | hole cid l i row =>
    obtain ⟨h0, c1, t1, cs, h1, h2, h3, h4, h5, h6⟩ := h
    rw [hf] at h1; cases h1
    exact ⟨h0, cs, h2, h3, h4, h5, h6⟩
theorem Lies.relB {r b s k z q : Nat} {o : AObj C} {c : List (V C)} {t : TypeId} {cs : Array Value} (h : Lies K P ρ w r b s k z c t cs) (hf : o.flat K = some (c, t)) (hq : o.isRows = true → q = o.count) : RelB K P ρ w r b s k z q o := by
  have := h.k
  cases o with
  | dead => simp [AObj.flat] at hf
  | map es => simp [AObj.flat] at hf
  | cells c' t' => exact ⟨hq, c, t, cs, hf, h.k, h.heap, h.size, h.fits, h.rel⟩
  | rows cid l => exact ⟨hq, c, t, cs, hf, h.k, h.heap, h.size, h.fits, h.rel⟩
  | hole cid l i row => exact ⟨hq, c, t, cs, hf, h.k, h.heap, h.size, h.fits, h.rel⟩
theorem flat_obj {o : AObj C} {c : List (V C)} {t : TypeId} (hf : o.flat K = some (c, t)) : o ≠ .dead := by rintro rfl; simp [AObj.flat] at hf
theorem RelS.drew (h : RelS K P ρ H w) : RelS K P ρ H w.drew := ⟨h.names, fun r b s k z q o e g => (h.blk r b s k z q o e g).mono (Ren.le_refl _) rfl rfl fun _ _ _ => rfl, h.emp, h.dead, h.frz⟩
theorem Ext.drew_ (ρ : Ren) (n : Nat) (W : Nat → Nat → Prop) (T : Nat → Prop) (w : World) : Ext ρ ρ n W T w w.drew :=
  ⟨Ren.le_refl ρ, Nat.le_refl _, rfl, rfl, rfl, fun _ _ _ => rfl, fun _ _ _ _ _ _ _ _ cs t fr h => ⟨cs, h, rfl, fun _ _ => rfl⟩, fun _ _ _ _ _ _ h _ => .inl h, fun _ _ _ h _ => .inl h, fun _ _ h _ => .inl h, fun _ _ _ => rfl, fun _ _ _ _ => rfl⟩
/-- a new block, that owns nothing -/
theorem RelS.push (h : RelS K P ρ H w) {o : AObj C} {c : List (V C)} {cs : Array Value} {t : TypeId} {q : Nat} (hf : o.flat K = some (c, t)) (hq : o.isRows = true → q = o.count) (hl : ∀ (i : Nat) (v : V C), c[i]? = some v → ∃ v', cs[i]? = some v' ∧ RelV K ρ v v') (hsz : c.length ≤ cs.size) (W : Nat → Nat → Prop) (T : Nat → Prop) :
    RelS K P (ρ.setM H.n (.to w.heap.size 0 (P.cellsOf t) cs.size q)) (H.push o) (w.alloc (.cells cs t)) ∧ Ext ρ (ρ.setM H.n (.to w.heap.size 0 (P.cellsOf t) cs.size q)) H.n W T w (w.alloc (.cells cs t)) := by
  have hN := h.names
  have hno := (hN.dom H.n (Nat.le_refl _)).1
  have hle := Ren.le_setM (.to w.heap.size 0 (P.cellsOf t) cs.size q) hno
  have old : ∀ b, b < w.heap.size → (w.alloc (.cells cs t)).heap[b]? = w.heap[b]? := fun b hb => heap_alloc_old w _ _ hb
  constructor
  · constructor
    · refine hN.remap (by simp) Eq (fun y x x' e e' => e.symm.trans e') (.root H.n) (fun b x hx => ?_) hN.nod fun r hr => ?_
      · cases x with
        | root r =>
          obtain ⟨s, k, z, q', e⟩ := hx
          by_cases er : r = H.n
          · subst er
            rw [Ren.setM_same] at e; cases e
            exact .inl ⟨Nat.le_refl _, by simp, rfl⟩
          · rw [Ren.setM_ne _ _ er] at e
            exact .inr ⟨.root r, ⟨s, k, z, q', e⟩, rfl⟩
        | cell r i => exact .inr ⟨.cell r i, hx, rfl⟩
        | ice => exact .inr ⟨.ice, hx, rfl⟩
      · have hr' : H.n + 1 ≤ r := hr
        exact ⟨(Ren.setM_ne _ _ (by omega)).trans (hN.dom r (by omega)).1, (hN.dom r (by omega)).2⟩
    · intro r b s k z q' o' e g
      by_cases er : r = H.n
      · subst er
        rw [Ren.setM_same] at e; cases e
        rw [AStore.get_push, if_pos rfl] at g; cases g
        have hfn : ∀ i, (ρ.setM H.n (.to w.heap.size 0 (P.cellsOf t) cs.size q)).f H.n i = [] := (hN.dom H.n (Nat.le_refl _)).2
        refine Lies.relB (c := c) (t := t) (cs := cs) ⟨rfl, heap_alloc_new w _, rfl, by omega, fun i v hv => ?_⟩ hf hq
        obtain ⟨v', h1, h2⟩ := hl i v hv
        exact ⟨v', by rw [Nat.zero_add]; exact h1, by rw [hfn]; exact .val (h2.mono hle)⟩
      · rw [Ren.setM_ne _ _ er] at e
        rw [AStore.get_push, if_neg er] at g
        refine (h.blk r b s k z q' o' e g).mono hle rfl (old b (hN.live e)) fun i b' hb' => old b' (hN.lt b' (.cell r i) hb')
    · intro r o' e g
      by_cases er : r = H.n
      · subst er; rw [Ren.setM_same] at e; cases e
      · rw [Ren.setM_ne _ _ er] at e
        rw [AStore.get_push, if_neg er] at g
        exact h.emp r o' e g
    · intro r o' e g
      by_cases er : r = H.n
      · subst er; rw [Ren.setM_same] at e; cases e
      · rw [Ren.setM_ne _ _ er] at e
        rw [AStore.get_push, if_neg er] at g
        exact h.dead r o' e g
    · intro b cs' t' e
      obtain ⟨fr, h1⟩ := h.frz b cs' t' e
      exact ⟨fr, (old b (hN.lt b .ice ⟨_, e⟩)).trans h1⟩
  · refine ⟨hle, by simp, rfl, rfl, rfl, fun b hb _ => old b hb, fun r b s k z q' e _ cs' t' fr hh => ⟨cs', (old b (hN.live e)).trans hh, rfl, fun _ _ => rfl⟩, fun r b s k z q' e hb => ?_, fun r i b e _ => .inl e, fun b x e _ => .inl e, fun r hr _ => Ren.setM_ne _ _ (Nat.ne_of_lt hr), fun _ _ _ _ => rfl⟩
    by_cases er : r = H.n
    · subst er; rw [Ren.setM_same] at e; cases e; exact absurd hb (Nat.lt_irrefl _)
    · rw [Ren.setM_ne _ _ er] at e; exact .inl e
/-- a new name for an empty list -/
theorem RelS.pushEmp (h : RelS K P ρ H w) {cid : Nat} (hc : cid < K.n) (W : Nat → Nat → Prop) (T : Nat → Prop) : RelS K P (ρ.setM H.n .emp) (H.push (.rows cid [])) w ∧ Ext ρ (ρ.setM H.n .emp) H.n W T w w := by
  have hN := h.names
  have hno := (hN.dom H.n (Nat.le_refl _)).1
  have hle := Ren.le_setM .emp hno
  have back : ∀ r b s k z q, (ρ.setM H.n .emp).m r = .to b s k z q → r ≠ H.n ∧ ρ.m r = .to b s k z q := by
    intro r b s k z q e
    by_cases er : r = H.n
    · subst er; rw [Ren.setM_same] at e; cases e
    · rw [Ren.setM_ne _ _ er] at e; exact ⟨er, e⟩
  constructor
  · constructor
    · refine hN.remap (Nat.le_refl _) Eq (fun y x x' e e' => e.symm.trans e') .ice (fun b x hx => .inr ⟨x, ?_, rfl⟩) hN.nod fun r hr => ?_
      · cases x with
        | root r =>
          obtain ⟨s, k, z, q', e⟩ := hx
          exact ⟨s, k, z, q', (back _ _ _ _ _ _ e).2⟩
        | cell r i => exact hx
        | ice => exact hx
      · have hr' : H.n + 1 ≤ r := hr
        exact ⟨(Ren.setM_ne _ _ (by omega)).trans (hN.dom r (by omega)).1, (hN.dom r (by omega)).2⟩
    · intro r b s k z q' o' e g
      obtain ⟨er, e⟩ := back _ _ _ _ _ _ e
      rw [AStore.get_push, if_neg er] at g
      exact (h.blk r b s k z q' o' e g).mono hle rfl rfl fun _ _ _ => rfl
    · intro r o' e g
      by_cases er : r = H.n
      · subst er
        rw [AStore.get_push, if_pos rfl] at g; cases g
        exact ⟨cid, hc, rfl⟩
      · rw [Ren.setM_ne _ _ er] at e
        rw [AStore.get_push, if_neg er] at g
        exact h.emp r o' e g
    · intro r o' e g
      by_cases er : r = H.n
      · subst er; rw [Ren.setM_same] at e; cases e
      · rw [Ren.setM_ne _ _ er] at e
        rw [AStore.get_push, if_neg er] at g
        exact h.dead r o' e g
    · exact h.frz
  · exact ⟨hle, Nat.le_refl _, rfl, rfl, rfl, fun b hb _ => rfl, fun r b s k z q' e _ cs' t' fr hh => ⟨cs', hh, rfl, fun _ _ => rfl⟩, fun r b s k z q' e hb => .inl (back _ _ _ _ _ _ e).2, fun r i b e _ => .inl e, fun b x e _ => .inl e, fun r hr _ => Ren.setM_ne _ _ (Nat.ne_of_lt hr), fun _ _ _ _ => rfl⟩
/-- a block that nobody has -/
def Free (ρ : Ren) (b : Nat) : Prop := ∀ x, ¬ Own ρ b x
/-- a block is written; what its cells own is less, or was nobody's -/
theorem RelS.write (h : RelS K P ρ H w) {r b s k z q : Nat} {o o' : AObj C} {c c' : List (V C)} {cs' : Array Value} {t : TypeId} (e : ρ.m r = .to b s k z q) (hg : H.get r = some o) (hf : o.flat K = some (c, t)) (hf' : o'.flat K = some (c', t)) (hq : o'.isRows = true → q = o'.count) (hz : cs'.size = z) (hc : s + c'.length ≤ z)
    {g : Nat → List Nat} (hgg : ∀ i, ∀ b' ∈ g i, b' ∈ ρ.f r i ∨ (Free ρ b' ∧ b' < w.heap.size)) (hgu : ∀ i i' b', b' ∈ g i → b' ∈ g i' → i = i') (hgn : ∀ i, (g i).Nodup)
    (hl : ∀ (i : Nat) (v : V C), c'[i]? = some v → ∃ v', cs'[s + i]? = some v' ∧ (∀ w', (∀ b' ∈ g i, w'.heap[b']? = w.heap[b']?) → RelC K (ρ.setF r g) w' v v' (g i)))
    {W : Nat → Nat → Prop} {T : Nat → Prop} (hW : ∀ cs, w.heap[b]? = some (.cells cs t (0, 0)) → ∀ i, ¬ W r i → cs'[s + i]? = cs[s + i]?) (hWf : ∀ i, ¬ W r i → g i = ρ.f r i) (hT : T b) (hTg : ∀ i, ∀ b' ∈ g i, b' ∈ ρ.f r i ∨ T b') :
    RelS K P (ρ.setF r g) (H.upd r o') (w.setRow b cs') ∧ Ext ρ (ρ.setF r g) H.n W T w (w.setRow b cs') := by
  have hN := h.names
  obtain ⟨h0, cs, L⟩ := (h.blk r b s k z q o e hg).lies hf
  have hh := L.heap
  have other : ∀ b', b' ≠ b → (w.setRow b cs').heap[b']? = w.heap[b']? := fun b' hb => setRow_other w b b' cs' hb
  have hown : ∀ r' i b', b' ∈ ρ.f r' i → b' ≠ b := by
    rintro r' i b' hb rfl
    have := hN.uniq b' (.root r) (.cell r' i) ⟨s, k, z, q, e⟩ hb
    cases this
  have hgb : ∀ i, ∀ b' ∈ g i, b' ≠ b := by
    rintro i b' hb rfl
    rcases hgg i b' hb with h1 | ⟨h1, _⟩
    · exact hown r i b' h1 rfl
    · exact h1 (.root r) ⟨s, k, z, q, e⟩
  have hle := Ren.le_setF ρ r g
  constructor
  · constructor
    · have hsz : (w.setRow b cs').heap.size = w.heap.size := by simp
      rw [hsz]
      -- a cell of this root owns what it owned, or what was free
      refine ⟨fun r' hr => ⟨(hN.dom r' hr).1, fun i => ?_⟩, fun b' x hx => ?_, fun b' x y hx hy => ?_, fun r' i => ?_⟩
      · have hne : r' ≠ r := by
          rintro rfl
          have := hN.root_lt e
          have hr' : H.n ≤ r' := hr
          omega
        rw [Ren.setF_ne _ _ hne]; exact (hN.dom r' hr).2 i
      · cases x with
        | root r' => exact hN.lt b' (.root r') hx
        | ice => exact hN.lt b' .ice hx
        | cell r' i =>
          by_cases er : r' = r
          · subst er
            have hx' : b' ∈ g i := by have : b' ∈ (ρ.setF r' g).f r' i := hx; rwa [Ren.setF_same] at this
            rcases hgg i b' hx' with h1 | ⟨_, h1⟩
            · exact hN.lt b' (.cell r' i) h1
            · exact h1
          · have hx' : b' ∈ ρ.f r' i := by have : b' ∈ (ρ.setF r g).f r' i := hx; rwa [Ren.setF_ne _ _ er] at this
            exact hN.lt b' (.cell r' i) hx'
      · -- who has it now
        have key : ∀ x, Own (ρ.setF r g) b' x → (Own ρ b' x) ∨ (Free ρ b' ∧ ∃ i, x = .cell r i ∧ b' ∈ g i) := by
          intro x hx
          cases x with
          | root r' => exact .inl hx
          | ice => exact .inl hx
          | cell r' i =>
            by_cases er : r' = r
            · subst er
              have hx' : b' ∈ g i := by have : b' ∈ (ρ.setF r' g).f r' i := hx; rwa [Ren.setF_same] at this
              rcases hgg i b' hx' with h1 | ⟨h1, _⟩
              · exact .inl h1
              · exact .inr ⟨h1, i, rfl, hx'⟩
            · left
              have : b' ∈ (ρ.setF r g).f r' i := hx
              rwa [Ren.setF_ne _ _ er] at this
        rcases key x hx with h1 | ⟨h1, i, rfl, h3⟩
        · rcases key y hy with h2 | ⟨h2, _⟩
          · exact hN.uniq b' x y h1 h2
          · exact absurd h1 (h2 x)
        · rcases key y hy with h2 | ⟨_, i', rfl, h4⟩
          · exact absurd h2 (h1 y)
          · rw [hgu i i' b' h3 h4]
      · by_cases er : r' = r
        · subst er; rw [Ren.setF_same]; exact hgn i
        · rw [Ren.setF_ne _ _ er]; exact hN.nod _ _
    · intro r' b' s' k' z' q' o1 e' g1
      by_cases er : r' = r
      · subst er
        rw [show (ρ.setF r' g).m r' = ρ.m r' from rfl, e] at e'
        cases e'
        rw [AStore.get_upd, if_pos rfl] at g1; cases g1
        refine Lies.relB (c := c') (t := t) (cs := cs') ⟨L.k, setRow_heap w b cs cs' t _ hh, hz, hc, fun i v hv => ?_⟩ hf' hq
        obtain ⟨v', h1, h2⟩ := hl i v hv
        refine ⟨v', h1, ?_⟩
        rw [Ren.setF_same]
        exact h2 _ fun b' hb' => other b' (hgb i b' hb')
      · have e1 : ρ.m r' = .to b' s' k' z' q' := e'
        rw [AStore.get_upd, if_neg er] at g1
        refine (h.blk r' b' s' k' z' q' o1 e1 g1).mono hle (Ren.setF_ne _ _ er) (other b' ?_) fun i b2 hb2 => other b2 (hown r' i b2 hb2)
        rintro rfl
        exact er (hN.inj e1 e)
    · intro r' o1 e' g1
      by_cases er : r' = r
      · subst er; rw [show (ρ.setF r' g).m r' = ρ.m r' from rfl, e] at e'; cases e'
      · rw [AStore.get_upd, if_neg er] at g1; exact h.emp r' o1 e' g1
    · intro r' o1 e' g1
      by_cases er : r' = r
      · subst er; rw [show (ρ.setF r' g).m r' = ρ.m r' from rfl, e] at e'; cases e'
      · rw [AStore.get_upd, if_neg er] at g1; exact h.dead r' o1 e' g1
    · intro b' cs1 t1 e'
      obtain ⟨fr, h1⟩ := h.frz b' cs1 t1 e'
      refine ⟨fr, (other b' ?_).trans h1⟩
      rintro rfl
      have := hN.uniq b' (.root r) .ice ⟨s, k, z, q, e⟩ ⟨_, e'⟩
      cases this
  · refine ⟨hle, by simp, rfl, rfl, rfl, fun b' hb h1 => other b' (by rintro rfl; exact h1 hT), fun r' b' s' k' z' q' e' hi cs1 t1 fr hh1 => ?_, fun r' b' s' k' z' q' e' hb => .inl e', fun r' i b' hb _ => ?_, fun b x e _ => .inl e, fun _ _ _ => rfl, fun r' i hr hi => ?_⟩
    · by_cases er : r' = r
      · subst er
        rw [e] at e'; cases e'
        rw [hh] at hh1; cases hh1
        exact ⟨cs', setRow_heap w b cs cs' t _ hh, by rw [hz, L.size], fun i hi => hW cs hh i hi⟩
      · have hne : b' ≠ b := by rintro rfl; exact er (hN.inj e' e)
        exact ⟨cs1, (other b' hne).trans hh1, rfl, fun _ _ => rfl⟩
    · by_cases er : r' = r
      · subst er; rw [Ren.setF_same] at hb; exact hTg i b' hb
      · rw [Ren.setF_ne _ _ er] at hb; exact .inl hb
    · by_cases er : r' = r
      · subst er; rw [Ren.setF_same]; exact hWf i hi
      · rw [Ren.setF_ne _ _ er]
/-- a root is given up: its blocks are nobody's -/
def Ren.kill (ρ : Ren) (r : Nat) : Ren := (ρ.setM r .dead).setF r fun _ => []
theorem Ren.kill_m (ρ : Ren) (r : Nat) : (ρ.kill r).m r = .dead := Ren.setM_same ρ r .dead
theorem Ren.kill_m_ne (ρ : Ren) {r r' : Nat} (h : r' ≠ r) : (ρ.kill r).m r' = ρ.m r' := Ren.setM_ne ρ .dead h
theorem Ren.kill_f (ρ : Ren) (r i : Nat) : (ρ.kill r).f r i = [] := by unfold Ren.kill; rw [Ren.setF_same]
theorem Ren.kill_f_ne (ρ : Ren) {r r' : Nat} (h : r' ≠ r) : (ρ.kill r).f r' = ρ.f r' := by unfold Ren.kill; rw [Ren.setF_ne _ _ h]; rfl
theorem Ren.le_killed (ρ : Ren) (r : Nat) : ρ.le (ρ.kill r) := Ren.le_trans (Ren.le_kill ρ r) (Ren.le_setF _ r _)
theorem Own.of_kill {r b : Nat} {x : Who} (h : Own (ρ.kill r) b x) : Own ρ b x ∧ x ≠ .root r ∧ ∀ i, x ≠ .cell r i := by
  cases x with
  | root r' =>
    obtain ⟨s, k, z, q, e⟩ := h
    by_cases er : r' = r
    · subst er; rw [Ren.kill_m] at e; cases e
    · rw [Ren.kill_m_ne _ er] at e; exact ⟨⟨s, k, z, q, e⟩, fun h => er (by cases h; rfl), fun i h => by cases h⟩
  | cell r' i =>
    have h' : b ∈ (ρ.kill r).f r' i := h
    by_cases er : r' = r
    · subst er; rw [Ren.kill_f] at h'; cases h'
    · rw [Ren.kill_f_ne _ er] at h'; exact ⟨h', fun h => (by cases h), fun j h => er (by cases h; rfl)⟩
  | ice => exact ⟨h, fun h => (by cases h), fun j h => (by cases h)⟩
theorem RelS.kill (h : RelS K P ρ H w) {r : Nat} (hr : r < H.n) (hno : ρ.m r ≠ .no) {W : Nat → Nat → Prop} {T : Nat → Prop} (hW : ∀ i, W r i) :
    RelS K P (ρ.kill r) (H.upd r .dead) w ∧ Ext ρ (ρ.kill r) H.n W T w w ∧ (∀ b s k z q, ρ.m r = .to b s k z q → Free (ρ.kill r) b) ∧ ∀ i, ∀ b ∈ ρ.f r i, Free (ρ.kill r) b := by
  have hN := h.names
  have hle := Ren.le_killed ρ r
  refine ⟨⟨⟨fun r' hr' => ?_, fun b x hx => hN.lt b x (Own.of_kill hx).1, fun b x y hx hy => hN.uniq b x y (Own.of_kill hx).1 (Own.of_kill hy).1, fun r' i => ?_⟩, ?_, ?_, ?_, h.frz⟩, ⟨hle, Nat.le_refl _, rfl, rfl, rfl, fun _ _ _ => rfl, fun r' b s k z q e _ cs t fr hh => ⟨cs, hh, rfl, fun _ _ => rfl⟩, fun r' b s k z q e _ => ?_, fun r' i b hb _ => .inl (Own.of_kill (x := .cell r' i) hb).1, fun b x e _ => .inl e, fun r' hr' hi => ?_, fun r' i hr' hi => ?_⟩, fun b s k z q e x hx => ?_, fun i b hb x hx => ?_⟩
  · have hr2 : H.n ≤ r' := hr'
    rw [Ren.kill_m_ne _ (by omega), Ren.kill_f_ne _ (by omega)]
    exact hN.dom r' hr2
  · by_cases er : r' = r
    · subst er; rw [Ren.kill_f]; exact List.nodup_nil
    · rw [Ren.kill_f_ne _ er]; exact hN.nod _ _
  · intro r' b s k z q o e g
    by_cases er : r' = r
    · subst er; rw [Ren.kill_m] at e; cases e
    · rw [Ren.kill_m_ne _ er] at e
      rw [AStore.get_upd, if_neg er] at g
      exact (h.blk r' b s k z q o e g).mono hle (Ren.kill_f_ne _ er) rfl fun _ _ _ => rfl
  · intro r' o e g
    by_cases er : r' = r
    · subst er; rw [Ren.kill_m] at e; cases e
    · rw [Ren.kill_m_ne _ er] at e
      rw [AStore.get_upd, if_neg er] at g
      exact h.emp r' o e g
  · intro r' o e g
    by_cases er : r' = r
    · subst er; rw [AStore.get_upd, if_pos rfl] at g; cases g; rfl
    · rw [Ren.kill_m_ne _ er] at e
      rw [AStore.get_upd, if_neg er] at g
      exact h.dead r' o e g
  · by_cases er : r' = r
    · subst er; rw [Ren.kill_m] at e; cases e
    · rw [Ren.kill_m_ne _ er] at e; exact .inl e
  · have er : r' ≠ r := by rintro rfl; obtain ⟨i, hi⟩ := hi; exact hi (hW i)
    exact Ren.kill_m_ne _ er
  · have er : r' ≠ r := by rintro rfl; exact hi (hW i)
    rw [Ren.kill_f_ne _ er]
  · obtain ⟨h1, h2, _⟩ := Own.of_kill hx
    exact h2 (hN.uniq b x (.root r) h1 ⟨s, k, z, q, e⟩)
  · obtain ⟨h1, _, h2⟩ := Own.of_kill hx
    exact h2 i (hN.uniq b x (.cell r i) h1 hb)
/-- a new root, over a new block or one that is nobody's; the world has changed at that block alone -/
def Ren.place (ρ : Ren) (n : Nat) (x : RS) (g : Nat → List Nat) : Ren := (ρ.setM n x).setF n g
theorem RelS.place (h : RelS K P ρ H w) {o : AObj C} {c : List (V C)} {cs : Array Value} {t : TypeId} {b s z q : Nat} {g : Nat → List Nat} (hf : o.flat K = some (c, t)) (hq : o.isRows = true → q = o.count) (hb : Free ρ b) (hbl : b < w'.heap.size)
    (hg : ∀ i, ∀ b' ∈ g i, Free ρ b' ∧ b' < w.heap.size ∧ b' ≠ b) (hgu : ∀ i i' b', b' ∈ g i → b' ∈ g i' → i = i') (hgn : ∀ i, (g i).Nodup)
    (hh : w'.heap[b]? = some (.cells cs t (0, 0))) (hz : cs.size = z) (hc : s + c.length ≤ z) (hsz : w.heap.size ≤ w'.heap.size) (hkeep : ∀ b', b' < w.heap.size → b' ≠ b → w'.heap[b']? = w.heap[b']?) (hos : w'.os = w.os) (htape : w'.tape = w.tape) (hout : w'.output = w.output)
    (hl : ∀ (i : Nat) (v : V C), c[i]? = some v → ∃ v', cs[s + i]? = some v' ∧ RelC K (ρ.place H.n (.to b s (P.cellsOf t) z q) g) w' v v' (g i)) (W : Nat → Nat → Prop) {T : Nat → Prop} (hT : b < w.heap.size → T b) (hTg : ∀ i, ∀ b' ∈ g i, T b') :
    RelS K P (ρ.place H.n (.to b s (P.cellsOf t) z q) g) (H.push o) w' ∧ Ext ρ (ρ.place H.n (.to b s (P.cellsOf t) z q) g) H.n W T w w' := by
  have hN := h.names
  have hno := (hN.dom H.n (Nat.le_refl _)).1
  have hle : ρ.le (ρ.place H.n (.to b s (P.cellsOf t) z q) g) := Ren.le_trans (Ren.le_setM _ hno) (Ren.le_setF _ _ _)
  have hm : (ρ.place H.n (.to b s (P.cellsOf t) z q) g).m H.n = .to b s (P.cellsOf t) z q := Ren.setM_same ρ H.n _
  have hmn : ∀ r, r ≠ H.n → (ρ.place H.n (.to b s (P.cellsOf t) z q) g).m r = ρ.m r := fun r hr => Ren.setM_ne ρ _ hr
  have hfn : (ρ.place H.n (.to b s (P.cellsOf t) z q) g).f H.n = g := by unfold Ren.place; rw [Ren.setF_same]
  have hfo : ∀ r, r ≠ H.n → (ρ.place H.n (.to b s (P.cellsOf t) z q) g).f r = ρ.f r := fun r hr => by unfold Ren.place; rw [Ren.setF_ne _ _ hr]; rfl
  have key : ∀ b' x, Own (ρ.place H.n (.to b s (P.cellsOf t) z q) g) b' x → Own ρ b' x ∨ (b' = b ∧ x = .root H.n) ∨ ∃ i, x = .cell H.n i ∧ b' ∈ g i := by
    intro b' x hx
    cases x with
    | root r =>
      obtain ⟨s', k', z', q', e⟩ := hx
      by_cases er : r = H.n
      · subst er; rw [hm] at e; cases e; exact .inr (.inl ⟨rfl, rfl⟩)
      · rw [hmn r er] at e; exact .inl ⟨s', k', z', q', e⟩
    | cell r i =>
      have hx' : b' ∈ (ρ.place H.n (.to b s (P.cellsOf t) z q) g).f r i := hx
      by_cases er : r = H.n
      · subst er; rw [hfn] at hx'; exact .inr (.inr ⟨i, rfl, hx'⟩)
      · rw [hfo r er] at hx'; exact .inl hx'
    | ice => exact .inl hx
  refine ⟨⟨⟨fun r hr => ?_, fun b' x hx => ?_, fun b' x y hx hy => ?_, fun r i => ?_⟩, ?_, ?_, ?_, ?_⟩, ⟨hle, hsz, hos, htape, hout, fun b' hb' h1 => hkeep b' hb' (by rintro rfl; exact h1 (hT hb')), fun r b' s' k' z' q' e _ cs' t' fr hh' => ?_, fun r b' s' k' z' q' e hb' => ?_, fun r i b' hb' _ => ?_, fun b' x e _ => .inl e, fun r hr _ => hmn r (Nat.ne_of_lt hr), fun r i hr _ => by rw [hfo r (Nat.ne_of_lt hr)]⟩⟩
  · have hr' : H.n + 1 ≤ r := hr
    rw [hmn r (by omega), hfo r (by omega)]
    exact hN.dom r (by omega)
  · rcases key b' x hx with h1 | ⟨rfl, _⟩ | ⟨i, _, h1⟩
    · exact Nat.lt_of_lt_of_le (hN.lt b' x h1) hsz
    · exact hbl
    · exact Nat.lt_of_lt_of_le (hg i b' h1).2.1 hsz
  · rcases key b' x hx with h1 | ⟨rfl, rfl⟩ | ⟨i, rfl, h1⟩
    · rcases key b' y hy with h2 | ⟨rfl, rfl⟩ | ⟨i', rfl, h2⟩
      · exact hN.uniq b' x y h1 h2
      · exact absurd h1 (hb x)
      · exact absurd h1 ((hg i' b' h2).1 x)
    · rcases key b' y hy with h2 | ⟨_, rfl⟩ | ⟨i', rfl, h2⟩
      · exact absurd h2 (hb y)
      · rfl
      · exact absurd rfl (hg i' b' h2).2.2
    · rcases key b' y hy with h2 | ⟨rfl, rfl⟩ | ⟨i', rfl, h2⟩
      · exact absurd h2 ((hg i b' h1).1 y)
      · exact absurd rfl (hg i b' h1).2.2
      · rw [hgu i i' b' h1 h2]
  · by_cases er : r = H.n
    · subst er; rw [hfn]; exact hgn i
    · rw [hfo r er]; exact hN.nod _ _
  · intro r b' s' k' z' q' o' e g'
    by_cases er : r = H.n
    · subst er
      rw [hm] at e; cases e
      rw [AStore.get_push, if_pos rfl] at g'; cases g'
      exact Lies.relB (c := c) (t := t) (cs := cs) ⟨rfl, hh, hz, hc, by rw [hfn]; exact hl⟩ hf hq
    · rw [hmn r er] at e
      rw [AStore.get_push, if_neg er] at g'
      refine (h.blk r b' s' k' z' q' o' e g').mono hle (hfo r er) (hkeep b' (hN.live e) ?_) fun i b2 hb2 => hkeep b2 (hN.lt b2 (.cell r i) hb2) ?_
      · rintro rfl; exact hb (.root r) ⟨s', k', z', q', e⟩
      · rintro rfl; exact hb (.cell r i) hb2
  · intro r o' e g'
    by_cases er : r = H.n
    · subst er; rw [hm] at e; cases e
    · rw [hmn r er] at e
      rw [AStore.get_push, if_neg er] at g'
      exact h.emp r o' e g'
  · intro r o' e g'
    by_cases er : r = H.n
    · subst er; rw [hm] at e; cases e
    · rw [hmn r er] at e
      rw [AStore.get_push, if_neg er] at g'
      exact h.dead r o' e g'
  · intro b' cs' t' e
    obtain ⟨fr, h1⟩ := h.frz b' cs' t' e
    refine ⟨fr, (hkeep b' (hN.lt b' .ice ⟨_, e⟩) ?_).trans h1⟩
    rintro rfl
    exact hb .ice ⟨_, e⟩
  · have hne : b' ≠ b := by rintro rfl; exact hb (.root r) ⟨s', k', z', q', e⟩
    exact ⟨cs', (hkeep b' (hN.live e) hne).trans hh', rfl, fun _ _ => rfl⟩
  · by_cases er : r = H.n
    · subst er; rw [hm] at e; cases e; exact .inr (hT hb')
    · rw [hmn r er] at e; exact .inl e
  · by_cases er : r = H.n
    · subst er; rw [hfn] at hb'; exact .inr (hTg i b' hb')
    · rw [hfo r er] at hb'; exact .inl hb'
end
end Go.Vm
/- A generic text: values; operations that look at no memory, loads. No program. -/
set_option linter.unusedVariables false
set_option linter.unusedSimpArgs false
namespace Go.Vm
open Go
variable {C : Nat → Type}

theorem quiet_run {α : Type} {P : Program} : ∀ (m : Sem α) (u : α), quiet P m = some u → ∀ w, m.run P w = .ok u w := by
  intro m
  induction m with
  | pure a => intro u h w; simp only [quiet, Option.some.injEq] at h; subst h; rfl
  | program k ih => intro u h w; simp only [quiet] at h; simpa [Sem.run] using ih P u h w
  | _ => intro u h w; simp [quiet] at h
section
variable {K : Codec C} {ρ : Ren}
theorem ofVal_rel : ∀ n, (∀ (x : Value) (u : V C), ofVal n x = some u → RelV K ρ u x) ∧ ∀ (l : List Value) (us : List (V C)), ofVals n l = some us → RelL K ρ us l := by
  intro n
  induction n with
  | zero =>
    refine ⟨fun x u h => (by simp [ofVal] at h), fun l us h => ?_⟩
    cases l with
    | nil => simp only [ofVals, Option.some.injEq] at h; subst h; exact .nil
    | cons v l => simp [ofVals] at h
  | succ n ih =>
    refine ⟨fun x u h => ?_, fun l us h => ?_⟩
    · unfold ofVal at h
      split at h
      all_goals (try (have hn' := Nat.succ.inj ‹n + 1 = Nat.succ _›; subst hn'))
      all_goals first
        | (cases h; done)
        | (cases h; first | exact .bool _ | exact .int _ _ | exact .str _ | exact .nilFunc | exact .nilIface | exact .nilPtr | exact .nilSl | exact .nilMap)
        | skip
      · split at h
        · rename_i hv; cases h; exact .iface (ih.1 _ _ hv)
        · cases h
      · split at h
        · rename_i hv; cases h; exact .agg (ih.2 _ _ hv)
        · cases h
      · split at h
        · rename_i hv; cases h; exact .tuple (ih.2 _ _ hv)
        · cases h
      · split at h
        · rename_i hv hv'; cases h; exact .func (ih.2 _ _ hv) (ih.2 _ _ hv')
        · cases h
    · cases l with
      | nil => simp only [ofVals, Option.some.injEq] at h; subst h; exact .nil
      | cons v l =>
        simp only [ofVals] at h
        split at h
        · rename_i hv hv'; cases h; exact .cons (ih.1 _ _ hv) (ih.2 _ _ hv')
        · cases h
theorem toVal_eq : ∀ n, (∀ (u : V C) (x v : Value), toVal n u = some x → RelV K ρ u v → v = x) ∧ ∀ (us : List (V C)) (l l' : List Value), toVals n us = some l → RelL K ρ us l' → l' = l := by
  intro n
  induction n with
  | zero =>
    refine ⟨fun u x v h => (by simp [toVal] at h), fun us l l' h k => ?_⟩
    cases us with
    | nil => simp only [toVals, Option.some.injEq] at h; subst h; cases k; rfl
    | cons v l => simp [toVals] at h
  | succ n ih =>
    refine ⟨fun u x v h k => ?_, fun us l l' h k => ?_⟩
    · unfold toVal at h
      split at h
      all_goals (try (have hn' := Nat.succ.inj ‹n + 1 = Nat.succ _›; subst hn'))
      all_goals first
        | (cases h; done)
        | (cases h; cases k; rfl)
        | skip
      · split at h
        · rename_i hv; cases h; cases k with | iface k => rw [ih.1 _ _ _ hv k]
        · cases h
      · split at h
        · rename_i hv; cases h; cases k with | agg k => rw [ih.2 _ _ _ hv k]
        · cases h
      · split at h
        · rename_i hv; cases h; cases k with | tuple k => rw [ih.2 _ _ _ hv k]
        · cases h
      · split at h
        · rename_i hv hv'; cases h; cases k with | func k k' => rw [ih.2 _ _ _ hv k, ih.2 _ _ _ hv' k']
        · cases h
    · cases us with
      | nil => simp only [toVals, Option.some.injEq] at h; subst h; cases k; rfl
      | cons v us =>
        simp only [toVals] at h
        split at h
        · rename_i hv hv'; cases h; cases k with | cons k k' => rw [ih.1 _ _ _ hv k, ih.2 _ _ _ hv' k']
        · cases h
/-- what is plain is related to its value -/
theorem toVal_rel : ∀ n, (∀ (u : V C) (x : Value), toVal n u = some x → RelV K ρ u x) ∧ ∀ (us : List (V C)) (l : List Value), toVals n us = some l → RelL K ρ us l := by
  intro n
  induction n with
  | zero =>
    refine ⟨fun u x h => (by simp [toVal] at h), fun us l h => ?_⟩
    cases us with
    | nil => simp only [toVals, Option.some.injEq] at h; subst h; exact .nil
    | cons v l => simp [toVals] at h
  | succ n ih =>
    refine ⟨fun u x h => ?_, fun us l h => ?_⟩
    · unfold toVal at h
      split at h
      all_goals (try (have hn' := Nat.succ.inj ‹n + 1 = Nat.succ _›; subst hn'))
      all_goals first
        | (cases h; done)
        | (cases h; first | exact .bool _ | exact .int _ _ | exact .str _ | exact .nilFunc | exact .nilIface | exact .nilPtr | exact .nilSl | exact .nilMap)
        | skip
      · split at h
        · rename_i hv; cases h; exact .iface (ih.1 _ _ hv)
        · cases h
      · split at h
        · rename_i hv; cases h; exact .agg (ih.2 _ _ hv)
        · cases h
      · split at h
        · rename_i hv; cases h; exact .tuple (ih.2 _ _ hv)
        · cases h
      · split at h
        · rename_i hv hv'; cases h; exact .func (ih.2 _ _ hv) (ih.2 _ _ hv')
        · cases h
    · cases us with
      | nil => simp only [toVals, Option.some.injEq] at h; subst h; exact .nil
      | cons v us =>
        simp only [toVals] at h
        split at h
        · rename_i hv hv'; cases h; exact .cons (ih.1 _ _ hv) (ih.2 _ _ hv')
        · cases h
theorem RelV.cells {u : V C} {v : Value} (h : RelV K ρ u v) (hr : ∀ x, u ≠ .raw x) : RelL K ρ u.cells v.cells.toList := by
  cases h with
  | agg a => exact a
  | raw => exact absurd rfl (hr _)
  | unk e => rw [one_cells e]; exact .cons (.unk e) .nil
  | bool b => exact .cons (.bool b) .nil
  | int k n => exact .cons (.int k n) .nil
  | str s => exact .cons (.str s) .nil
  | nilFunc => exact .cons .nilFunc .nil
  | nilIface => exact .cons .nilIface .nil
  | nilPtr => exact .cons .nilPtr .nil
  | nilSl => exact .cons .nilSl .nil
  | nilMap => exact .cons .nilMap .nil
  | ptr e => exact .cons (.ptr e) .nil
  | ptrDead e => exact .cons (.ptrDead e) .nil
  | eptr e => exact .cons (.eptr e) .nil
  | eptrDead e => exact .cons (.eptrDead e) .nil
  | fptr a b c d e f g => exact .cons (.fptr a b c d e f g) .nil
  | aptr a b => exact .cons (.aptr a b) .nil
  | aptrDead a => exact .cons (.aptrDead a) .nil
  | sl e p q x => exact .cons (.sl e p q x) .nil
  | slDead e => exact .cons (.slDead e) .nil
  | slEmp a b c => exact .cons (.slEmp a b c) .nil
  | rsw a b c => exact .cons (.rsw a b c) .nil
  | rswDead a => exact .cons (.rswDead a) .nil
  | rswEmp a => exact .cons (.rswEmp a) .nil
  | rsl a b c d e => exact .cons (.rsl a b c d e) .nil
  | rslDead a => exact .cons (.rslDead a) .nil
  | rslEmp a b c => exact .cons (.rslEmp a b c) .nil
  | rslNil a b => exact .cons (.rslNil a b) .nil
  | fz a b c d e f g i => exact .cons (.fz a b c d e f g i) .nil
  | fzEmp a b c d => exact .cons (.fzEmp a b c d) .nil
  | fzNil c => exact .cons (.fzNil c) .nil
  | map e => exact .cons (.map e) .nil
  | mapDead e => exact .cons (.mapDead e) .nil
  | iface k => exact .cons (.iface k) .nil
  | func a c => exact .cons (.func a c) .nil
  | tuple a => exact .cons (.tuple a) .nil
theorem RelV.one_ {u : V C} {v : Value} (h : RelV K ρ u v) (k : u.one = true) : v.oneCell' = true := by
  cases h with
  | unk e => cases v <;> simp_all [Vm.one, Value.oneCell']
  | agg a => simp [V.one] at k
  | tuple a => simp [V.one] at k
  | raw a => simp [V.one] at k
  | _ => rfl
theorem RelL.one_ : ∀ {l : List (V C)} {l' : List Value}, RelL K ρ l l' → l.all V.one = true → ∀ u ∈ l', u.oneCell' = true
  | _, _, .nil, _, u, hu => by simp at hu
  | _, _, .cons a k, h, u, hu => by
    simp only [List.all_cons, Bool.and_eq_true] at h
    simp only [List.mem_cons] at hu
    rcases hu with rfl | hu
    · exact a.one_ h.1
    · exact k.one_ h.2 u hu
theorem RelV.cell1_ {u : V C} {v : Value} (h : RelV K ρ u v) (k : u.cell1 = true) : v.oneCell' = true := by
  cases h with
  | unk e => cases v <;> simp_all [Vm.one, Value.oneCell']
  | agg a => simp [V.cell1] at k
  | tuple a => simp [V.cell1] at k
  | raw a => simp [V.cell1] at k
  | _ => rfl
theorem RelV.ptr_inv {r o : Nat} {v : Value} (h : RelV K ρ (.ptr r o) v) :
    (∃ b s k z q, ρ.m r = .to b s k z q ∧ v = .pointer (some ⟨b, s + o, none⟩)) ∨ (ρ.m r = .dead ∧ ∃ a, v = .pointer (some a)) := by
  cases h with
  | ptr e => exact .inl ⟨_, _, _, _, _, e, rfl⟩
  | ptrDead e => exact .inr ⟨e, _, rfl⟩
theorem RelV.eptr_inv {r i j : Nat} {v : Value} (h : RelV K ρ (.eptr r i j) v) :
    (∃ b s k z q, ρ.m r = .to b s k z q ∧ v = .pointer (some ⟨b, s + (i * k + j), none⟩)) ∨ (ρ.m r = .dead ∧ ∃ a, v = .pointer (some a)) := by
  cases h with
  | eptr e => exact .inl ⟨_, _, _, _, _, e, rfl⟩
  | eptrDead e => exact .inr ⟨e, _, rfl⟩
theorem RelV.int_inv {k : IntKind} {n : Int} {v : Value} (h : RelV K ρ (.int k n) v) : v = .int k n := by cases h; rfl
theorem RelV.bool_inv {b : Bool} {v : Value} (h : RelV K ρ (.bool b) v) : v = .bool b := by cases h; rfl
theorem RelV.agg_inv {a : List (V C)} {v : Value} (h : RelV K ρ (.agg a) v) : ∃ a', v = .agg ⟨a'⟩ ∧ RelL K ρ a a' := by cases h with | agg k => exact ⟨_, rfl, k⟩
theorem RelV.tuple_inv {a : List (V C)} {v : Value} (h : RelV K ρ (.tuple a) v) : ∃ a', v = .tuple ⟨a'⟩ ∧ RelL K ρ a a' := by cases h with | tuple k => exact ⟨_, rfl, k⟩
theorem RelL.pointwise {l : List (V C)} {cs : Array Value} (h : RelL K ρ l cs.toList) : ∀ (i : Nat) (v : V C), l[i]? = some v → ∃ v', cs[i]? = some v' ∧ RelV K ρ v v' := fun i v hv => by
  obtain ⟨v', h1, h2⟩ := h.get i v hv
  exact ⟨v', by rwa [Array.getElem?_toList] at h1, h2⟩
theorem RelL.fits {l : List (V C)} {cs : Array Value} (h : RelL K ρ l cs.toList) : l.length ≤ cs.size := by rw [h.length, Array.length_toList]; exact Nat.le_refl _
end

/-! ### frames -/
structure AS (C : Nat → Type) where
  tm : T (V C)
  sz : Nat
  H : AStore C
  j : Nat → V C          -- of a temporary of which nothing is told
noncomputable def AS.val (s : AS C) : Operand → Option (V C)
  | .tmp t => cond (Nat.ble (Nat.succ t) s.sz) (some ((s.tm.get t).getD (s.j t))) none
  | .const u => ofVal 99 u
  | .func f => some (.func f [] [])
  | .global _ => none
noncomputable def AS.put (s : AS C) (d : Option Tmp) (u : V C) (H : AStore C) : Option (AS C) :=
  match d with
  | none => some { s with H }
  | some t => cond (Nat.ble (Nat.succ t) s.sz) (some { tm := s.tm.set t u, sz := s.sz, H, j := s.j }) none
structure RelF (K : Codec C) (ρ : Ren) (s : AS C) (a : Act) : Prop where
  size : a.tmps.size = s.sz
  vals : ∀ t, t < s.sz → RelV K ρ ((s.tm.get t).getD (s.j t)) (a.tmps.getD t undef)
section
variable {K : Codec C} {ρ ρ' : Ren} {s s' : AS C} {a : Act}
theorem RelF.mono (h : RelF K ρ s a) (k : ρ.le ρ') : RelF K ρ' s a := ⟨h.size, fun t ht => (h.vals t ht).mono k⟩
theorem RelV.undef_ : RelV K ρ (.tuple []) undef := .tuple .nil
theorem val_rel (h : RelF K ρ s a) {x : Operand} {u : V C} (hx : s.val x = some u) : RelV K ρ u (a.eval x) := by
  cases x with
  | tmp t =>
    simp only [AS.val] at hx
    cases hb : Nat.ble (Nat.succ t) s.sz with
    | false => rw [hb] at hx; simp at hx
    | true =>
      rw [hb] at hx
      simp only [cond_true, Option.some.injEq] at hx
      have ht : t < s.sz := Nat.lt_of_succ_le (Nat.le_of_ble_eq_true hb)
      rw [← hx]
      exact h.vals t ht
  | const c => exact (ofVal_rel 99).1 c u hx
  | func f =>
    simp only [AS.val, Option.some.injEq] at hx
    subst hx
    exact .func .nil .nil
  | global g => simp [AS.val] at hx
theorem put_rel (h : RelF K ρ s a) (k : ρ.le ρ') {d : Option Tmp} {u : V C} {v : Value} {H : AStore C} (hp : s.put d u H = some s') (hv : RelV K ρ' u v) : RelF K ρ' s' (a.put d v) ∧ s'.H = H ∧ s'.sz = s.sz := by
  cases d with
  | none =>
    simp only [AS.put, Option.some.injEq] at hp
    subst hp
    exact ⟨⟨h.size, (h.mono k).vals⟩, rfl, rfl⟩
  | some t =>
    simp only [AS.put] at hp
    cases hb : Nat.ble (Nat.succ t) s.sz with
    | false => rw [hb] at hp; simp at hp
    | true =>
      rw [hb] at hp
      simp only [cond_true, Option.some.injEq] at hp
      have ht : t < s.sz := Nat.lt_of_succ_le (Nat.le_of_ble_eq_true hb)
      subst hp
      refine ⟨⟨by simpa [Act.put] using h.size, fun m hm => ?_⟩, rfl, rfl⟩
      simp only [T.get_set, Act.put]
      by_cases e : m = t
      · subst e
        rw [if_pos rfl]
        have : (a.tmps.setIfInBounds m v).getD m undef = v := by
          simp [Array.getD, h.size, ht]
        rw [this]
        simpa using hv
      · rw [if_neg e]
        have : (a.tmps.setIfInBounds t v).getD m undef = a.tmps.getD m undef := by
          simp only [Array.getD_eq_getD_getElem?]
          rw [Array.getElem?_setIfInBounds_ne (Ne.symm e)]
        rw [this]
        exact (h.mono k).vals m hm
end
abbrev Cells := Nat → Nat → Prop
/-- what an operation comes to -/
def OpRes (K : Codec C) (P : Program) (ρ : Ren) (H : AStore C) (w : World) (m : Sem Next) (u : V C) (H' : AStore C) (W : Cells) : Prop :=
  ∃ ρ' w' nx v', m.run P w = .ok nx w' ∧ (nx = .value v' ∨ nx = .skip ∧ v' = undef) ∧ RelV K ρ' u v' ∧ RelS K P ρ' H' w' ∧ Ext ρ ρ' H.n W (Touched ρ W) w w'
/-- an operation that leaves the store -/
def OpPure (K : Codec C) (P : Program) (ρ : Ren) (H : AStore C) (w : World) (m : Sem Next) (u : V C) (H' : AStore C) : Prop :=
  H' = H ∧ ∃ v', m.run P w = .ok (.value v') w ∧ RelV K ρ u v'
section
variable {K : Codec C} {P : Program} {ρ : Ren} {H : AStore C} {w : World}
theorem OpPure.mk_ {m : Sem Next} {u : V C} {v : Value} (h : m.run P w = .ok (.value v) w) (hv : RelV K ρ u v) : OpPure K P ρ H w m u H := ⟨rfl, v, h, hv⟩
theorem OpPure.res {m : Sem Next} {u : V C} {H' : AStore C} (h : OpPure K P ρ H w m u H') (hS : RelS K P ρ H w) (W : Cells) : OpRes K P ρ H w m u H' W := by
  obtain ⟨rfl, v, h1, h2⟩ := h
  exact ⟨ρ, w, _, v, h1, .inl rfl, h2, hS, Ext.refl _ _ _ _ _⟩
theorem run_isAgg {t : TypeId} {d : TypeDesc} (h : P.underlying t = some d) : (isAgg t).run P w = .ok (isAggD d) w := by
  unfold isAgg
  simp only [Sem.run_bind, run_underlying h, Result.andThen_ok]
  cases d <;> rfl
theorem run_sizeOf {t : TypeId} {i : TI C} (h : TIOk P t i) : (sizeOf t).run P w = .ok i.size w := by
  obtain ⟨f, z, h1, h2, _⟩ := h.info
  simp [sizeOf, typeInfo, h1, h2]
theorem run_zero {t : TypeId} {i : TI C} (h : TIOk P t i) : ∃ z, (zeroValue t).run P w = .ok z w ∧ RelL K ρ i.zero z.cells.toList ∧ z.cells.size = i.size ∧ ∃ f, P.info? t = some f ∧ f.zero = some z ∧ f.size = i.size ∧ f.bytes = i.bytes := by
  obtain ⟨f, z, h1, h2, h3, h4, h5⟩ := h.info
  have hr := (toVal_rel (K := K) (ρ := ρ) 99).2 _ _ h5
  refine ⟨z, by simp [zeroValue, typeInfo, h1, h4], hr, ?_, f, h1, h4, h2, h3⟩
  have := hr.length
  rw [Array.length_toList] at this
  rw [← this, h.zlen]
theorem cellsOf_eq {t : TypeId} {i : TI C} (h : TIOk P t i) : P.cellsOf t = i.size := by
  obtain ⟨f, z, h1, h2, _⟩ := h.info
  simp [Program.cellsOf, h1, h2]
/-- the cells of a stretch -/
theorem Lies.stretch {r b s k z : Nat} {c : List (V C)} {t : TypeId} {cs : Array Value} (L : Lies K P ρ w r b s k z c t cs) (o n : Nat) (hn : o + n ≤ c.length) :
    ∃ l : List Value, l.length = n ∧ l = (cs.toList.drop (s + o)).take n ∧ (∀ (j : Nat) (v : V C), ((c.drop o).take n)[j]? = some v → ∃ v', l[j]? = some v' ∧ RelC K ρ w v v' (ρ.f r (o + j))) ∧ ∀ (j : Nat) (v : Value), l[j]? = some v → w.cell? ⟨b, s + o + j, none⟩ = some v := by
  have hlen : ((cs.toList.drop (s + o)).take n).length = n := by
    rw [List.length_take, List.length_drop, Array.length_toList]
    have := L.size; have := L.fits
    omega
  have get : ∀ j, j < n → ((cs.toList.drop (s + o)).take n)[j]? = cs[s + o + j]? := fun j hj => by
    rw [List.getElem?_take, if_pos hj, List.getElem?_drop, Array.getElem?_toList]
  refine ⟨_, hlen, rfl, fun j v hv => ?_, fun j v hv => ?_⟩
  · have hj : j < n := by
      have := (List.getElem?_eq_some_iff.1 hv).1
      rw [List.length_take, List.length_drop] at this
      omega
    rw [List.getElem?_take, if_pos hj, List.getElem?_drop] at hv
    obtain ⟨v', h1, h2⟩ := L.rel _ _ hv
    exact ⟨v', by rw [get j hj, Nat.add_assoc]; exact h1, h2⟩
  · have hj : j < n := by
      have := (List.getElem?_eq_some_iff.1 hv).1
      omega
    rw [get j hj] at hv
    rw [cell_of_row w b _ cs t _ L.heap]
    exact hv
/-- the same, where nothing is owned -/
theorem Lies.values {r b s k z : Nat} {c : List (V C)} {t : TypeId} {cs : Array Value} (L : Lies K P ρ w r b s k z c t cs) (o n : Nat) (hn : o + n ≤ c.length) (h1 : ∀ v ∈ (c.drop o).take n, v.isOwn = false) :
    ∃ l : List Value, l.length = n ∧ RelL K ρ ((c.drop o).take n) l ∧ l = (cs.toList.drop (s + o)).take n ∧ ∀ (j : Nat) (v : Value), l[j]? = some v → w.cell? ⟨b, s + o + j, none⟩ = some v := by
  obtain ⟨l, a1, a0, a2, a3⟩ := L.stretch o n hn
  refine ⟨l, a1, RelL.of ?_ fun j v hv => ?_, a0, a3⟩
  · rw [a1, List.length_take, List.length_drop]; omega
  · obtain ⟨v', b1, b2⟩ := a2 j v hv
    exact ⟨v', b1, (b2.val_of (h1 v (List.mem_of_getElem? hv))).1⟩
/-- a variable's value, out of cells that lie there -/
theorem read_run {t : TypeId} {i : TI C} (hi : TIOk P t i) {row : List (V C)} {b a0 j : Nat} {vs : List Value} (hv : ∀ (m : Nat) (x : V C), row[m]? = some x → x.isOwn = false → ∃ v, w.cell? ⟨b, a0 + m, none⟩ = some v ∧ RelV K ρ x v) {u : V C} (h : readRow i.desc i.size row j = some u) :
    ∃ v, (loadVar t ⟨b, a0 + j, none⟩).run P w = .ok v w ∧ RelV K ρ u v := by
  unfold loadVar
  simp only [Sem.run_bind, run_isAgg hi.under, Result.andThen_ok]
  unfold readRow at h
  cases ha : isAggD i.desc with
  | true =>
    rw [ha] at h
    simp only [if_true] at h ⊢
    split at h
    · rename_i hn
      cases hb : ((row.drop j).take i.size).all V.one with
      | false => rw [hb] at h; cases h
      | true =>
        rw [hb] at h
        cases h
        have hone : ∀ x ∈ (row.drop j).take i.size, x.isOwn = false := fun x hx => V.one_own (List.all_eq_true.1 hb x hx)
        have get : ∀ m, m < i.size → ((row.drop j).take i.size)[m]? = row[j + m]? := fun m hm => by rw [List.getElem?_take, if_pos hm, List.getElem?_drop]
        have hlen : ((row.drop j).take i.size).length = i.size := by rw [List.length_take, List.length_drop]; omega
        have : ∀ n, n ≤ i.size → ∃ L : List Value, RelL K ρ (((row.drop j).take i.size).take n) L ∧ L.length = n ∧ ∀ (m : Nat) (v : Value), L[m]? = some v → w.cell? ⟨b, a0 + j + m, none⟩ = some v := by
          intro n
          induction n with
          | zero => intro _; exact ⟨[], by simp; exact .nil, rfl, fun m v h => by simp at h⟩
          | succ n ih =>
            intro hn'
            obtain ⟨L, l1, l2, l3⟩ := ih (by omega)
            have hm : n < ((row.drop j).take i.size).length := by omega
            have hx := List.getElem?_eq_getElem hm
            have hx' := hx
            rw [get n (by omega)] at hx'
            obtain ⟨v, c1, c2⟩ := hv _ _ hx' (hone _ (List.getElem_mem hm))
            refine ⟨L ++ [v], ?_, by simp [l2], fun m v' hm' => ?_⟩
            · rw [List.take_add_one, hx]
              exact l1.append (.cons c2 .nil)
            · rw [List.getElem?_append] at hm'
              split at hm'
              · exact l3 m v' hm'
              · rename_i hge
                have : m - L.length = 0 := by
                  have := (List.getElem?_eq_some_iff.1 hm').1
                  simp at this; omega
                rw [this] at hm'
                cases hm'
                have : m = n := by omega
                subst this
                rw [Nat.add_assoc]; exact c1
        obtain ⟨L, l1, l2, l3⟩ := this i.size (Nat.le_refl _)
        rw [List.take_take, Nat.min_self] at l1
        have hrun := run_loadCells_list (P := P) w ⟨b, a0 + j, none⟩ L (fun m v hv => by rw [Addr.add_lit]; exact l3 m v hv)
        rw [l2] at hrun
        exact ⟨.agg L.toArray, by simp only [Sem.run_bind, run_sizeOf hi, Result.andThen_ok, hrun, Sem.run_pure], .agg l1⟩
    · cases h
  | false =>
    rw [ha] at h
    simp only [Bool.false_eq_true, if_false] at h ⊢
    split at h
    · rename_i x hx
      cases ho : x.one with
      | false => rw [ho] at h; cases h
      | true =>
        rw [ho] at h
        cases h
        obtain ⟨v, c1, c2⟩ := hv _ _ hx (V.one_own ho)
        refine ⟨v, ?_, c2⟩
        rw [run_load, c1]
    · cases h
end
end Go.Vm
/- A generic text: operations, held against the model's (1). No program. -/
set_option linter.unusedVariables false
set_option linter.unusedSimpArgs false
namespace Go.Vm
open Go
variable {C : Nat → Type}

/-- all that has to be true -/
def Conds (l : List Bool) : Prop := ∀ b ∈ l, b = true
theorem Conds.nil : Conds [] := fun b h => by cases h
theorem Conds.cons {b : Bool} {l : List Bool} (h : Conds (b :: l)) : b = true ∧ Conds l := ⟨h b (by simp), fun x hx => h x (by simp [hx])⟩
theorem some__inj {H H' : AStore C} {x u : V C} {cs : List Bool} (h : some_ H x = some (u, H', cs)) : u = x ∧ H' = H := by
  unfold some_ at h
  cases h
  exact ⟨rfl, rfl⟩
theorem bind_some_ {H H' : AStore C} {x : Option (V C)} {u : V C} {cs : List Bool} (h : x.bind (some_ H) = some (u, H', cs)) : x = some u ∧ H' = H := by
  cases x with
  | none => cases h
  | some y => obtain ⟨rfl, rfl⟩ := some__inj h; exact ⟨rfl, rfl⟩
section
variable {α : Type}
theorem getElem?_putAt {c us : List (V C)} {o : Nat} (ho : o + us.length ≤ c.length) (i : Nat) : (putAt c o us)[i]? = if i < o then c[i]? else if i < o + us.length then us[i - o]? else c[i]? := by
  unfold putAt
  have h1 : (c.take o).length = o := by rw [List.length_take]; omega
  rw [List.getElem?_append, List.getElem?_append]
  simp only [List.length_append, h1]
  by_cases a : i < o
  · rw [if_pos (by omega), if_pos a, if_pos a, List.getElem?_take, if_pos a]
  · rw [if_neg a]
    by_cases b : i < o + us.length
    · rw [if_pos b, if_neg a, if_pos b]
    · rw [if_neg b, if_neg b, List.getElem?_drop, show o + us.length + (i - (o + us.length)) = i by omega, ite_self]
theorem putAt_length {c us : List (V C)} {o : Nat} (ho : o + us.length ≤ c.length) : (putAt c o us).length = c.length := by
  unfold putAt
  simp only [List.length_append, List.length_take, List.length_drop]
  omega
/-- the model's own cells, written -/
def putV (cs : Array Value) (o : Nat) (vs : List Value) : Array Value := (cs.toList.take o ++ vs ++ cs.toList.drop (o + vs.length)).toArray
theorem getElem?_putV {cs : Array Value} {o : Nat} {vs : List Value} (ho : o + vs.length ≤ cs.size) (i : Nat) : (putV cs o vs)[i]? = if i < o then cs[i]? else if i < o + vs.length then vs[i - o]? else cs[i]? := by
  unfold putV
  rw [List.getElem?_toArray]
  have h1 : (cs.toList.take o).length = o := by rw [List.length_take, Array.length_toList]; omega
  rw [List.getElem?_append, List.getElem?_append]
  simp only [List.length_append, h1]
  by_cases a : i < o
  · rw [if_pos (by omega), if_pos a, if_pos a, List.getElem?_take, if_pos a, Array.getElem?_toList]
  · rw [if_neg a]
    by_cases b : i < o + vs.length
    · rw [if_pos b, if_neg a, if_pos b]
    · rw [if_neg b, if_neg b, List.getElem?_drop, show o + vs.length + (i - (o + vs.length)) = i by omega, Array.getElem?_toList, ite_self]
theorem size_putV {cs : Array Value} {o : Nat} {vs : List Value} (ho : o + vs.length ≤ cs.size) : (putV cs o vs).size = cs.size := by
  unfold putV
  simp only [List.size_toArray, List.length_append, List.length_take, List.length_drop, Array.length_toList]
  omega
end
theorem EnvOk.size {E : Env C} (hE : EnvOk E) {t : TypeId} {i : TI C} (h : E.ti t = some i) : E.P.cellsOf t = i.size := cellsOf_eq (hE.ti t i h)
section
variable {E : Env C} {ρ : Ren} {s : AS C} {a : Act} {w : World} {o : Oper} {u : V C} {H' : AStore C} {cs : List Bool}
theorem move_sound (hF : RelF E.K ρ s a) {x : Operand} (ho : o.op = .move x ∨ o.op = .assign x) (h : (s.val x).bind (some_ s.H) = some (u, H', cs)) : OpPure E.K E.P ρ s.H w (execOp a.eval o) u H' := by
  obtain ⟨h1, rfl⟩ := bind_some_ h
  refine OpPure.mk_ ?_ (val_rel hF h1)
  rcases ho with ho | ho <;> simp [execOp, ho]
theorem choose2_rel {K : Codec C} {t : Bool} {x y : V C} {v v' : Value} (h : RelV K ρ x v) (k : RelV K ρ y v') : RelV K ρ (choose2 t x y) (if t = true then v else v') := by
  unfold choose2
  split
  · cases h; cases k; cases t <;> exact .bool _
  · rename_i k1 p k2 q
    cases hk : Nat.beq k1.ctorIdx k2.ctorIdx with
    | false =>
      rw [cond_false]
      cases t
      · exact k
      · exact h
    | true =>
      rw [cond_true]
      have := sameKind_eq (k := k1) (k' := k2) hk
      subst this
      cases h; cases k; cases t <;> exact .int _ _
  · cases t
    · exact k
    · exact h
theorem pick_sound (hF : RelF E.K ρ s a) {c x y : Operand} (ho : o.op = .pick c x y) (h : aop_pick E s.val c x y s.H = some (u, H', cs)) : OpPure E.K E.P ρ s.H w (execOp a.eval o) u H' := by
  unfold aop_pick at h
  split at h
  · rename_i t p q h1 h2 h3
    obtain ⟨rfl, rfl⟩ := some__inj h
    refine OpPure.mk_ ?_ (choose2_rel (t := t) (val_rel hF h2) (val_rel hF h3))
    simp only [execOp, ho, (val_rel hF h1).bool_inv, asBool, pure_bind]
    rfl
  · cases h
/-- an operation that makes a block, which owns nothing -/
theorem newRow_res (hS : RelS E.K E.P ρ s.H w) {ob : AObj C} {c : List (V C)} {cs : Array Value} {t : TypeId} {q : Nat} {m : Sem Next} (hf : ob.flat E.K = some (c, t)) (hq : ob.isRows = true → q = ob.count) (hl : RelL E.K ρ c cs.toList)
    {v : Value} (hrun : m.run E.P w = .ok (.value v) (w.alloc (.cells cs t)))
    (hv : RelV E.K (ρ.setM s.H.n (.to w.heap.size 0 (E.P.cellsOf t) cs.size q)) u v) (W : Cells) : OpRes E.K E.P ρ s.H w m u (s.H.push ob) W := by
  obtain ⟨h1, h2⟩ := hS.push hf hq hl.pointwise hl.fits W (Touched ρ W)
  exact ⟨_, _, _, _, hrun, .inl rfl, hv, h1, h2⟩
theorem alloc_sound (hE : EnvOk E) (hS : RelS E.K E.P ρ s.H w) {t : TypeId} (ho : o.op = .alloc t) (h : aop_alloc E t s.H = some (u, H', cs)) (W : Cells) : OpRes E.K E.P ρ s.H w (execOp a.eval o) u H' W := by
  unfold aop_alloc at h
  cases hi : E.ti t with
  | none => rw [hi] at h; cases h
  | some i =>
    rw [hi] at h
    simp only [Option.bind_some, Option.some.injEq, Prod.mk.injEq] at h
    obtain ⟨rfl, rfl, _⟩ := h
    obtain ⟨z, hz, hzr, _, _⟩ := run_zero (K := E.K) (ρ := ρ) (w := w) (hE.ti t i hi)
    refine newRow_res hS (q := 0) (ob := .cells i.zero t) rfl (fun h => (by cases h)) hzr (v := .pointer (some ⟨w.heap.size, 0, none⟩)) ?_ ?_ W
    · simp only [execOp, ho, Instr.alloc, Sem.run_bind, hz, Result.andThen_ok, newVar, newRow, run_newObj, Sem.run_pure]
      rfl
    · have := RelV.ptr (K := E.K) (o := 0) (Ren.setM_same ρ s.H.n (.to w.heap.size 0 (E.P.cellsOf t) z.cells.size 0))
      simpa using this
theorem box_sound (hF : RelF E.K ρ s a) (hS : RelS E.K E.P ρ s.H w) {t : TypeId} {x : Operand} (ho : o.op = .box t x) (h : aop_box E s.val t x s.H = some (u, H', cs)) (W : Cells) : OpRes E.K E.P ρ s.H w (execOp a.eval o) u H' W := by
  unfold aop_box at h
  split at h
  · cases h
  · cases h
  · rename_i y _ hr hx
    simp only [Option.some.injEq, Prod.mk.injEq] at h
    obtain ⟨rfl, rfl, _⟩ := h
    refine newRow_res hS (q := 0) (ob := .cells y.cells t) (cs := (a.eval x).cells) rfl (fun h => (by cases h)) ((val_rel hF hx).cells fun z e => by subst e; exact hr z rfl) (v := .pointer (some ⟨w.heap.size, 0, none⟩)) ?_ ?_ W
    · simp only [execOp, ho, Instr.box, Sem.run_bind, newVar, newRow, run_newObj, Sem.run_pure, Result.andThen_ok]
      rfl
    · have := RelV.ptr (K := E.K) (o := 0) (Ren.setM_same ρ s.H.n (.to w.heap.size 0 (E.P.cellsOf t) (a.eval x).cells.size 0))
      simpa using this
  · cases h
theorem nilCheck_sound (hF : RelF E.K ρ s a) {x : Operand} (ho : o.op = .nilCheck x) (h : aop_nilCheck s.val x s.H = some (u, H', cs)) : OpPure E.K E.P ρ s.H w (execOp a.eval o) u H' := by
  have ptr : ∀ v, (∃ q, v = Value.pointer (some q)) → a.eval x = v → (execOp a.eval o).run E.P w = .ok (.value v) w := by
    rintro v ⟨q, rfl⟩ he
    simp [execOp, ho, he]
  unfold aop_nilCheck at h
  split at h
  all_goals first
    | (cases h; done)
    | skip
  all_goals rename_i hx
  all_goals obtain ⟨rfl, rfl⟩ := some__inj h
  all_goals have hv := val_rel hF hx
  all_goals refine OpPure.mk_ (v := a.eval x) ?_ hv
  all_goals generalize he : a.eval x = v at hv
  · exact ptr v (by rcases hv.ptr_inv with ⟨_, _, _, _, _, _, h1⟩ | ⟨_, _, h1⟩ <;> exact ⟨_, h1⟩) he
  · exact ptr v (by rcases hv.eptr_inv with ⟨_, _, _, _, _, _, h1⟩ | ⟨_, _, h1⟩ <;> exact ⟨_, h1⟩) he
  · exact ptr v (by cases hv; exact ⟨_, rfl⟩) he
  · cases hv; simp [execOp, ho, he]
  · cases hv; simp [execOp, ho, he]
theorem fieldAddr_sound (hE : EnvOk E) (hF : RelF E.K ρ s a) {st : TypeId} {x : Operand} {f : Nat} (ho : o.op = .fieldAddr st x f) (h : aop_fieldAddr E s.val st x f s.H = some (u, H', cs)) :
    OpPure E.K E.P ρ s.H w (execOp a.eval o) u H' := by
  unfold aop_fieldAddr at h
  split at h
  · rename_i fs _ _ _ _ ht
    split at h
    · rename_i fl hfl
      split at h
      · rename_i fi hfi
        split at h
        · cases h
        · rename_i hz
          have hu := (hE.ti _ _ ht).under
          have hrun : ∀ q : Addr, a.eval x = .pointer (some q) → (execOp a.eval o).run E.P w = .ok (.value (.pointer (some (q.add fl.offset)))) w := by
            intro q hq
            have e1 : (Go.underlying st).run E.P w = .ok (.struct fs) w := run_underlying hu w
            simp only [execOp, ho, Instr.fieldAt, Sem.run_bind, e1, Result.andThen_ok, hfl, hq, Instr.sureAddr, Sem.run_pure, fieldPlace, run_sizeOf (hE.ti _ _ hfi), if_neg hz]
          split at h
          · rename_i r off hx
            obtain ⟨rfl, rfl⟩ := some__inj h
            rcases (val_rel hF hx).ptr_inv with ⟨b, sh, k, z, q, e, hv⟩ | ⟨e, q, hv⟩
            · refine OpPure.mk_ (hrun _ hv) ?_
              rw [Addr.add_lit, Nat.add_assoc]
              exact .ptr e
            · exact OpPure.mk_ (hrun _ hv) (.ptrDead e)
          · rename_i r i j hx
            obtain ⟨rfl, rfl⟩ := some__inj h
            rcases (val_rel hF hx).eptr_inv with ⟨b, sh, k, z, q, e, hv⟩ | ⟨e, q, hv⟩
            · refine OpPure.mk_ (hrun _ hv) ?_
              rw [Addr.add_lit, Nat.add_assoc, Nat.add_assoc]
              exact .eptr e
            · exact OpPure.mk_ (hrun _ hv) (.eptrDead e)
          · rename_i c l i j hx
            obtain ⟨rfl, rfl⟩ := some__inj h
            have hv := val_rel hF hx
            generalize he : a.eval x = v at hv
            cases hv with
            | fptr p1 p2 p3 p4 p5 p6 p7 =>
              refine OpPure.mk_ (hrun _ he) ?_
              rw [Addr.add_lit]
              exact .fptr p1 p2 p3 p4 p5 p6 (by omega)
          · cases h
      · cases h
    · cases h
  · cases h
theorem part_rel (hE : EnvOk E) {t : TypeId} {l : List (V C)} {cs : Array Value} (hl : RelL E.K ρ l cs.toList) {off : Nat} (h : partOf E t l off = some u) : ∃ v, (part t cs off).run E.P w = .ok v w ∧ RelV E.K ρ u v := by
  unfold partOf at h
  split at h
  · rename_i i hi
    have hi' := hE.ti _ _ hi
    unfold part
    simp only [Sem.run_bind, run_isAgg hi'.under, Result.andThen_ok]
    cases ha : isAggD i.desc with
    | true =>
      rw [ha] at h
      simp only [if_true, Option.some.injEq] at h
      subst h
      refine ⟨.agg (cs.extract off (off + i.size)), by simp only [if_true, Sem.run_bind, run_sizeOf hi', Result.andThen_ok, Sem.run_pure], ?_⟩
      have := (hl.drop off).take i.size
      have e : cs.extract off (off + i.size) = ⟨(cs.toList.drop off).take i.size⟩ := by
        apply Array.ext'
        simp [Array.toList_extract, List.extract_eq_take_drop]
      rw [e]
      exact .agg this
    | false =>
      rw [ha] at h
      simp only [Bool.false_eq_true, if_false] at h ⊢
      obtain ⟨v', h1, h2⟩ := hl.get _ _ h
      rw [Array.getElem?_toList] at h1
      refine ⟨v', ?_, h2⟩
      rw [h1]
      rfl
  · cases h
theorem field_sound (hE : EnvOk E) (hF : RelF E.K ρ s a) {t : TypeId} {x : Operand} {f : Nat} (ho : o.op = .field t x f) (h : aop_field E s.val t x f s.H = some (u, H', cs)) :
    OpPure E.K E.P ρ s.H w (execOp a.eval o) u H' := by
  unfold aop_field at h
  split at h
  · rename_i c fs _ _ _ _ hx ht
    split at h
    · rename_i fl hfl
      obtain ⟨hy, rfl⟩ := bind_some_ h
      obtain ⟨cs', hv, hl⟩ := (val_rel hF hx).agg_inv
      obtain ⟨v, hr, hR⟩ := part_rel (w := w) (cs := ⟨cs'⟩) hE hl hy
      have e1 : (Go.underlying t).run E.P w = .ok (.struct fs) w := run_underlying (hE.ti _ _ ht).under w
      refine OpPure.mk_ ?_ hR
      simp only [execOp, ho, Instr.field, Sem.run_bind, e1, Result.andThen_ok, hfl, hv, asAgg, Sem.run_pure, hr]
    · cases h
  · cases h
theorem extract_sound (hF : RelF E.K ρ s a) {x : Operand} {i : Nat} (ho : o.op = .extract x i) (h : aop_extract s.val x i s.H = some (u, H', cs)) : OpPure E.K E.P ρ s.H w (execOp a.eval o) u H' := by
  unfold aop_extract at h
  split at h
  · rename_i vs hx
    obtain ⟨hy, rfl⟩ := bind_some_ h
    obtain ⟨vs', hv, hl⟩ := (val_rel hF hx).tuple_inv
    obtain ⟨v', h1, h2⟩ := hl.get _ _ hy
    refine OpPure.mk_ ?_ h2
    have h1' : (⟨vs'⟩ : Array Value)[i]? = some v' := by rw [List.getElem?_toArray]; exact h1
    simp only [execOp, ho, Instr.extract, hv, h1', Sem.run_bind, Sem.run_pure, Result.andThen_ok]
  · cases h
theorem vals_all (hF : RelF E.K ρ s a) : ∀ (l : List Operand) (us : List (V C)), Vals.all s.val l = some us → RelL E.K ρ us (l.map a.eval)
  | [], us, h => by simp only [Vals.all, Option.some.injEq] at h; subst h; exact .nil
  | x :: l, us, h => by
    unfold Vals.all at h
    split at h
    · rename_i u' us' h1 h2
      simp only [Option.some.injEq] at h
      subst h
      exact .cons (val_rel hF h1) (vals_all hF l _ h2)
    · cases h
theorem makeFunc_sound (hF : RelF E.K ρ s a) {f : FuncId} {x c : Array Operand} (ho : o.op = .makeFunc (.func f) x c) (h : aop_makeFunc s.val f x c s.H = some (u, H', cs)) : OpPure E.K E.P ρ s.H w (execOp a.eval o) u H' := by
  unfold aop_makeFunc at h
  split at h
  · rename_i l1 l2 h1 h2
    obtain ⟨rfl, rfl⟩ := some__inj h
    have r1 := vals_all hF _ _ h1
    have r2 := vals_all hF _ _ h2
    refine OpPure.mk_ (v := .func (.func f) (x.map a.eval) (c.map a.eval)) ?_ ?_
    · simp only [execOp, ho, Instr.makeFunc, Sem.run_bind, Sem.run_pure, Result.andThen_ok]
    · have e1 : x.map a.eval = ⟨x.toList.map a.eval⟩ := by apply Array.ext'; simp
      have e2 : c.map a.eval = ⟨c.toList.map a.eval⟩ := by apply Array.ext'; simp
      rw [e1, e2]
      exact .func r1 r2
  · cases h
theorem makeInterface_sound (hE : EnvOk E) (hF : RelF E.K ρ s a) {t : TypeId} {x : Operand} (ho : o.op = .makeInterface t x) (h : aop_makeInterface E s.val t x s.H = some (u, H', cs)) :
    OpPure E.K E.P ρ s.H w (execOp a.eval o) u H' := by
  unfold aop_makeInterface at h
  split at h
  · rename_i uu i hx ht
    have hu := (hE.ti _ _ ht).under
    have e1 : (Go.underlying t).run E.P w = .ok i.desc w := run_underlying hu w
    split at h
    · cases h
    · rename_i hni
      obtain ⟨rfl, rfl⟩ := some__inj h
      refine OpPure.mk_ (v := .iface t (a.eval x)) ?_ (.iface (val_rel hF hx))
      simp only [execOp, ho, Instr.makeInterface, Sem.run_bind, e1, Result.andThen_ok]
      generalize hd : i.desc = d at hni
      cases d with
      | interface ms => exact absurd rfl (hni ms)
      | _ => rfl
  · cases h
/-- whatever asks nothing of the world -/
theorem plain_sound (hF : RelF E.K ρ s a) (h : plainOp E s.val o s.H = some (u, H', cs)) : OpPure E.K E.P ρ s.H w (execOp a.eval o) u H' := by
  unfold plainOp at h
  split at h
  · rename_i hall
    have heq : ∀ x ∈ o.op.operands, a.eval x = ((s.val x).bind (toVal 99)).getD (.tuple #[]) := by
      intro x hx
      have h1 := List.all_eq_true.1 hall x (by simpa using hx)
      cases hv : s.val x with
      | none => rw [hv] at h1; cases h1
      | some v =>
        rw [hv] at h1
        simp only [Option.isSome_iff_exists] at h1
        obtain ⟨y, hy⟩ := h1
        rw [Option.bind_some, hy, Option.getD_some]
        exact (toVal_eq 99).1 _ _ _ hy (val_rel hF hv)
    split at h
    · cases h
    · rename_i hns
      split at h
      · rename_i v hq
        obtain ⟨hy, rfl⟩ := bind_some_ h
        refine OpPure.mk_ ?_ ((ofVal_rel 99).1 _ _ hy)
        rw [execOp_congr (ρ' := fun x => ((s.val x).bind (toVal 99)).getD (.tuple #[])) o (fun cs b e => hns cs b e) heq]
        exact quiet_run _ _ hq w
      · cases h
  · cases h
theorem intsOf_get {K : Codec C} : ∀ {l : List (V C)} {k : IntKind} {ns : List Int}, intsOf l = some (k, ns) → ns.length = l.length ∧ ∀ (i : Nat) (v : V C), l[i]? = some v → v = .int k (ns.getD i 0)
  | [], k, ns, h => by simp [intsOf] at h
  | v :: l, k, ns, h => by
    unfold intsOf at h
    split at h
    · cases h
    · rename_i k' n hh
      cases h; cases hh
      refine ⟨rfl, fun i v hv => ?_⟩
      cases i with
      | zero => simp at hv; subst hv; rfl
      | succ i => simp at hv
    · rename_i k' n l' hne hh
      injection hh with e1 e2
      subst e1 e2
      split at h
      · rename_i k2 ns2 hi
        cases hk : sameKind k' k2 with
        | false => rw [hk] at h; cases h
        | true =>
          rw [hk] at h
          cases h
          have := sameKind_eq hk
          subst this
          obtain ⟨h1, h2⟩ := intsOf_get (K := K) hi
          refine ⟨by simp [h1], fun i v hv => ?_⟩
          cases i with
          | zero => simp at hv; subst hv; simp
          | succ i => simpa using h2 i v (by simpa using hv)
      · cases h
    · cases h
theorem index_sound (hE : EnvOk E) (hF : RelF E.K ρ s a) {t : TypeId} {x i : Operand} (ho : o.op = .index t x i) (h : aop_index E s.val o t x i s.H = some (u, H', cs)) (hc : Conds cs) :
    OpPure E.K E.P ρ s.H w (execOp a.eval o) u H' := by
  unfold aop_index at h
  split at h
  · rename_i c k n len e _ _ _ _ hx hi ht
    split at h
    · rename_i ei he
      obtain ⟨cs', hv, hl⟩ := (val_rel hF hx).agg_inv
      have e1 : (Go.underlying t).run E.P w = .ok (.array len e) w := run_underlying (hE.ti _ _ ht).under w
      have main : ∀ y, 0 ≤ n ∧ n < (len : Int) → partOf E e c (n.toNat * ei.size) = some y → OpPure E.K E.P ρ s.H w (execOp a.eval o) y s.H := by
        intro y hn hy
        obtain ⟨v, hr, hR⟩ := part_rel (w := w) (cs := ⟨cs'⟩) hE hl hy
        refine OpPure.mk_ ?_ hR
        simp only [execOp, ho, Instr.index, (val_rel hF hi).int_inv, asIntOf, Sem.run_bind, Sem.run_pure, Result.andThen_ok, e1, hv, if_pos hn, run_sizeOf (hE.ti _ _ he), hr]
      split at h
      · rename_i k' ns hk
        simp only [Option.some.injEq, Prod.mk.injEq] at h
        obtain ⟨rfl, rfl, rfl⟩ := h
        obtain ⟨c1, hc⟩ := hc.cons
        obtain ⟨c2, _⟩ := hc.cons
        have c1' : 0 ≤ n := by simpa using c1
        have c2' : n < (len : Int) := by simpa using c2
        cases hb : Nat.beq ei.size 1 with
        | false => rw [hb] at hk; cases hk
        | true =>
          rw [hb, cond_true] at hk
          have h1 : ei.size = 1 := Nat.eq_of_beq_eq_true hb
          cases ha : isAggD ei.desc with
          | true => rw [ha] at hk; cases hk
          | false =>
            rw [ha, cond_false] at hk
            unfold okLen at hk
            split at hk
            · rename_i p hp
              cases hl' : Nat.beq p.2.length len with
              | false => rw [hl'] at hk; cases hk
              | true =>
                rw [hl', cond_true] at hk
                cases hk
                have h2 : ns.length = len := Nat.eq_of_beq_eq_true hl'
                obtain ⟨g1, g2⟩ := intsOf_get (K := E.K) hp
                refine main _ ⟨c1', c2'⟩ ?_
                unfold partOf
                rw [he]
                simp only [ha, h1, Nat.mul_one, Bool.false_eq_true, if_false]
                have hlt : n.toNat < c.length := by omega
                rw [List.getElem?_eq_getElem hlt, g2 _ _ (List.getElem?_eq_getElem hlt)]
            · cases hk
      · split at h
        · rename_i y hy
          simp only [Option.some.injEq, Prod.mk.injEq] at h
          obtain ⟨rfl, rfl, rfl⟩ := h
          obtain ⟨c1, hc⟩ := hc.cons
          obtain ⟨c2, _⟩ := hc.cons
          exact main _ ⟨by simpa using c1, by simpa using c2⟩ hy
        · cases h
    · cases h
  · exact plain_sound hF h
/-! ### addresses of elements, loads -/
theorem ints_chk {ei : TI C} {x : Option (IntKind × List Int)} {k : IntKind} {ns : List Int} {e : TypeId} (hk : cond (Nat.beq ei.size 1) (cond (isAggD ei.desc) none x) none = some (k, ns)) : ei.size = 1 ∧ isAggD ei.desc = false ∧ x = some (k, ns) := by
  cases hb : Nat.beq ei.size 1 with
  | false => rw [hb] at hk; cases hk
  | true =>
    rw [hb, cond_true] at hk
    cases ha : isAggD ei.desc with
    | true => rw [ha] at hk; cases hk
    | false => rw [ha, cond_false] at hk; exact ⟨Nat.eq_of_beq_eq_true hb, rfl, hk⟩
theorem cond_some {α : Type} {b : Bool} {x : α} {y : α} (h : cond b (some x) none = some y) : b = true ∧ x = y := by
  cases b with
  | true => cases h; exact ⟨rfl, rfl⟩
  | false => cases h
theorem cond_none {α : Type} {b : Bool} {x : Option α} {y : α} (h : cond b x none = some y) : b = true ∧ x = some y := by
  cases b with
  | true => exact ⟨rfl, h⟩
  | false => cases h
/-- a root that lives, with cells -/
theorem RelS.lies (hS : RelS E.K E.P ρ s.H w) {r b sh k z q : Nat} {ob : AObj C} (e : ρ.m r = .to b sh k z q) (hg : s.H.get r = some ob) {c : List (V C)} {t : TypeId} (hf : ob.flat E.K = some (c, t)) : (ob.isRows = true → q = ob.count) ∧ ∃ cs, Lies E.K E.P ρ w r b sh k z c t cs := (hS.blk r b sh k z q ob e hg).lies hf
theorem rows_flat {K : Codec C} {P : Program} {ρ : Ren} {w : World} {r b s k z q : Nat} {cid : Nat} {l : List (C cid)} (h : RelB K P ρ w r b s k z q (.rows cid l)) : cid < K.n ∧ (AObj.rows cid l : AObj C).flat K = some (K.flat cid l, K.ty cid) := by
  obtain ⟨_, c, t, cs, h1, _⟩ := h
  simp only [AObj.flat] at h1 ⊢
  split at h1
  · rename_i hc; exact ⟨hc, if_pos hc⟩
  · cases h1
theorem hole_flat {K : Codec C} {P : Program} {ρ : Ren} {w : World} {r b s k z q : Nat} {cid : Nat} {l : List (C cid)} {i : Nat} {row : List (V C)} (h : RelB K P ρ w r b s k z q (.hole cid l i row)) : (cid < K.n ∧ i < l.length ∧ row.length = K.k cid) ∧ (AObj.hole cid l i row : AObj C).flat K = some (K.flat cid (l.take i) ++ row ++ K.flat cid (l.drop (i + 1)), K.ty cid) := by
  obtain ⟨_, c, t, cs, h1, _⟩ := h
  simp only [AObj.flat] at h1 ⊢
  split at h1
  · rename_i hc; exact ⟨hc, if_pos hc⟩
  · cases h1
theorem indexAddr_sound (hE : EnvOk E) (hF : RelF E.K ρ s a) (hS : RelS E.K E.P ρ s.H w) {t : TypeId} {x i : Operand} (ho : o.op = .indexAddr t x i) (h : aop_indexAddr E s.val t x i s.H = some (u, H', cs)) (hc : Conds cs) :
    OpPure E.K E.P ρ s.H w (execOp a.eval o) u H' := by
  unfold aop_indexAddr at h
  split at h
  · rename_i e _ _ _ _ k n ht hi
    split at h
    · rename_i ei he
      have hu := (hE.ti _ _ ht).under
      have hel : E.P.elem t = e := by unfold Program.elem; rw [hu]
      have hrun : ∀ (q : Addr) (len c' : Nat), 0 ≤ n ∧ n < (len : Int) → a.eval x = .slice (some q) len c' → (execOp a.eval o).run E.P w = .ok (.value (.pointer (some (q.add (n.toNat * ei.size))))) w := by
        intro q len c' hn hq
        simp only [execOp, ho, (val_rel hF hi).int_inv, hq, Sem.run_bind, run_indexAt_slice w t q len c' k n (by rw [hel]; exact hu), if_pos hn, hel, run_sizeOf (hE.ti _ _ he), Result.andThen_ok, Sem.run_pure]
      have c2 : ∀ {len : Nat} {l : List Bool}, Conds (decide (0 ≤ n) :: decide (n < (len : Int)) :: l) → 0 ≤ n ∧ n < (len : Int) := by
        intro len l hc
        obtain ⟨c1, hc⟩ := hc.cons
        obtain ⟨c2, _⟩ := hc.cons
        exact ⟨by simpa using c1, by simpa using c2⟩
      split at h
      · -- a slice of cells
        rename_i r off len c hx
        cases h
        have hn := c2 hc
        have hv := val_rel hF hx
        generalize hev : a.eval x = v at hv
        cases hv with
        | sl q p1 p2 p3 =>
          refine OpPure.mk_ (hrun _ _ _ hn hev) ?_
          rw [Addr.add_lit, Nat.add_assoc]
          exact .ptr q
        | slDead q => exact OpPure.mk_ (hrun _ _ _ hn hev) (.ptrDead q)
        | slEmp => exact absurd hn (by omega)
      · -- a whole list
        rename_i r hx
        have hv := val_rel hF hx
        have go : ∀ (cid : Nat) (l : List (C cid)) (ob : AObj C), s.H.get r = some ob → (ob = .rows cid l ∨ ∃ i row, ob = .hole cid l i row) → Nat.beq (E.K.ty cid) e = true → 0 ≤ n ∧ n < (l.length : Int) → OpPure E.K E.P ρ s.H w (execOp a.eval o) (.eptr r n.toNat 0) s.H := by
          intro cid l ob hg hob hty hn
          generalize hev : a.eval x = v at hv
          cases hv with
          | rsw q p1 p2 =>
            rename_i b sh kk z q' c'
            have hB := hS.blk _ _ _ _ _ _ _ q hg
            have hq : q' = l.length ∧ kk = ei.size := by
              rcases hob with rfl | ⟨i', row, rfl⟩
              · obtain ⟨hcid, hf⟩ := rows_flat hB
                obtain ⟨h1, cs, L⟩ := hB.lies hf
                exact ⟨h1 rfl, by rw [L.k, Nat.eq_of_beq_eq_true hty, hE.size he]⟩
              · obtain ⟨hcid, hf⟩ := hole_flat hB
                obtain ⟨h1, cs, L⟩ := hB.lies hf
                exact ⟨h1 rfl, by rw [L.k, Nat.eq_of_beq_eq_true hty, hE.size he]⟩
            obtain ⟨rfl, rfl⟩ := hq
            refine OpPure.mk_ (hrun _ _ _ hn hev) ?_
            rw [Addr.add_lit]
            have := RelV.eptr (K := E.K) (i := n.toNat) (j := 0) q
            simpa using this
          | rswDead q =>
            have := hS.dead _ _ q hg
            rcases hob with rfl | ⟨i', row, rfl⟩ <;> cases this
          | rswEmp q =>
            obtain ⟨cid', _, h1⟩ := hS.emp _ _ q hg
            rcases hob with rfl | ⟨i', row, rfl⟩
            · injection h1 with e1 e2
              subst e1
              cases e2
              simp at hn; omega
            · cases h1
        split at h
        · rename_i cid l hg
          obtain ⟨hty, h⟩ := cond_some h
          cases h
          exact go cid l _ hg (.inl rfl) hty (c2 hc)
        · rename_i cid l i' row hg
          obtain ⟨hty, h⟩ := cond_some h
          cases h
          exact go cid l _ hg (.inr ⟨i', row, rfl⟩) hty (c2 hc)
        · cases h
      · -- a part of a list
        rename_i r off len c hx
        split at h
        · rename_i cid l hg
          obtain ⟨hty, h⟩ := cond_some h
          cases h
          have hn := c2 hc
          have hv := val_rel hF hx
          generalize hev : a.eval x = v at hv
          cases hv with
          | rsl q p1 p2 p3 p4 =>
            have hB := hS.blk _ _ _ _ _ _ _ q hg
            obtain ⟨hcid, hf⟩ := rows_flat hB
            obtain ⟨h1, cs, L⟩ := hB.lies hf
            have hk := L.k
            rw [Nat.eq_of_beq_eq_true hty, hE.size he] at hk
            subst hk
            refine OpPure.mk_ (hrun _ _ _ hn hev) ?_
            rw [Addr.add_lit]
            have := RelV.eptr (K := E.K) (i := n.toNat + off) (j := 0) q
            rw [Nat.add_mul, Nat.add_zero] at this
            rw [Nat.add_assoc, Nat.add_comm (off * ei.size)]
            exact this
          | rslDead q => have := hS.dead _ _ q hg; cases this
          | rslEmp => exact absurd hn (by omega)
          | rslNil => exact absurd hn (by omega)
        · cases h
      · -- a frozen list
        rename_i nn cid l hx
        obtain ⟨hty, h⟩ := cond_some h
        cases h
        have hn := c2 hc
        have hv := val_rel hF hx
        generalize hev : a.eval x = v at hv
        cases hv with
        | fz p1 p2 p3 p4 p5 p6 p7 p8 =>
          subst p8
          have hk : E.K.k cid = ei.size := by rw [hE.codec.size cid p2, Nat.eq_of_beq_eq_true hty, hE.size he]
          refine OpPure.mk_ (hrun _ _ _ hn hev) ?_
          rw [Addr.add_lit]
          exact .fptr p1 p2 (by omega) p5 p6 p7 (by rw [hk, Nat.add_zero])
        | fzEmp => simp at hn; omega
        | fzNil => simp at hn; omega
      · cases h
    · cases h
  · rename_i len e _ _ _ _ k n ht hi
    split at h
    · rename_i ei he
      have hu := (hE.ti _ _ ht).under
      have hel : E.P.elem t = e := by unfold Program.elem; rw [hu]
      have hal : E.P.arrayLen t = len := by unfold Program.arrayLen; rw [hu]
      have hrun : ∀ q : Addr, 0 ≤ n ∧ n < (len : Int) → a.eval x = .pointer (some q) → (execOp a.eval o).run E.P w = .ok (.value (.pointer (some (q.add (n.toNat * ei.size))))) w := by
        intro q hn hq
        simp only [execOp, ho, (val_rel hF hi).int_inv, hq, Sem.run_bind, run_indexAt_array w t q k n (by rw [hel, hal]; exact hu), hal, if_pos hn, hel, run_sizeOf (hE.ti _ _ he), Result.andThen_ok, Sem.run_pure]
      have c2 : Conds [decide (0 ≤ n), decide (n < (len : Int))] → 0 ≤ n ∧ n < (len : Int) := by
        intro hc
        obtain ⟨c1, hc⟩ := hc.cons
        obtain ⟨c2, _⟩ := hc.cons
        exact ⟨by simpa using c1, by simpa using c2⟩
      split at h
      · rename_i r off hx
        split at h
        · rename_i p hp
          cases h
          have hn := c2 hc
          obtain ⟨p1, p2⟩ := p
          obtain ⟨h1, _, _⟩ := ints_chk (e := e) hp
          rcases (val_rel hF hx).ptr_inv with ⟨b, sh, kk, z, q, e, hv⟩ | ⟨e, q, hv⟩
          · refine OpPure.mk_ (hrun _ hn hv) ?_
            rw [Addr.add_lit, h1, Nat.mul_one]
            exact .aptr e (by omega)
          · exact OpPure.mk_ (hrun _ hn hv) (.aptrDead e)
        · cases h
          have hn := c2 hc
          rcases (val_rel hF hx).ptr_inv with ⟨b, sh, kk, z, q, e, hv⟩ | ⟨e, q, hv⟩
          · refine OpPure.mk_ (hrun _ hn hv) ?_
            rw [Addr.add_lit, Nat.add_assoc]
            exact .ptr e
          · exact OpPure.mk_ (hrun _ hn hv) (.ptrDead e)
      · rename_i r i' j hx
        cases h
        have hn := c2 hc
        rcases (val_rel hF hx).eptr_inv with ⟨b, sh, kk, z, q, e, hv⟩ | ⟨e, q, hv⟩
        · refine OpPure.mk_ (hrun _ hn hv) ?_
          rw [Addr.add_lit, Nat.add_assoc, Nat.add_assoc]
          exact .eptr e
        · exact OpPure.mk_ (hrun _ hn hv) (.eptrDead e)
      · rename_i c l i' j hx
        cases h
        have hn := c2 hc
        have hv := val_rel hF hx
        generalize he' : a.eval x = v at hv
        cases hv with
        | fptr p1 p2 p3 p4 p5 p6 p7 =>
          refine OpPure.mk_ (hrun _ hn he') ?_
          rw [Addr.add_lit]
          exact .fptr p1 p2 p3 p4 p5 p6 (by omega)
      · cases h
    · cases h
  · cases h
/-- a row of a list that lies there -/
theorem row_rel (hE : EnvOk E) {r b sh k z : Nat} {cid : Nat} {l : List (C cid)} {csr : Array Value} (hc : cid < E.K.n) (L : Lies E.K E.P ρ w r b sh k z (E.K.flat cid l) (E.K.ty cid) csr) {i : Nat} (hi : i < l.length) :
    k = E.K.k cid ∧ ∀ (m : Nat) (x : V C), (rowAt E.K cid l i)[m]? = some x → ∃ v, csr[sh + (i * k + m)]? = some v ∧ RelC E.K ρ w x v (ρ.f r (i * k + m)) := by
  have hk : k = E.K.k cid := L.k.trans (hE.codec.size cid hc).symm
  subst hk
  refine ⟨rfl, fun m x hx => ?_⟩
  have hm : m < E.K.k cid := by
    have := (List.getElem?_eq_some_iff.1 hx).1
    unfold rowAt at this
    rwa [hE.codec.len cid hc] at this
  exact L.rel _ _ (by rw [flat_row hE.codec hc l i m hi hm]; exact hx)
theorem load_sound (hE : EnvOk E) (hF : RelF E.K ρ s a) (hS : RelS E.K E.P ρ s.H w) {t : TypeId} {x : Operand} (ho : o.op = .load t x) (h : aop_load E s.val t x s.H = some (u, H', cs)) (hc : Conds cs) :
    OpPure E.K E.P ρ s.H w (execOp a.eval o) u H' := by
  have fin : ∀ (q : Addr) (v : Value), a.eval x = .pointer (some q) → (loadVar t q).run E.P w = .ok v w → (execOp a.eval o).run E.P w = .ok (.value v) w := by
    intro q v hq hr
    simp only [execOp, ho, Sem.run_bind, Instr.loadAt, hq, Instr.sureAddr, Sem.run_pure, Result.andThen_ok, hr]
  unfold aop_load at h
  split at h
  · -- cells
    rename_i r off i hx ht
    split at h
    · rename_i c t' hg
      obtain ⟨hu, rfl⟩ := bind_some_ h
      rcases (val_rel hF hx).ptr_inv with ⟨b, sh, k, z, q, e, hv⟩ | ⟨e, _⟩
      · obtain ⟨_, csr, L⟩ := hS.lies e hg (c := c) (t := t') rfl
        obtain ⟨v, hr, hR⟩ := read_run (w := w) (hE.ti t i ht) (row := c) (b := b) (a0 := sh) (vs := []) (fun m y hy hyo => by
          obtain ⟨v', h1, h2⟩ := L.rel m y hy
          exact ⟨v', by rw [cell_of_row w b _ csr t' _ L.heap]; exact h1, (h2.val_of hyo).1⟩) hu
        exact OpPure.mk_ (fin _ _ hv hr) hR
      · have := hS.dead _ _ e hg; cases this
    · cases h
  · -- a list's element
    rename_i r i' j i hx ht
    split at h
    · rename_i cid l hg
      split at h
      · rename_i y hy
        cases h
        obtain ⟨c1, _⟩ := hc.cons
        have hi' : i' < l.length := by simpa using c1
        rcases (val_rel hF hx).eptr_inv with ⟨b, sh, k, z, q, e, hv⟩ | ⟨e, _⟩
        · obtain ⟨hcid, hf⟩ := rows_flat (hS.blk _ _ _ _ _ _ _ e hg)
          obtain ⟨_, csr, L⟩ := hS.lies e hg hf
          obtain ⟨hk, hrow⟩ := row_rel hE hcid L hi'
          obtain ⟨v, hr, hR⟩ := read_run (w := w) (hE.ti t i ht) (row := rowAt E.K cid l i') (b := b) (a0 := sh + i' * k) (vs := []) (fun m y hy hyo => by
            obtain ⟨v', h1, h2⟩ := hrow m y hy
            exact ⟨v', by rw [cell_of_row w b _ csr _ _ L.heap, Nat.add_assoc]; exact h1, (h2.val_of hyo).1⟩) hy
          rw [← Nat.add_assoc] at hv
          exact OpPure.mk_ (fin _ _ hv hr) hR
        · have := hS.dead _ _ e hg; cases this
      · cases h
    · rename_i cid l hh row hg
      split at h
      · rename_i y hy
        cases h
        obtain ⟨c1, _⟩ := hc.cons
        have hi' : i' = hh := Nat.eq_of_beq_eq_true c1
        subst hi'
        rcases (val_rel hF hx).eptr_inv with ⟨b, sh, k, z, q, e, hv⟩ | ⟨e, _⟩
        · obtain ⟨⟨hcid, hi', hrl⟩, hf⟩ := hole_flat (hS.blk _ _ _ _ _ _ _ e hg)
          obtain ⟨_, csr, L⟩ := hS.lies e hg hf
          have hk : k = E.K.k cid := L.k.trans (hE.codec.size cid hcid).symm
          subst hk
          have hlt : (E.K.flat cid (l.take i')).length = i' * E.K.k cid := by rw [flat_length hE.codec hcid, List.length_take, Nat.min_eq_left (by omega)]
          obtain ⟨v, hr, hR⟩ := read_run (w := w) (hE.ti t i ht) (row := row) (b := b) (a0 := sh + i' * E.K.k cid) (vs := []) (fun m y hy hyo => by
            have hm : m < row.length := (List.getElem?_eq_some_iff.1 hy).1
            obtain ⟨v', h1, h2⟩ := L.rel (i' * E.K.k cid + m) y (by
              rw [List.append_assoc, List.getElem?_append_right (by omega), hlt, Nat.add_sub_cancel_left, List.getElem?_append_left hm]
              exact hy)
            exact ⟨v', by rw [cell_of_row w b _ csr _ _ L.heap, Nat.add_assoc]; exact h1, (h2.val_of hyo).1⟩) hy
          rw [← Nat.add_assoc] at hv
          exact OpPure.mk_ (fin _ _ hv hr) hR
        · have := hS.dead _ _ e hg; cases this
      · cases h
    · cases h
  · -- a frozen list's element
    rename_i cid l i' j i hx ht
    obtain ⟨hu, rfl⟩ := bind_some_ h
    have hv := val_rel hF hx
    generalize hev : a.eval x = v at hv
    cases hv with
    | fptr p1 p2 p3 p4 p5 p6 p7 =>
      rename_i b sh n csr us vs
      obtain ⟨fr, hh⟩ := hS.frz _ _ _ p1
      subst p5 p6 p7
      obtain ⟨v, hr, hR⟩ := read_run (w := w) (hE.ti t i ht) (row := rowAt E.K cid l i') (b := b) (a0 := sh + i' * E.K.k cid) (vs := []) (fun m y hy hyo => by
        have hm : m < E.K.k cid := by
          have := (List.getElem?_eq_some_iff.1 hy).1
          unfold rowAt at this
          rwa [hE.codec.len cid p2] at this
        obtain ⟨v', h1, h2⟩ := p4.get (i' * E.K.k cid + m) y (by rw [flat_row hE.codec p2 l i' m p3 hm]; exact hy)
        have hlt : i' * E.K.k cid + m < l.length * E.K.k cid := by
          have : (i' + 1) * E.K.k cid ≤ l.length * E.K.k cid := Nat.mul_le_mul_right _ p3
          rw [Nat.add_mul] at this; omega
        rw [List.getElem?_take, if_pos hlt, List.getElem?_drop, Array.getElem?_toList] at h1
        exact ⟨v', by rw [cell_of_row w b _ csr _ _ hh, Nat.add_assoc]; exact h1, h2⟩) hu
      rw [← Nat.add_assoc] at hev
      exact OpPure.mk_ (fin _ _ hev hr) hR
  · -- an array's element
    rename_i r off n i' i hx ht
    cases ha : isAggD i.desc with
    | true => rw [ha] at h; cases h
    | false =>
      rw [ha, cond_false] at h
      split at h
      · rename_i c t' hg
        split at h
        · rename_i k ns hi
          cases h
          obtain ⟨c1, _⟩ := hc.cons
          have hlt : i' < ns.length := by simpa using c1
          obtain ⟨g1, g2⟩ := intsOf_get (K := E.K) hi
          have hv := val_rel hF hx
          generalize hev : a.eval x = v at hv
          have hcell : c[off + i']? = some (.int k (ns.getD i' 0)) := by
            have h1 : i' < ((c.drop off).take n).length := by omega
            have h2 := g2 _ _ (List.getElem?_eq_getElem h1)
            have h3 := List.getElem?_eq_getElem h1
            rw [h2, List.getElem?_take, if_pos (by rw [List.length_take] at h1; omega), List.getElem?_drop] at h3
            exact h3
          cases hv with
          | aptr e hm =>
            subst hm
            obtain ⟨_, csr, L⟩ := hS.lies e hg (c := c) (t := t') rfl
            obtain ⟨v, hr, hR⟩ := read_run (w := w) (hE.ti t i ht) (row := c) (a0 := _) (vs := []) (u := .int k (ns.getD i' 0)) (j := off + i') (fun m y hy hyo => by
              obtain ⟨v', h1, h2⟩ := L.rel m y hy
              exact ⟨v', by rw [cell_of_row w _ _ csr t' _ L.heap]; exact h1, (h2.val_of hyo).1⟩) (by unfold readRow; rw [ha]; simp only [Bool.false_eq_true, if_false, hcell]; rfl)
            exact OpPure.mk_ (fin _ _ hev hr) hR
          | aptrDead e => have := hS.dead _ _ e hg; cases this
        · cases h
      · cases h
  · cases h
end
end Go.Vm
/- A generic text: what a list refers to becomes its own, or is frozen. No program. -/
set_option linter.unusedVariables false
set_option linter.unusedSimpArgs false
namespace Go.Vm
open Go
variable {C : Nat → Type}
section
variable {K : Codec C} {P : Program} {ρ ρ' : Ren} {H : AStore C} {w : World}
theorem relCs_of : ∀ (c : List (V C)) (vs : List Value) (F : Nat → List Nat), c.length = vs.length → (∀ (i : Nat) (u : V C), c[i]? = some u → ∃ v, vs[i]? = some v ∧ RelC K ρ w u v (F i)) → RelCs K ρ w c vs ((List.range c.length).map F)
  | [], [], _, _, _ => .nil
  | [], _ :: _, _, h, _ => by simp at h
  | _ :: _, [], _, h, _ => by simp at h
  | u :: c, v :: vs, F, h, k => by
    obtain ⟨v', e, r⟩ := k 0 u rfl
    simp at e; subst e
    have := relCs_of c vs (fun i => F (i + 1)) (by simpa using h) fun i u hu => by simpa using k (i + 1) u (by simpa using hu)
    have e : (List.range (u :: c).length).map F = F 0 :: (List.range c.length).map fun i => F (i + 1) := by
      rw [List.length_cons, List.range_succ_eq_map, List.map_cons, List.map_map]
      rfl
    rw [e]
    exact .cons r this
theorem RelCs.get : ∀ {c : List (V C)} {vs : List Value} {gs : List (List Nat)}, RelCs K ρ w c vs gs → ∀ (i : Nat) (u : V C), c[i]? = some u → ∃ v g, vs[i]? = some v ∧ gs[i]? = some g ∧ RelC K ρ w u v g
  | _, _, _, .nil, i, u, h => by simp at h
  | _, _, _, .cons a b, 0, u, h => by simp at h; subst h; exact ⟨_, _, rfl, rfl, a⟩
  | _, _, _, .cons a b, i + 1, u, h => by simpa using RelCs.get b i u (by simpa using h)
theorem RelCs.length : ∀ {c : List (V C)} {vs : List Value} {gs : List (List Nat)}, RelCs K ρ w c vs gs → c.length = vs.length ∧ gs.length = c.length
  | _, _, _, .nil => ⟨rfl, rfl⟩
  | _, _, _, .cons a b => by have := RelCs.length b; simp [this.1, this.2]
theorem RelCs.append : ∀ {c d : List (V C)} {vs us : List Value} {gs hs : List (List Nat)}, RelCs K ρ w c vs gs → RelCs K ρ w d us hs → RelCs K ρ w (c ++ d) (vs ++ us) (gs ++ hs)
  | _, _, _, _, _, _, .nil, k => k
  | _, _, _, _, _, _, .cons a b, k => .cons a (RelCs.append b k)
theorem RelCs.of_vals : ∀ {c : List (V C)} {vs : List Value}, RelL K ρ c vs → RelCs K ρ w c vs (c.map fun _ => [])
  | _, _, .nil => .nil
  | _, _, .cons a b => .cons (.val a) (RelCs.of_vals b)
theorem RelCs.coe : ∀ {c d : List (V C)} {vs : List Value} {gs : List (List Nat)}, RelCs K ρ w c vs gs → Coes K c d → RelCs K ρ w d vs gs
  | _, _, _, _, .nil, .nil => .nil
  | _, _, _, _, .cons a b, .cons e f => .cons (a.coe e) (RelCs.coe b f)
theorem flatten_map_mem {F : Nat → List Nat} {n b : Nat} : b ∈ ((List.range n).map F).flatten ↔ ∃ i, i < n ∧ b ∈ F i := by
  simp only [List.mem_flatten, List.mem_map, List.mem_range]
  constructor
  · rintro ⟨_, ⟨i, h1, rfl⟩, h2⟩; exact ⟨i, h1, h2⟩
  · rintro ⟨i, h1, h2⟩; exact ⟨_, ⟨i, h1, rfl⟩, h2⟩
theorem flatten_map_nodup {F : Nat → List Nat} (h1 : ∀ i, (F i).Nodup) (h2 : ∀ i j b, b ∈ F i → b ∈ F j → i = j) : ∀ n, ((List.range n).map F).flatten.Nodup
  | 0 => by simp
  | n + 1 => by
    rw [List.range_succ, List.map_append, List.flatten_append, List.nodup_append]
    refine ⟨flatten_map_nodup h1 h2 n, by simpa using h1 n, fun b hb c hc => ?_⟩
    rintro rfl
    obtain ⟨i, hi, hb'⟩ := flatten_map_mem.1 hb
    have hc' : b ∈ F n := by simpa using hc
    have := h2 i n b hb' hc'
    omega
/-- nothing is owned that was nobody's -/
def Less (ρ ρ' : Ren) : Prop := ∀ b x, Own ρ' b x → ∃ y, Own ρ b y
theorem Less.refl (ρ : Ren) : Less ρ ρ := fun b x h => ⟨x, h⟩
theorem Less.trans {a b c : Ren} (h : Less a b) (k : Less b c) : Less a c := fun x y hy => by
  obtain ⟨z, hz⟩ := k x y hy
  exact h x z hz
theorem Less.free (h : Less ρ ρ') {b : Nat} (hb : Free ρ b) : Free ρ' b := fun x hx => by
  obtain ⟨y, hy⟩ := h b x hx
  exact hb y hy
theorem Less.kill (ρ : Ren) (r : Nat) : Less ρ (ρ.kill r) := fun b x h => ⟨x, (Own.of_kill h).1⟩
/-- blocks that are nobody's are frozen -/
def Ren.ice (ρ : Ren) (w : World) (bs : List Nat) : Ren := { ρ with z := fun b => if b ∈ bs then (match w.heap[b]? with | some (.cells cs t _) => some (cs, t) | _ => none) else ρ.z b }
theorem Ren.ice_le {bs : List Nat} (hb : ∀ b ∈ bs, Free ρ b) : ρ.le (ρ.ice w bs) := by
  refine ⟨fun r h => h, fun r h => .inl h, fun r b s k z q h => .inl h, fun b x h => ?_⟩
  have : b ∉ bs := fun hm => hb b hm .ice ⟨x, h⟩
  show (if b ∈ bs then _ else ρ.z b) = some x
  rw [if_neg this]; exact h
theorem Ren.ice_own {bs : List Nat} {b : Nat} {x : Who} (h : Own (ρ.ice w bs) b x) : Own ρ b x ∨ (x = .ice ∧ b ∈ bs) := by
  cases x with
  | root r => exact .inl h
  | cell r i => exact .inl h
  | ice =>
    obtain ⟨y, hy⟩ := h
    by_cases hm : b ∈ bs
    · exact .inr ⟨rfl, hm⟩
    · left
      have hy' : (if b ∈ bs then (match w.heap[b]? with | some (.cells cs t _) => some (cs, t) | _ => none) else ρ.z b) = some y := hy
      rw [if_neg hm] at hy'
      exact ⟨y, hy'⟩
theorem RelS.ice (h : RelS K P ρ H w) {bs : List Nat} (hb : ∀ b ∈ bs, Free ρ b ∧ b < w.heap.size) {W : Cells} {T : Nat → Prop} (hT : ∀ b ∈ bs, T b) : RelS K P (ρ.ice w bs) H w ∧ Ext ρ (ρ.ice w bs) H.n W T w w := by
  have hle : ρ.le (ρ.ice w bs) := Ren.ice_le fun b hm => (hb b hm).1
  refine ⟨⟨⟨h.names.dom, fun b x hx => ?_, fun b x y hx hy => ?_, h.names.nod⟩, fun r b s k z q o e g => (h.blk r b s k z q o e g).mono hle rfl rfl fun _ _ _ => rfl, h.emp, h.dead, fun b cs t e => ?_⟩, ⟨hle, Nat.le_refl _, rfl, rfl, rfl, fun _ _ _ => rfl, fun r b s k z q e _ cs t fr hh => ⟨cs, hh, rfl, fun _ _ => rfl⟩, fun r b s k z q e _ => .inl e, fun r i b e _ => .inl e, fun b x e _ => ?_, fun _ _ _ => rfl, fun _ _ _ _ => rfl⟩⟩
  · rcases Ren.ice_own hx with h1 | ⟨_, h1⟩
    · exact h.names.lt b x h1
    · exact (hb b h1).2
  · rcases Ren.ice_own hx with h1 | ⟨rfl, h1⟩
    · rcases Ren.ice_own hy with h2 | ⟨rfl, h2⟩
      · exact h.names.uniq b x y h1 h2
      · exact absurd h1 ((hb b h2).1 x)
    · rcases Ren.ice_own hy with h2 | ⟨rfl, h2⟩
      · exact absurd h2 ((hb b h1).1 y)
      · rfl
  · have e' : (if b ∈ bs then (match w.heap[b]? with | some (.cells cs t _) => some (cs, t) | _ => none) else ρ.z b) = some (cs, t) := e
    by_cases hm : b ∈ bs
    · rw [if_pos hm] at e'
      split at e'
      · rename_i cs1 t1 fr hh
        cases e'
        exact ⟨fr, hh⟩
      · cases e'
    · rw [if_neg hm] at e'
      exact h.frz b cs t e'
  · have e' : (if b ∈ bs then (match w.heap[b]? with | some (.cells cs t _) => some (cs, t) | _ => none) else ρ.z b) = some x := e
    by_cases hm : b ∈ bs
    · exact .inr (hT b hm)
    · rw [if_neg hm] at e'; exact .inl e'
theorem flat_snap_map (hK : CodecOk P K) {cid : Nat} (hc : cid < K.n) (l : List (C cid)) : K.k (K.fzOf cid) = K.k cid := by
  obtain ⟨h1, h2⟩ := hK.fzn cid hc
  rw [hK.size _ h1, h2, ← hK.size _ hc]
/-- what was owned is frozen -/
theorem RelC.freeze (hK : CodecOk P K) (hl : ρ.le ρ') {u : V C} {v : Value} {g : List Nat} (k : RelC K ρ w u v g) : (∀ b ∈ g, ∀ cs t fr, w.heap[b]? = some (.cells cs t fr) → ρ'.z b = some (cs, t)) → RelV K ρ' (K.snap u) v := by
  refine RelC.rec (motive_1 := fun u v g _ => (∀ b ∈ g, ∀ cs t fr, w.heap[b]? = some (.cells cs t fr) → ρ'.z b = some (cs, t)) → RelV K ρ' (K.snap u) v) (motive_2 := fun us vs gs _ => (∀ b ∈ gs.flatten, ∀ cs t fr, w.heap[b]? = some (.cells cs t fr) → ρ'.z b = some (cs, t)) → RelL K ρ' (us.map K.snap) vs) ?_ ?_ ?_ ?_ ?_ ?_ k
  · intro v v' h _
    have : K.snap v = v := by
      cases v <;> first | rfl | (cases h)
    rw [this]; exact h.mono hl
  · intro cid l b s n c' us vs g cs fs h1 h2 h3 h4 _ e1 e2 e3 e4 ih hz
    subst e1 e2 e3 e4
    obtain ⟨k1, k2⟩ := hK.fzn cid h1
    have k3 := hK.fzl cid
    have hk := flat_snap_map hK h1 l
    have hzb := hz b (by simp) cs (K.ty cid) (0, 0) h2
    have := ih fun b' hb' => hz b' (List.mem_cons_of_mem _ hb')
    rw [← hK.fz cid h1] at this
    exact .fz (by rw [k2]; exact hzb) k1 h3 (by rw [hk]; exact h4) this rfl (by rw [hk]) (k3 l).symm
  · intro cid hc _
    have : K.toFz cid [] = [] := List.length_eq_zero_iff.1 (hK.fzl cid [])
    show RelV K ρ' (.fz false (K.fzOf cid) (K.toFz cid [])) _
    rw [this]; exact .fzNil _
  · intro cid a hc _
    have : K.toFz cid [] = [] := List.length_eq_zero_iff.1 (hK.fzl cid [])
    show RelV K ρ' (.fz false (K.fzOf cid) (K.toFz cid [])) _
    rw [this]; exact .fzEmp _ _ _ _
  · exact fun _ => .nil
  · intro u us v vs g gs _ _ i1 i2 hz
    exact .cons (i1 fun b hb => hz b (by simp [hb])) (i2 fun b hb => hz b (by simp only [List.flatten_cons, List.mem_append]; exact .inr hb))
/-! ### a reference becomes what it refers to -/
/-- the roots that a value refers to -/
def V.refs1 : V C → List Nat
  | .rsw r => [r]
  | .rsl r _ _ _ => [r]
  | .sl r _ _ _ => [r]
  | _ => []
def V.refs : V C → List Nat
  | .agg l => l.flatMap V.refs1
  | v => v.refs1
theorem V.refs_cells {v u : V C} (h : u ∈ v.cells) : ∀ r ∈ u.refs1, r ∈ v.refs := by
  intro r hr
  cases v with
  | agg l => exact List.mem_flatMap.2 ⟨u, h, hr⟩
  | _ => simp only [V.cells, List.mem_singleton] at h; subst h; exact hr
/-- what floats: nobody's blocks, each once -/
structure Floats (ρ : Ren) (w : World) (T : Nat → Prop) (g : List Nat) : Prop where
  free : ∀ b ∈ g, Free ρ b
  lt : ∀ b ∈ g, b < w.heap.size
  nod : g.Nodup
  t : ∀ b ∈ g, T b
theorem Floats.nil {T : Nat → Prop} : Floats ρ w T [] := ⟨fun _ h => (by cases h), fun _ h => (by cases h), List.nodup_nil, fun _ h => by cases h⟩
/-- a root's cells, and what they own, when it is given up -/
theorem RelS.release (h : RelS K P ρ H w) {r b s k z q : Nat} {o : AObj C} {c : List (V C)} {t : TypeId} (e : ρ.m r = .to b s k z q) (hg : H.get r = some o) (hf : o.flat K = some (c, t)) {W : Cells} {T : Nat → Prop} (hW : ∀ i, W r i) (hT : ∀ b, Touched ρ W b → T b) :
    ∃ cs, w.heap[b]? = some (.cells cs t (0, 0)) ∧ k = P.cellsOf t ∧ cs.size = z ∧ s + c.length ≤ z ∧ RelS K P (ρ.kill r) (H.upd r .dead) w ∧ Ext ρ (ρ.kill r) H.n W T w w ∧
      Free (ρ.kill r) b ∧ b < w.heap.size ∧ T b ∧ (∀ i, Floats (ρ.kill r) w T (ρ.f r i)) ∧ (∀ i j b', b' ∈ ρ.f r i → b' ∈ ρ.f r j → i = j) ∧ (∀ i, b ∉ ρ.f r i) ∧
      ∀ (i : Nat) (v : V C), c[i]? = some v → ∃ v', cs[s + i]? = some v' ∧ RelC K (ρ.kill r) w v v' (ρ.f r i) := by
  have hN := h.names
  obtain ⟨_, cs, L⟩ := (h.blk r b s k z q o e hg).lies hf
  obtain ⟨k1, k2, k3, k4⟩ := h.kill (T := T) (hN.root_lt e) (by rw [e]; intro h; cases h) hW
  refine ⟨cs, L.heap, L.k, L.size, L.fits, k1, k2, k3 _ _ _ _ _ e, hN.live e, hT b (.inl ⟨r, s, k, z, q, 0, e, hW 0⟩), fun i => ⟨k4 i, fun b' hb' => hN.lt b' (.cell r i) hb', hN.nod r i, fun b' hb' => hT b' (.inr ⟨r, i, hb', hW i⟩)⟩, fun i j b' h1 h2 => ?_, fun i hb => ?_, fun i v hv => ?_⟩
  · have := hN.uniq b' (.cell r i) (.cell r j) h1 h2
    cases this; rfl
  · have := hN.uniq b (.root r) (.cell r i) ⟨s, k, z, q, e⟩ hb
    cases this
  · obtain ⟨v', h1, h2⟩ := L.rel i v hv
    exact ⟨v', h1, h2.mono k2.le fun _ _ => rfl⟩
theorem window_get {cs : Array Value} {s n i : Nat} (hi : i < n) : ((cs.toList.drop s).take n)[i]? = cs[s + i]? := by rw [List.getElem?_take, if_pos hi, List.getElem?_drop, Array.getElem?_toList]
theorem window_length {cs : Array Value} {s n : Nat} (h : s + n ≤ cs.size) : ((cs.toList.drop s).take n).length = n := by
  rw [List.length_take, List.length_drop, Array.length_toList]; omega
/-- whatever a root was: it is given up -/
theorem RelS.kill' (h : RelS K P ρ H w) {r : Nat} {W : Cells} {T : Nat → Prop} (hW : ∀ i, W r i) : ∃ ρ1, RelS K P ρ1 (H.upd r .dead) w ∧ Ext ρ ρ1 H.n W T w w ∧ Less ρ ρ1 := by
  by_cases hn : ρ.m r = .no
  · refine ⟨ρ, ⟨h.names, fun r' b s k z q o e g => ?_, fun r' o e g => ?_, fun r' o e g => ?_, h.frz⟩, Ext.refl _ _ _ _ _, Less.refl ρ⟩
    · have er : r' ≠ r := by rintro rfl; rw [hn] at e; cases e
      rw [AStore.get_upd, if_neg er] at g
      exact h.blk r' b s k z q o e g
    · have er : r' ≠ r := by rintro rfl; rw [hn] at e; cases e
      rw [AStore.get_upd, if_neg er] at g
      exact h.emp r' o e g
    · have er : r' ≠ r := by rintro rfl; rw [hn] at e; cases e
      rw [AStore.get_upd, if_neg er] at g
      exact h.dead r' o e g
  · have hr : r < H.n := by
      rcases Nat.lt_or_ge r H.n with h1 | h1
      · exact h1
      · exact absurd (h.names.dom r h1).1 hn
    obtain ⟨k1, k2, _, _⟩ := h.kill (T := T) hr hn hW
    exact ⟨_, k1, k2, Less.kill ρ r⟩
theorem absorb1_ok (hK : CodecOk P K) (h : RelS K P ρ H w) {k : Option Bool} {v u : V C} {x : Value} (hv : RelV K ρ v x) {H1 : AStore C} (ha : absorb1 K H k v = some (u, H1)) {W : Cells} {T : Nat → Prop} (hW : ∀ r ∈ v.refs1, ∀ i, W r i) (hT : ∀ b, Touched ρ W b → T b) :
    ∃ ρ1 g, RelS K P ρ1 H1 w ∧ H1.n = H.n ∧ Ext ρ ρ1 H.n W T w w ∧ RelC K ρ1 w u x g ∧ Floats ρ1 w T g ∧ Less ρ ρ1 ∧ ∀ b ∈ g, ∃ y, Own ρ b y := by
  have same : ∀ {H1}, some (v, H) = some (u, H1) → ∃ ρ1 g, RelS K P ρ1 H1 w ∧ H1.n = H.n ∧ Ext ρ ρ1 H.n W T w w ∧ RelC K ρ1 w u x g ∧ Floats ρ1 w T g ∧ Less ρ ρ1 ∧ ∀ b ∈ g, ∃ y, Own ρ b y := by
    intro H1 e
    cases e
    exact ⟨ρ, [], h, rfl, Ext.refl _ _ _ _ _, .val hv, Floats.nil, Less.refl ρ, fun _ h => by cases h⟩
  have nilT : ∀ c, K.toFz c [] = [] := fun c => List.length_eq_zero_iff.1 (hK.fzl c [])
  unfold absorb1 at ha
  split at ha
  · exact same ha
  · -- a list of its own
    rename_i r
    have hWr : ∀ i, W r i := hW r (by simp [V.refs1])
    split at ha
    · rename_i c l hg
      cases ha
      cases hv with
      | rsw e p1 p2 =>
        rename_i b s k z q c'
        obtain ⟨hc, hf⟩ := rows_flat (h.blk _ _ _ _ _ _ _ e hg)
        have hq := ((h.blk _ _ _ _ _ _ _ e hg).lies hf).1 rfl
        obtain ⟨cs, r1, r2, r3, r4, r5, r6, r7, r8, r9, r10, r11, r12, r13⟩ := h.release e hg hf hWr hT
        have hk : k = K.k c := r2.trans (hK.size c hc).symm
        subst hk
        have hlen := flat_length hK hc l
        have hfit : s + l.length * K.k c ≤ cs.size := by rw [r3, ← hlen]; exact r4
        refine ⟨ρ.kill r, b :: ((List.range (K.flat c l).length).map (ρ.f r)).flatten, r5, rfl, r6, .own hc r1 p1 (by rw [r3]; exact p2) (relCs_of _ _ (ρ.f r) ?_ fun i u hu => ?_) rfl rfl hq rfl, ⟨fun b' hb' => ?_, fun b' hb' => ?_, ?_, fun b' hb' => ?_⟩, Less.kill ρ r, fun b' hb' => ?_⟩
        · rw [hlen, hq]; exact (window_length hfit).symm
        · have hi := (List.getElem?_eq_some_iff.1 hu).1
          obtain ⟨v', g1, g2⟩ := r13 i u hu
          exact ⟨v', by rw [hq]; show ((cs.toList.drop s).take (l.length * K.k c))[i]? = _; rw [window_get (by omega)]; exact g1, g2⟩
        · rcases List.mem_cons.1 hb' with rfl | hb'
          · exact r7
          · obtain ⟨i, _, h2⟩ := flatten_map_mem.1 hb'; exact (r10 i).free _ h2
        · rcases List.mem_cons.1 hb' with rfl | hb'
          · exact r8
          · obtain ⟨i, _, h2⟩ := flatten_map_mem.1 hb'; exact (r10 i).lt _ h2
        · rw [List.nodup_cons]
          refine ⟨fun hm => ?_, flatten_map_nodup (fun i => (r10 i).nod) (fun i j b' h1 h2 => r11 i j b' h1 h2) _⟩
          obtain ⟨i, _, h2⟩ := flatten_map_mem.1 hm
          exact r12 i h2
        · rcases List.mem_cons.1 hb' with rfl | hb'
          · exact r9
          · obtain ⟨i, _, h2⟩ := flatten_map_mem.1 hb'; exact (r10 i).t _ h2
        · rcases List.mem_cons.1 hb' with rfl | hb'
          · exact ⟨.root r, _, _, _, _, e⟩
          · obtain ⟨i, _, h2⟩ := flatten_map_mem.1 hb'; exact ⟨.cell r i, h2⟩
      | rswDead e => have := h.dead _ _ e hg; cases this
      | rswEmp e =>
        rename_i a
        obtain ⟨cid, hc, h1⟩ := h.emp _ _ e hg
        injection h1 with e1 e2
        subst e1
        cases e2
        have hr : r < H.n := by
          rcases Nat.lt_or_ge r H.n with h2 | h2
          · exact h2
          · rw [(h.names.dom r h2).1] at e; cases e
        obtain ⟨k1, k2, _, _⟩ := h.kill (T := T) hr (by rw [e]; intro h; cases h) hWr
        refine ⟨ρ.kill r, [], k1, rfl, k2, ?_, Floats.nil, Less.kill ρ r, fun _ h => by cases h⟩
        cases a with
        | none => exact .ownNil hc
        | some a => exact .ownEmp a hc
    · cases ha
  · exact same ha
  · -- a frozen list
    rename_i r
    have hWr : ∀ i, W r i := hW r (by simp [V.refs1])
    split at ha
    · rename_i c l hg
      cases ha
      cases hv with
      | rsw e p1 p2 =>
        rename_i b s k z q c'
        obtain ⟨hc, hf⟩ := rows_flat (h.blk _ _ _ _ _ _ _ e hg)
        have hq := ((h.blk _ _ _ _ _ _ _ e hg).lies hf).1 rfl
        have hq' : q = l.length := hq
        subst hq'
        obtain ⟨cs, r1, r2, r3, r4, r5, r6, r7, r8, r9, r10, r11, r12, r13⟩ := h.release e hg hf hWr hT
        have hk : k = K.k c := r2.trans (hK.size c hc).symm
        subst hk
        have hlen := flat_length hK hc l
        have hfit : s + l.length * K.k c ≤ cs.size := by rw [r3, ← hlen]; exact r4
        have hC : RelC K (ρ.kill r) w (.own c l) (.slice (some ⟨b, s, none⟩) l.length c') (b :: ((List.range (K.flat c l).length).map (ρ.f r)).flatten) := by
          refine .own hc r1 p1 (by rw [r3]; exact p2) (relCs_of _ _ (ρ.f r) ?_ fun i u hu => ?_) rfl rfl rfl rfl
          · rw [hlen]; exact (window_length hfit).symm
          · have hi := (List.getElem?_eq_some_iff.1 hu).1
            obtain ⟨v', g1, g2⟩ := r13 i u hu
            exact ⟨v', by rw [window_get (by omega)]; exact g1, g2⟩
        have hfree : ∀ b' ∈ b :: ((List.range (K.flat c l).length).map (ρ.f r)).flatten, Free (ρ.kill r) b' ∧ b' < w.heap.size ∧ T b' := by
          intro b' hb'
          rcases List.mem_cons.1 hb' with rfl | hb'
          · exact ⟨r7, r8, r9⟩
          · obtain ⟨i, _, h2⟩ := flatten_map_mem.1 hb'; exact ⟨(r10 i).free _ h2, (r10 i).lt _ h2, (r10 i).t _ h2⟩
        obtain ⟨i1, i2⟩ := r5.ice (W := W) (T := T) (fun b' hb' => ⟨(hfree b' hb').1, (hfree b' hb').2.1⟩) fun b' hb' => (hfree b' hb').2.2
        refine ⟨_, [], i1, rfl, r6.trans h.names (Nat.le_refl _) i2 (fun _ _ h => .inl h) (fun _ _ h => h), .val ?_, Floats.nil, fun b' x hx => ?_, fun _ h => by cases h⟩
        · refine hC.freeze hK i2.le fun b' hb' cs' t fr hh => ?_
          show (if b' ∈ _ then (match w.heap[b']? with | some (.cells cs t _) => some (cs, t) | _ => none) else _) = _
          rw [if_pos hb', hh]
        · rcases Ren.ice_own hx with h1 | ⟨rfl, h1⟩
          · exact ⟨x, (Own.of_kill h1).1⟩
          · rcases List.mem_cons.1 h1 with rfl | h1
            · exact ⟨.root r, _, _, _, _, e⟩
            · obtain ⟨i, _, h2⟩ := flatten_map_mem.1 h1; exact ⟨.cell r i, h2⟩
      | rswDead e => have := h.dead _ _ e hg; cases this
      | rswEmp e =>
        rename_i a
        obtain ⟨cid, hc, h1⟩ := h.emp _ _ e hg
        injection h1 with e1 e2
        subst e1
        cases e2
        have hr : r < H.n := by
          rcases Nat.lt_or_ge r H.n with h2 | h2
          · exact h2
          · rw [(h.names.dom r h2).1] at e; cases e
        obtain ⟨k1, k2, _, _⟩ := h.kill (T := T) hr (by rw [e]; intro h; cases h) hWr
        refine ⟨ρ.kill r, [], k1, rfl, k2, ?_, Floats.nil, Less.kill ρ r, fun _ h => by cases h⟩
        rw [nilT c]
        cases a with
        | none => exact .val (.fzNil _)
        | some a => exact .val (.fzEmp _ _ _ _)
    · cases ha
  · -- a part of a list, frozen
    rename_i r o n c0
    have hWr : ∀ i, W r i := hW r (by simp [V.refs1])
    split at ha
    · rename_i c l hg
      cases ha
      cases hv with
      | rsl e p1 p2 p3 p4 =>
        rename_i b s k z q c'
        obtain ⟨hc, hf⟩ := rows_flat (h.blk _ _ _ _ _ _ _ e hg)
        have hq := ((h.blk _ _ _ _ _ _ _ e hg).lies hf).1 rfl
        have hq' : q = l.length := hq
        subst hq'
        obtain ⟨cs, r1, r2, r3, r4, r5, r6, r7, r8, r9, r10, r11, r12, r13⟩ := h.release e hg hf hWr hT
        have hk : k = K.k c := r2.trans (hK.size c hc).symm
        subst hk
        have hon : o + n ≤ l.length := by omega
        have hcl : (cut l o n).length = n := by unfold cut; rw [List.length_take, List.length_drop]; omega
        have hlen := flat_length hK hc (cut l o n)
        rw [hcl] at hlen
        have hon' : o * K.k c + n * K.k c ≤ l.length * K.k c := by rw [← Nat.add_mul]; exact Nat.mul_le_mul_right _ hon
        have hll := flat_length hK hc l
        have hfit : s + o * K.k c + n * K.k c ≤ cs.size := by rw [r3]; omega
        have hcut : ∀ i, i < n * K.k c → (K.flat c (cut l o n))[i]? = (K.flat c l)[o * K.k c + i]? := by
          intro i hi
          unfold cut
          rw [← flat_take hK hc, ← flat_drop hK hc, List.getElem?_take, if_pos hi, List.getElem?_drop]
        have hC : RelC K (ρ.kill r) w (.own c (cut l o n)) (.slice (some ⟨b, s + o * K.k c, none⟩) n c') (b :: ((List.range (K.flat c (cut l o n)).length).map fun i => ρ.f r (o * K.k c + i)).flatten) := by
          refine .own hc r1 (Nat.le_trans p1 p2) (by rw [r3, Nat.add_assoc, ← Nat.add_mul]; exact p4) (relCs_of _ _ (fun i => ρ.f r (o * K.k c + i)) ?_ fun i u hu => ?_) rfl rfl hcl.symm rfl
          · rw [hlen]; exact (window_length hfit).symm
          · have hi := (List.getElem?_eq_some_iff.1 hu).1
            rw [hcut i (by omega)] at hu
            obtain ⟨v', g1, g2⟩ := r13 _ u hu
            exact ⟨v', by rw [window_get (by omega), Nat.add_assoc]; exact g1, g2⟩
        have hfree : ∀ b' ∈ b :: ((List.range (K.flat c (cut l o n)).length).map fun i => ρ.f r (o * K.k c + i)).flatten, (Free (ρ.kill r) b' ∧ b' < w.heap.size ∧ T b') ∧ ∃ y, Own ρ b' y := by
          intro b' hb'
          rcases List.mem_cons.1 hb' with rfl | hb'
          · exact ⟨⟨r7, r8, r9⟩, .root r, _, _, _, _, e⟩
          · obtain ⟨i, _, h2⟩ := flatten_map_mem.1 hb'; exact ⟨⟨(r10 _).free _ h2, (r10 _).lt _ h2, (r10 _).t _ h2⟩, .cell r _, h2⟩
        obtain ⟨i1, i2⟩ := r5.ice (W := W) (T := T) (fun b' hb' => ⟨(hfree b' hb').1.1, (hfree b' hb').1.2.1⟩) fun b' hb' => (hfree b' hb').1.2.2
        refine ⟨_, [], i1, rfl, r6.trans h.names (Nat.le_refl _) i2 (fun _ _ h => .inl h) (fun _ _ h => h), .val ?_, Floats.nil, fun b' x hx => ?_, fun _ h => by cases h⟩
        · refine hC.freeze hK i2.le fun b' hb' cs' t fr hh => ?_
          show (if b' ∈ _ then (match w.heap[b']? with | some (.cells cs t _) => some (cs, t) | _ => none) else _) = _
          rw [if_pos hb', hh]
        · rcases Ren.ice_own hx with h1 | ⟨rfl, h1⟩
          · exact ⟨x, (Own.of_kill h1).1⟩
          · exact (hfree b' h1).2
      | rslDead e => have := h.dead _ _ e hg; cases this
      | rslEmp =>
        obtain ⟨ρ1, k1, k2, k3⟩ := h.kill' (T := T) hWr
        refine ⟨ρ1, [], k1, rfl, k2, ?_, Floats.nil, k3, fun _ h => by cases h⟩
        have : cut l o 0 = [] := by simp [cut]
        rw [this, nilT c]
        exact .val (.fzEmp _ _ _ _)
      | rslNil =>
        obtain ⟨ρ1, k1, k2, k3⟩ := h.kill' (T := T) hWr
        refine ⟨ρ1, [], k1, rfl, k2, ?_, Floats.nil, k3, fun _ h => by cases h⟩
        have : cut l o 0 = [] := by simp [cut]
        rw [this, nilT c]
        exact .val (.fzNil _)
    · cases ha
  · exact same ha
theorem Floats.append {T : Nat → Prop} {g g' : List Nat} (h : Floats ρ w T g) (k : Floats ρ w T g') (hd : ∀ b, b ∈ g → b ∉ g') : Floats ρ w T (g ++ g') := by
  refine ⟨fun b hb => ?_, fun b hb => ?_, ?_, fun b hb => ?_⟩
  · rcases List.mem_append.1 hb with h1 | h1
    · exact h.free b h1
    · exact k.free b h1
  · rcases List.mem_append.1 hb with h1 | h1
    · exact h.lt b h1
    · exact k.lt b h1
  · rw [List.nodup_append]
    exact ⟨h.nod, k.nod, fun b hb c hc e => hd b hb (e ▸ hc)⟩
  · rcases List.mem_append.1 hb with h1 | h1
    · exact h.t b h1
    · exact k.t b h1
/-- what was floating floats on -/
def FreeL (ρ : Ren) (g : List Nat) : Prop := ∀ b ∈ g, Free ρ b
theorem absorb_ok (hK : CodecOk P K) : ∀ (ks : List (Option Bool)) (vs : List (V C)) (xs : List Value) (us : List (V C)) (ρ : Ren) (H H1 : AStore C) (g0 : List Nat), RelS K P ρ H w → RelL K ρ vs xs → absorb K ks vs H = some (us, H1) → FreeL ρ g0 →
    ∀ {W : Cells} {T : Nat → Prop}, (∀ v ∈ vs, ∀ r ∈ v.refs1, ∀ i, W r i) → (∀ b, Touched ρ W b → T b) →
    ∃ ρ1 gs, RelS K P ρ1 H1 w ∧ H1.n = H.n ∧ Ext ρ ρ1 H.n W T w w ∧ RelCs K ρ1 w us xs gs ∧ Floats ρ1 w T gs.flatten ∧ FreeL ρ1 g0 ∧ (∀ b ∈ g0, b ∉ gs.flatten) ∧ Less ρ ρ1
  | ks, [], xs, us, ρ, H, H1, g0, h, hv, ha, h0, W, T, hW, hT => by
    have : us = [] ∧ H1 = H := by
      cases ks <;> (simp only [absorb, Option.some.injEq, Prod.mk.injEq] at ha; exact ⟨ha.1.symm, ha.2.symm⟩)
    obtain ⟨rfl, rfl⟩ := this
    cases hv
    exact ⟨ρ, [], h, rfl, Ext.refl _ _ _ _ _, .nil, Floats.nil, h0, fun b _ h => (by cases h), Less.refl ρ⟩
  | [], v :: vs, xs, us, ρ, H, H1, g0, h, hv, ha, h0, W, T, hW, hT => by simp [absorb] at ha
  | k :: ks, v :: vs, xs, us, ρ, H, H1, g0, h, hv, ha, h0, W, T, hW, hT => by
    simp only [absorb] at ha
    split at ha
    · rename_i u H2 h1
      split at ha
      · rename_i us' H3 h2
        cases ha
        cases hv with
        | cons hv hvs =>
          rename_i x xs
          obtain ⟨ρ1, g, a1, a0, a2, a3, a4, a5, a6⟩ := absorb1_ok hK h hv h1 (hW v (by simp)) hT
          have hT1 : ∀ b, Touched ρ1 W b → b < w.heap.size → Touched ρ W b ∨ T b := by
            rintro b (⟨r, s, k, z, q, i, e1, e2⟩ | ⟨r, i, e1, e2⟩) hb
            · rcases a2.fresh r b s k z q e1 hb with e | e
              · exact .inl (.inl ⟨r, s, k, z, q, i, e, e2⟩)
              · exact .inr e
            · rcases a2.freshF r i b e1 hb with e | e
              · exact .inl (.inr ⟨r, i, e, e2⟩)
              · exact .inr e
          have hlt1 : ∀ b, Touched ρ1 W b → b < w.heap.size := by
            rintro b (⟨r, s, k, z, q, i, e1, e2⟩ | ⟨r, i, e1, e2⟩)
            · exact a1.names.lt b (.root r) ⟨s, k, z, q, e1⟩
            · exact a1.names.lt b (.cell r i) e1
          obtain ⟨ρ2, gs, b1, b0, b2, b3, b4, b5, b6, b7⟩ := absorb_ok hK ks vs xs us' ρ1 H2 H1 (g0 ++ g) a1 (hvs.mono a2.le) h2 (fun b hb => by
            rcases List.mem_append.1 hb with h3 | h3
            · exact a5.free (h0 b h3)
            · exact a4.free b h3) (W := W) (T := T) (fun v' hv' => hW v' (by simp [hv'])) fun b hb => (hT1 b hb (hlt1 b hb)).elim (hT b) id
          refine ⟨ρ2, g :: gs, b1, b0.trans a0, a2.trans h.names (by rw [a0]; exact Nat.le_refl _) b2 (fun _ _ h => .inl h) (fun _ _ h => h), .cons (a3.mono b2.le fun _ _ => rfl) b3, ?_, fun b hb => b5 b (by simp [hb]), fun b hb hm => ?_, a5.trans b7⟩
          · rw [List.flatten_cons]
            exact Floats.append ⟨fun b hb => b5 b (by simp [hb]), a4.lt, a4.nod, a4.t⟩ b4 fun b hb => b6 b (by simp [hb])
          · rw [List.flatten_cons, List.mem_append] at hm
            rcases hm with hm | hm
            · obtain ⟨y, hy⟩ := a6 b hm
              exact h0 b hb y hy
            · exact b6 b (by simp [hb]) hm
      · cases ha
    · cases ha
end
end Go.Vm
/- A generic text: operations, held against the model's (2): building, storing. No program. -/
set_option linter.unusedVariables false
set_option linter.unusedSimpArgs false
namespace Go.Vm
open Go
variable {C : Nat → Type}
section
variable {K : Codec C} {P : Program} {ρ ρ' : Ren} {H : AStore C} {w : World}
theorem touched_later {ρ ρ1 : Ren} {n : Nat} {W : Cells} {T : Nat → Prop} {w : World} (hN : Names ρ1 n w.heap.size) {m : Nat} (a2 : Ext ρ ρ1 m W T w w) (hT : ∀ b, Touched ρ W b → T b) : ∀ b, Touched ρ1 W b → T b := by
  rintro b (⟨r, s, k, z, q, i, e1, e2⟩ | ⟨r, i, e1, e2⟩)
  · rcases a2.fresh r b s k z q e1 (hN.lt b (.root r) ⟨s, k, z, q, e1⟩) with e | e
    · exact hT b (.inl ⟨r, s, k, z, q, i, e, e2⟩)
    · exact e
  · rcases a2.freshF r i b e1 (hN.lt b (.cell r i) e1) with e | e
    · exact hT b (.inr ⟨r, i, e, e2⟩)
    · exact e
theorem chunk_ok (hK : CodecOk P K) {cid : Nat} (hc : cid < K.n) : ∀ (n : Nat) (vs : List (V C)) (xs : List Value) (l : List (C cid)) (ρ : Ren) (H H1 : AStore C) (g0 : List Nat), RelS K P ρ H w → RelL K ρ vs xs → chunk K cid n vs H = some (l, H1) → FreeL ρ g0 →
    ∀ {W : Cells} {T : Nat → Prop}, (∀ v ∈ vs, ∀ r ∈ v.refs1, ∀ i, W r i) → (∀ b, Touched ρ W b → T b) →
    ∃ ρ1 gs, RelS K P ρ1 H1 w ∧ H1.n = H.n ∧ Ext ρ ρ1 H.n W T w w ∧ RelCs K ρ1 w (K.flat cid l) xs gs ∧ Floats ρ1 w T gs.flatten ∧ FreeL ρ1 g0 ∧ (∀ b ∈ g0, b ∉ gs.flatten) ∧ Less ρ ρ1 ∧ l.length = n
  | 0, vs, xs, l, ρ, H, H1, g0, h, hv, ha, h0, W, T, hW, hT => by
    cases vs with
    | cons v vs => simp [chunk] at ha
    | nil =>
      simp only [chunk, Option.some.injEq, Prod.mk.injEq] at ha
      obtain ⟨rfl, rfl⟩ := ha
      cases hv
      exact ⟨ρ, [], h, rfl, Ext.refl _ _ _ _ _, .nil, Floats.nil, h0, fun b _ h => (by cases h), Less.refl ρ, rfl⟩
  | n + 1, vs, xs, l, ρ, H, H1, g0, h, hv, ha, h0, W, T, hW, hT => by
    simp only [chunk] at ha
    split at ha
    · rename_i row H2 h1
      obtain ⟨hok, ha⟩ := cond_none ha
      split at ha
      · rename_i l' H3 h2
        cases ha
        obtain ⟨ρ1, gs, a1, a0, a2, a3, a4, a5, a6, a7⟩ := absorb_ok hK _ _ _ _ ρ H H2 g0 h (hv.take (K.k cid)) h1 h0 (W := W) (T := T) (fun v hm => hW v (List.mem_of_mem_take hm)) hT
        obtain ⟨ρ2, gs', b1, b0, b2, b3, b4, b5, b6, b7, b8⟩ := chunk_ok hK hc n _ _ l' ρ1 H2 H1 (g0 ++ gs.flatten) a1 ((hv.drop (K.k cid)).mono a2.le) h2 (fun b hb => by
          rcases List.mem_append.1 hb with h3 | h3
          · exact a5 b h3
          · exact a4.free b h3) (W := W) (T := T) (fun v hm => hW v (List.mem_of_mem_drop hm)) (touched_later a1.names a2 hT)
        refine ⟨ρ2, gs ++ gs', b1, b0.trans a0, a2.trans h.names (by rw [a0]; exact Nat.le_refl _) b2 (fun _ _ h => .inl h) (fun _ _ h => h), ?_, ?_, fun b hb => b5 b (by simp [hb]), fun b hb hm => ?_, a7.trans b7, by simp [b8]⟩
        · rw [flat_cons, ← List.take_append_drop (K.k cid) xs]
          exact ((a3.mono b2.le fun _ _ => rfl).coe (hK.okd cid hc row hok)).append b3
        · rw [List.flatten_append]
          exact Floats.append ⟨fun b hb => b5 b (by simp [hb]), a4.lt, a4.nod, a4.t⟩ b4 fun b hb => b6 b (by simp [hb])
        · rw [List.flatten_append, List.mem_append] at hm
          rcases hm with hm | hm
          · exact a6 b hb hm
          · exact b6 b (by simp [hb]) hm
      · cases ha
    · cases ha
/-- a new block: its cells own what floated -/
theorem RelS.pushOwn (h : RelS K P ρ H w) {o : AObj C} {c : List (V C)} {xs : List Value} {cs : Array Value} {t : TypeId} {q : Nat} {gs : List (List Nat)} {W : Cells} {T : Nat → Prop} (hf : o.flat K = some (c, t)) (hq : o.isRows = true → q = o.count)
    (hr : RelCs K ρ w c xs gs) (hxs : ∀ (i : Nat) (v : Value), xs[i]? = some v → cs[i]? = some v) (hF : Floats ρ w T gs.flatten) (w0 : World) (hw0 : w0.heap = w.heap) (hos : w0.os = w.os) (htape : w0.tape = w.tape) (hout : w0.output = w.output) :
    ∃ ρ', ρ'.m H.n = .to w.heap.size 0 (P.cellsOf t) cs.size q ∧ RelS K P ρ' (H.push o) (w0.alloc (.cells cs t)) ∧ Ext ρ ρ' H.n W T w (w0.alloc (.cells cs t)) := by
  obtain ⟨hl1, hl2⟩ := hr.length
  have hmem : ∀ i, ∀ b ∈ gs.getD i [], b ∈ gs.flatten := by
    intro i b hb
    simp only [List.getD_eq_getElem?_getD] at hb
    cases hg : gs[i]? with
    | none => rw [hg] at hb; cases hb
    | some g => rw [hg] at hb; exact List.mem_flatten.2 ⟨g, List.mem_of_getElem? hg, hb⟩
  have huniq : ∀ (l : List (List Nat)), l.flatten.Nodup → ∀ i i' b, b ∈ l.getD i [] → b ∈ l.getD i' [] → i = i' := by
    intro l
    induction l with
    | nil => intro _ i i' b hb; simp at hb
    | cons g l ih =>
      intro hn i i' b hb hb'
      rw [List.flatten_cons, List.nodup_append] at hn
      have mem : ∀ j, b ∈ l.getD j [] → b ∈ l.flatten := by
        intro j hj
        simp only [List.getD_eq_getElem?_getD] at hj
        cases hg : l[j]? with
        | none => rw [hg] at hj; cases hj
        | some g => rw [hg] at hj; exact List.mem_flatten.2 ⟨g, List.mem_of_getElem? hg, hj⟩
      cases i with
      | zero =>
        cases i' with
        | zero => rfl
        | succ i' => exact absurd rfl (hn.2.2 b (by simpa using hb) b (mem i' (by simpa using hb')))
      | succ i =>
        cases i' with
        | zero => exact absurd rfl (hn.2.2 b (by simpa using hb') b (mem i (by simpa using hb)))
        | succ i' => rw [ih hn.2.1 i i' b (by simpa using hb) (by simpa using hb')]
  have hnod : ∀ (l : List (List Nat)), l.flatten.Nodup → ∀ i, (l.getD i []).Nodup := by
    intro l
    induction l with
    | nil => intro _ i; simp
    | cons g l ih =>
      intro hn i
      rw [List.flatten_cons, List.nodup_append] at hn
      cases i with
      | zero => simpa using hn.1
      | succ i => simpa using ih hn.2.1 i
  have hszlt : w.heap.size < (w0.alloc (.cells cs t)).heap.size := by simp [hw0]
  have hfits : c.length ≤ cs.size := by
    rcases Nat.eq_zero_or_pos c.length with h0 | h0
    · omega
    · have h1 : c.length - 1 < xs.length := by omega
      have := hxs _ _ (List.getElem?_eq_getElem h1)
      have := (Array.getElem?_eq_some_iff.1 this).1
      omega
  have hfb : Free ρ w.heap.size := fun x hx => Nat.lt_irrefl _ (h.names.lt _ x hx)
  have key := h.place (w' := w0.alloc (.cells cs t)) (b := w.heap.size) (s := 0) (z := cs.size) (q := q) (g := fun i => gs.getD i []) hf hq hfb hszlt
    (fun i b hb => ⟨hF.free b (hmem i b hb), hF.lt b (hmem i b hb), by have := hF.lt b (hmem i b hb); omega⟩) (huniq gs hF.nod) (hnod gs hF.nod)
    (by have := heap_alloc_new w0 (.cells cs t); rw [hw0] at this; exact this) rfl (by omega) (Nat.le_of_lt hszlt)
    (fun b hb _ => by have := heap_alloc_old w0 (.cells cs t) b (by rw [hw0]; exact hb); rw [this, hw0]) hos htape hout (fun i v hv => ?_) W (fun hb => absurd hb (Nat.lt_irrefl _)) (fun i b hb => hF.t b (hmem i b hb))
  · exact ⟨ρ.place H.n (.to w.heap.size 0 (P.cellsOf t) cs.size q) (fun i => gs.getD i []), Ren.setM_same ρ H.n _, key.1, key.2⟩
  · obtain ⟨x, g, h1, h2, h3⟩ := hr.get i v hv
    refine ⟨x, by rw [Nat.zero_add]; exact hxs i x h1, ?_⟩
    have hg : gs.getD i [] = g := by simp [List.getD_eq_getElem?_getD, h2]
    rw [hg]
    have hno := (h.names.dom H.n (Nat.le_refl _)).1
    refine h3.mono (Ren.le_trans (Ren.le_setM _ hno) (Ren.le_setF _ _ _)) fun b hb => ?_
    have hb' := hF.lt b (hmem i b (by rw [hg]; exact hb))
    have := heap_alloc_old w0 (.cells cs t) b (by rw [hw0]; exact hb')
    rw [this, hw0]
end
section
variable {K : Codec C} {ρ : Ren}
theorem fold_get (off : Nat) : ∀ (vs : List Value) (k : Nat) (cs : Array Value), off + k + vs.length ≤ cs.size →
    ((vs.zipIdx k).foldl (fun cs (p : Value × Nat) => cs.setIfInBounds (off + p.2) p.1) cs).size = cs.size ∧
    ∀ i, ((vs.zipIdx k).foldl (fun cs (p : Value × Nat) => cs.setIfInBounds (off + p.2) p.1) cs)[i]? = if off + k ≤ i ∧ i < off + k + vs.length then vs[i - (off + k)]? else cs[i]?
  | [], k, cs, h => by
    refine ⟨rfl, fun i => ?_⟩
    simp only [List.zipIdx_nil, List.foldl_nil, List.length_nil]
    rw [if_neg (by omega)]
  | v :: vs, k, cs, h => by
    simp only [List.length_cons] at h
    obtain ⟨h1, h2⟩ := fold_get off vs (k + 1) (cs.setIfInBounds (off + k) v) (by simp only [Array.size_setIfInBounds]; omega)
    simp only [List.zipIdx_cons, List.foldl_cons, List.length_cons]
    refine ⟨by rw [h1, Array.size_setIfInBounds], fun i => ?_⟩
    rw [h2 i]
    by_cases a : off + (k + 1) ≤ i ∧ i < off + (k + 1) + vs.length
    · rw [if_pos a, if_pos (by omega), show i - (off + k) = (i - (off + (k + 1))) + 1 by omega, List.getElem?_cons_succ]
    · rw [if_neg a]
      by_cases b : i = off + k
      · subst b
        rw [if_pos (by omega), Nat.sub_self, List.getElem?_cons_zero, Array.getElem?_setIfInBounds_self_of_lt (by omega)]
      · rw [if_neg (by omega), Array.getElem?_setIfInBounds_ne (by omega)]
theorem fold_rel {c us : List (V C)} {vs : List Value} {cs : Array Value} {o : Nat} (hc : RelL K ρ c cs.toList) (hu : RelL K ρ us vs) (ho : o + us.length ≤ c.length) :
    RelL K ρ (putAt c o us) ((vs.toArray.zipIdx.foldl (fun cs (p : Value × Nat) => cs.setIfInBounds (o + p.2) p.1) cs)).toList := by
  have hl := hu.length
  have hcl : c.length = cs.size := hc.length
  have e : vs.toArray.zipIdx.foldl (fun cs (p : Value × Nat) => cs.setIfInBounds (o + p.2) p.1) cs = (vs.zipIdx 0).foldl (fun cs (p : Value × Nat) => cs.setIfInBounds (o + p.2) p.1) cs := by
    rw [← Array.foldl_toList]
    simp
  rw [e]
  obtain ⟨h1, h2⟩ := fold_get o vs 0 cs (by omega)
  refine RelL.of ?_ fun i v hv => ?_
  · rw [putAt_length ho, hcl]; exact h1.symm
  · rw [getElem?_putAt ho] at hv
    rw [Array.getElem?_toList, h2]
    simp only [Nat.add_zero]
    by_cases a : i < o
    · rw [if_pos a] at hv
      rw [if_neg (by omega), ← Array.getElem?_toList]
      exact hc.get _ _ hv
    · rw [if_neg a] at hv
      by_cases b : i < o + us.length
      · rw [if_pos b] at hv
        rw [if_pos (by omega)]
        exact hu.get _ _ hv
      · rw [if_neg b] at hv
        rw [if_neg (by omega), ← Array.getElem?_toList]
        exact hc.get _ _ hv
inductive RelP (K : Codec C) (ρ : Ren) : List (Nat × V C) → List (Nat × Value) → Prop
  | nil : RelP K ρ [] []
  | cons {i v v' l l'} : RelV K ρ v v' → RelP K ρ l l' → RelP K ρ ((i, v) :: l) ((i, v') :: l')
theorem afill_rel {place place' : Nat → Option (Nat × Nat)} (hp : ∀ i p, place i = some p → place' i = some p) : ∀ {ps : List (Nat × V C)} {ps' : List (Nat × Value)} {c r : List (V C)} {cs : Array Value}, RelP K ρ ps ps' → RelL K ρ c cs.toList →
    afill place c ps = some r → r.length = c.length ∧ ∃ cs', Instr.fill place' cs ps' = some cs' ∧ RelL K ρ r cs'.toList
  | _, _, c, r, cs, .nil, hc, h => by
    simp only [afill, Option.some.injEq] at h
    subst h
    exact ⟨rfl, cs, rfl, hc⟩
  | _, _, c, r, cs, .cons (i := i) (v := v) (v' := v') (l := l) (l' := l') hv hl, hc, h => by
    have hraw : ∀ x, v ≠ .raw x := by rintro x rfl; simp [afill] at h
    have h' : (match place i with
      | none => none
      | some (off, size) => if v.cells.length = size ∧ off + v.cells.length ≤ c.length then afill place (putAt c off v.cells) l else none) = some r := by
      cases v <;> first | exact h | exact absurd rfl (hraw _)
    split at h'
    · cases h'
    · rename_i off size hpi
      split at h'
      · rename_i hcond
        have hR := hv.cells hraw
        have hlen : v.cells.length = v'.cells.size := hR.length
        have hcl : c.length = cs.size := hc.length
        have hf := fold_rel hc hR hcond.2
        obtain ⟨h0, cs', h1, h2⟩ := afill_rel hp hl hf h'
        refine ⟨h0.trans (putAt_length hcond.2), cs', ?_, h2⟩
        unfold Instr.fill
        rw [hp _ _ hpi]
        have hn : (decide (v'.cells.size ≠ size) || decide (off + v'.cells.size > cs.size)) = false := by
          simp only [Bool.or_eq_false_iff, decide_eq_false_iff_not]
          omega
        simp only []
        rw [if_neg (by rw [hn]; decide)]
        exact h1
      · cases h'
theorem mem_putAt {c us : List (V C)} {o : Nat} {x : V C} (h : x ∈ putAt c o us) : x ∈ c ∨ x ∈ us := by
  unfold putAt at h
  simp only [List.mem_append] at h
  rcases h with (h | h) | h
  · exact .inl (List.mem_of_mem_take h)
  · exact .inr h
  · exact .inl (List.mem_of_mem_drop h)
theorem afill_mem {place : Nat → Option (Nat × Nat)} : ∀ {ps : List (Nat × V C)} {c r : List (V C)}, afill place c ps = some r → ∀ x ∈ r, x ∈ c ∨ ∃ p ∈ ps, x ∈ p.2.cells
  | [], c, r, h, x, hx => by simp only [afill, Option.some.injEq] at h; subst h; exact .inl hx
  | (i, v) :: ps, c, r, h, x, hx => by
    have hraw : ∀ y, v ≠ .raw y := by rintro y rfl; simp [afill] at h
    have h' : (match place i with
      | none => none
      | some (off, size) => if v.cells.length = size ∧ off + v.cells.length ≤ c.length then afill place (putAt c off v.cells) ps else none) = some r := by
      cases v <;> first | exact h | exact absurd rfl (hraw _)
    split at h'
    · cases h'
    · split at h'
      · rcases afill_mem h' x hx with h1 | ⟨p, h1, h2⟩
        · rcases mem_putAt h1 with h2 | h2
          · exact .inl h2
          · exact .inr ⟨(i, v), by simp, h2⟩
        · exact .inr ⟨p, by simp [h1], h2⟩
      · cases h'
theorem toVals_refs : ∀ (n : Nat) (l : List (V C)) (xs : List Value), toVals n l = some xs → ∀ v ∈ l, v.refs1 = []
  | _, [], xs, h, v, hv => by cases hv
  | 0, v :: l, xs, h, _, _ => by simp [toVals] at h
  | n + 1, v :: l, xs, h, x, hx => by
    simp only [toVals] at h
    split at h
    · rename_i hv hl
      rcases List.mem_cons.1 hx with rfl | hx
      · cases x <;> first | rfl | (cases n <;> simp [toVal] at hv)
      · exact toVals_refs n l _ hl x hx
    · cases h
theorem vals_parts {s : AS C} {a : Act} (hF : RelF K ρ s a) : ∀ (l : List (Nat × Operand)) (us : List (Nat × V C)), Vals.parts s.val l = some us → RelP K ρ us (l.map fun p => (p.1, a.eval p.2))
  | [], us, h => by simp only [Vals.parts, Option.some.injEq] at h; subst h; exact .nil
  | (i, x) :: l, us, h => by
    unfold Vals.parts at h
    split at h
    · rename_i u' us' h1 h2
      simp only [Option.some.injEq] at h
      subst h
      exact .cons (val_rel hF h1) (vals_parts hF l _ h2)
    · cases h
theorem replicate_get {α : Type} (l : List α) : ∀ (n i : Nat), i < n * l.length → (List.replicate n l).flatten[i]? = l[i % l.length]?
  | 0, i, h => by omega
  | n + 1, i, h => by
    rw [List.replicate_succ, List.flatten_cons, List.getElem?_append]
    by_cases a : i < l.length
    · rw [if_pos a, Nat.mod_eq_of_lt a]
    · rw [if_neg a, replicate_get l n (i - l.length) (by rw [Nat.add_mul, Nat.one_mul] at h; omega), ← Nat.mod_eq_sub_mod (by omega)]
theorem made_rel {l : List (V C)} {z : Array Value} (hz : RelL K ρ l z.toList) (n : Nat) : RelL K ρ (List.replicate n l).flatten (madeCells z (n * l.length)).toList := by
  have hzs : z.size = l.length := by rw [hz.length, Array.length_toList]
  refine RelL.of ?_ fun i v hv => ?_
  · rw [show (List.replicate n l).flatten.length = n * l.length by simp]; exact (size_madeCells _ _).symm
  · have hi : i < n * l.length := by
      have := (List.getElem?_eq_some_iff.1 hv).1
      simpa using this
    rw [replicate_get l n i hi] at hv
    obtain ⟨v', h1, h2⟩ := hz.get _ _ hv
    refine ⟨v', ?_, h2⟩
    rw [Array.getElem?_toList, Array.getElem?_eq_getElem (by rw [size_madeCells]; exact hi)]
    simp only [madeCells, Array.getElem_map, Array.getElem_range, hzs, Option.some.injEq]
    rw [Array.getElem?_toList] at h1
    rw [getElem!_def, h1]
end
theorem run_places {P : Program} {w : World} : ∀ (fs : List Field), (∀ f ∈ fs, (P.info? f.type).isSome = true) → (fs.mapM fun (f : Field) => (do pure (f.offset, ← sizeOf f.type) : Sem (Nat × Nat))).run P w = .ok (fs.map fun f => (f.offset, P.cellsOf f.type)) w
  | [], _ => by simp
  | f :: fs, h => by
    have h1 := h f (by simp)
    obtain ⟨i, hi⟩ := Option.isSome_iff_exists.1 h1
    have ih := run_places (P := P) (w := w) fs fun g hg => h g (by simp [hg])
    have e : P.cellsOf f.type = i.size := by simp [Program.cellsOf, hi]
    have hs : (sizeOf f.type).run P w = .ok i.size w := by simp [sizeOf, typeInfo, hi]
    simp only [List.mapM_cons, Sem.run_bind, hs, Result.andThen_ok, Sem.run_pure, ih, List.map_cons, e]
section
variable {E : Env C} {ρ : Ren} {s : AS C} {a : Act} {w : World} {o : Oper} {u : V C} {H' : AStore C} {cs : List Bool}
theorem build_sound (hE : EnvOk E) (hF : RelF E.K ρ s a) {t : TypeId} {parts : Array (Nat × Operand)} (ho : o.op = .build t parts) (h : aop_build E s.val t parts s.H = some (u, H', cs)) :
    OpPure E.K E.P ρ s.H w (execOp a.eval o) u H' := by
  unfold aop_build at h
  split at h
  · rename_i ps i hps hi
    have hi' := hE.ti _ _ hi
    obtain ⟨z, hz, hzr, _, _⟩ := run_zero (K := E.K) (ρ := ρ) (w := w) hi'
    have hP := vals_parts hF _ _ hps
    have e1 : (Go.underlying t).run E.P w = .ok i.desc w := run_underlying hi'.under w
    have hpm : (parts.map fun (x : Nat × Operand) => (x.1, a.eval x.2)).toList = parts.toList.map fun p => (p.1, a.eval p.2) := by simp
    split at h
    · rename_i fs hd
      have hpl : (fs.mapM fun (f : Field) => (do pure (f.offset, ← sizeOf f.type) : Sem (Nat × Nat))).run E.P w = .ok (fs.map fun f => (f.offset, E.P.cellsOf f.type)) w := by
        rw [Array.mapM_eq_mapM_toList]
        simp only [Sem.run_map, run_places fs.toList (hi'.fields fs hd), Result.andThen_ok]
        congr 1
        apply Array.ext'
        simp
      obtain ⟨c, hf, h⟩ := Option.bind_eq_some_iff.1 h
      · obtain ⟨rfl, rfl⟩ := some__inj h
        obtain ⟨_, cs', h1, h2⟩ := afill_rel (place' := ((fs.map fun f => (f.offset, E.P.cellsOf f.type))[·]?)) (fun j p hj => by
          split at hj
          · rename_i f hfj
            simp only [Option.map_eq_some_iff] at hj
            obtain ⟨fi, hfi, rfl⟩ := hj
            simp only [Array.getElem?_map, hfj, Option.map_some, hE.size hfi]
          · cases hj) hP hzr hf
        refine OpPure.mk_ (v := .agg cs') ?_ (.agg (a' := cs'.toList) h2)
        rw [hd] at e1
        simp only [execOp, ho, Instr.build, Sem.run_bind, hz, e1, Result.andThen_ok, hpl, hpm, h1, Sem.run_pure]
    · rename_i n e hd
      split at h
      · rename_i ei hei
        obtain ⟨c, hf, h⟩ := Option.bind_eq_some_iff.1 h
        · obtain ⟨rfl, rfl⟩ := some__inj h
          obtain ⟨_, cs', h1, h2⟩ := afill_rel (place' := fun j => some (j * ei.size, ei.size)) (fun j p hj => hj) hP hzr hf
          refine OpPure.mk_ (v := .agg cs') ?_ (.agg (a' := cs'.toList) h2)
          rw [hd] at e1
          simp only [execOp, ho, Instr.build, Sem.run_bind, hz, e1, Result.andThen_ok, run_sizeOf (hE.ti _ _ hei), hpm, h1, Sem.run_pure]
      · cases h
    · cases h
  · cases h
theorem slice_new (hE : EnvOk E) {e : TypeId} {ei : TI C} (he : E.ti e = some ei) {m b n c z q : Nat} (hm : ρ.m m = .to b 0 (E.P.cellsOf e) z q) (hn : n ≤ c) (hc : z = c * ei.size) : RelV E.K ρ (.sl m 0 n c) (.slice (some ⟨b, 0, none⟩) n c) := by
  have := RelV.sl (K := E.K) (o := 0) (n := n) (c := c) (c' := c) hm hn (Nat.le_refl _) (by rw [hE.size he, hc]; omega)
  simpa using this
theorem rsw_new (hE : EnvOk E) {e : TypeId} {ei : TI C} (he : E.ti e = some ei) {m b n c z : Nat} (hm : ρ.m m = .to b 0 (E.P.cellsOf e) z n) (hn : n ≤ c) (hc : c * ei.size ≤ z) : RelV E.K ρ (.rsw m) (.slice (some ⟨b, 0, none⟩) n c) := .rsw hm hn (by rw [hE.size he]; omega)
theorem rows_flat' {K : Codec C} {cid : Nat} (hc : cid < K.n) (l : List (C cid)) : (AObj.rows cid l : AObj C).flat K = some (K.flat cid l, K.ty cid) := if_pos hc
theorem buildSlice_sound (hE : EnvOk E) (hF : RelF E.K ρ s a) (hS : RelS E.K E.P ρ s.H w) {t : TypeId} {len : Nat} {parts : Array (Nat × Operand)} (ho : o.op = .buildSlice t len parts) (h : aop_buildSlice E s.val t len parts s.H = some (u, H', cs))
    {W : Cells} (hW : ∀ ps, Vals.parts s.val parts.toList = some ps → ∀ p ∈ ps, ∀ r ∈ p.2.refs, ∀ i, W r i) :
    OpRes E.K E.P ρ s.H w (execOp a.eval o) u H' W := by
  unfold aop_buildSlice at h
  split at h
  · rename_i ps e _ _ _ _ hps hi
    split at h
    · rename_i ei hei
      split at h
      · rename_i hc
        have hei' := hE.ti _ _ hei
        obtain ⟨z, hz, hzr, hzs, _⟩ := run_zero (K := E.K) (ρ := ρ) (w := w) hei'
        have hP := vals_parts hF _ _ hps
        have e1 : (Go.underlying t).run E.P w = .ok (.slice e) w := run_underlying (hE.ti _ _ hi).under w
        have hpm : (parts.map fun (x : Nat × Operand) => (x.1, a.eval x.2)).toList = parts.toList.map fun p => (p.1, a.eval p.2) := by simp
        have hm : RelL E.K ρ (List.replicate len ei.zero).flatten (madeCells z.cells (len * ei.size)).toList := by
          have := made_rel (K := E.K) (ρ := ρ) hzr len
          rwa [hc.2] at this
        split at h
        · rename_i c hf
          obtain ⟨h0, cs', h1, h2⟩ := afill_rel (place' := fun j => some (j * ei.size, ei.size)) (fun j p hj => hj) hP hm hf
          have hsz : cs'.size = len * ei.size := by
            have h3 := h2.length
            rw [h0] at h3
            have h4 : (List.replicate len ei.zero).flatten.length = len * ei.size := by simp [hc.2]
            rw [h4] at h3
            rw [h3]; exact Array.length_toList.symm
          have hgt : ¬ (len * ei.size > 2 ^ 24) := by have := hc.1; omega
          have hrun : (execOp a.eval o).run E.P w = .ok (.value (.slice (some ⟨w.heap.size, 0, none⟩) len len)) (w.alloc (.cells cs' e)) := by
            by_cases h0 : len * ei.size = 0
            · have hmc : (Array.range (len * ei.size)).map (fun x => (#[] : Array Value)[x % (#[] : Array Value).size]!) = madeCells z.cells (len * ei.size) := by
                rw [h0]; apply Array.ext' ; simp [madeCells]
              simp only [execOp, ho, Instr.buildSlice, Sem.run_bind, e1, Result.andThen_ok, run_sizeOf hei', if_neg hgt, if_pos h0, Sem.run_pure, hmc, hpm, h1, newRow, run_newObj]
              rfl
            · have hmc : (Array.range (len * ei.size)).map (fun x => z.cells[x % z.cells.size]!) = madeCells z.cells (len * ei.size) := rfl
              simp only [execOp, ho, Instr.buildSlice, Sem.run_bind, e1, Result.andThen_ok, run_sizeOf hei', if_neg hgt, if_neg h0, Sem.run_pure, hz, hmc, hpm, h1, newRow, run_newObj]
              rfl
          split at h
          · simp only [Option.some.injEq, Prod.mk.injEq] at h
            obtain ⟨rfl, rfl, _⟩ := h
            exact newRow_res hS (ob := .cells c e) (q := 0) rfl (fun h => (by cases h)) h2 hrun (slice_new hE hei (Ren.setM_same ρ s.H.n _) (Nat.le_refl _) hsz) W
          · rename_i cid hcid
            obtain ⟨hty, h⟩ := cond_none h
            have hty' := Nat.eq_of_beq_eq_true hty
            split at h
            · rename_i l H1 hch
              simp only [Option.some.injEq, Prod.mk.injEq] at h
              obtain ⟨rfl, rfl, _⟩ := h
              have hcn := hE.cid _ _ hcid
              have hzref : ∀ v ∈ ei.zero, v.refs1 = [] := by
                obtain ⟨f, z', _, _, _, _, h5⟩ := hei'.info
                exact toVals_refs 99 _ _ h5
              obtain ⟨ρ1, gs, b1, b0, b2, b3, b4, _, _, _, b8⟩ := chunk_ok (w := w) hE.codec hcn len c cs'.toList l ρ s.H H1 [] hS h2 hch (fun b h => (by cases h)) (W := W) (T := Touched ρ W) (fun v hv r hr i => by
                rcases afill_mem hf v hv with h3 | ⟨p, h3, h4⟩
                · have : v ∈ ei.zero := by
                    obtain ⟨l', h5, h6⟩ := List.mem_flatten.1 h3
                    rw [(List.mem_replicate.1 h5).2] at h6; exact h6
                  rw [hzref v this] at hr; cases hr
                · exact hW ps hps p h3 r (V.refs_cells h4 r hr) i) (fun _ h => h)
              obtain ⟨ρ2, c1, c2, c3⟩ := b1.pushOwn (W := W) (T := Touched ρ W) (q := l.length) (cs := cs') (rows_flat' hcn l) (fun _ => rfl) b3 (fun i v hv => by rwa [Array.getElem?_toList] at hv) b4 w rfl rfl rfl rfl
              rw [hty'] at c1 c2 c3
              refine ⟨ρ2, _, _, _, hrun, .inl rfl, ?_, c2, b2.trans hS.names (by rw [b0]; exact Nat.le_refl _) c3 (fun _ _ h => .inl h) (fun _ _ h => h)⟩
              rw [b8] at c1
              exact rsw_new hE hei c1 (Nat.le_refl _) (by rw [hsz]; exact Nat.le_refl _)
            · cases h
        · cases h
      · cases h
    · cases h
  · cases h
end
end Go.Vm
