/- Functions of the seat and plain laws about them: PMenger, PCut, PCutB. -/
import Derived.Test.YtbbjonbnmoomlaaDoorGBase
import Derived.Test.YtbbjonbnmoomlaaDoorZI18
import Derived.Test.YtbbjonbnmoomlaaDoorZI5
import Derived.Test.YtbbjonbnmoomlaaDoorZI9
import Derived.Test.YtbbjonbnmoomlaaDoorZI11
import Derived.Test.YtbbjonbnmoomlaaDoorZI14
section
namespace Go.Proofs.YtbbjonbnmoomlaaDoor.G
set_option linter.unusedVariables false
def sm (f : Nat → Int) : Nat → Int
  | 0 => 0
  | n + 1 => sm f n + f n
theorem sm_congr {f g : Nat → Int} : ∀ {n : Nat}, (∀ i, i < n → f i = g i) → sm f n = sm g n
  | 0, _ => rfl
  | n + 1, h => by rw [sm, sm, sm_congr (fun i hi => h i (by omega)), h n (by omega)]
theorem sm_add (f g : Nat → Int) : ∀ n, sm (fun i => f i + g i) n = sm f n + sm g n
  | 0 => rfl
  | n + 1 => by rw [sm, sm, sm, sm_add f g n]; omega
theorem sm_zero : ∀ n, sm (fun _ => 0) n = 0
  | 0 => rfl
  | n + 1 => by rw [sm, sm_zero n]; rfl
theorem sm_le {f g : Nat → Int} : ∀ {n : Nat}, (∀ i, i < n → f i ≤ g i) → sm f n ≤ sm g n
  | 0, _ => Int.le_refl _
  | n + 1, h => by
    have h1 := sm_le (n := n) (fun i hi => h i (by omega))
    have h2 := h n (by omega)
    rw [sm, sm]; omega
theorem sm_swap (f : Nat → Nat → Int) : ∀ n m, sm (fun i => sm (fun j => f i j) m) n = sm (fun j => sm (fun i => f i j) n) m
  | 0, m => by
    show 0 = sm (fun j => 0) m
    rw [sm_zero]
  | n + 1, m => by
    show sm (fun i => sm (fun j => f i j) m) n + sm (fun j => f n j) m = sm (fun j => sm (fun i => f i j) n + f n j) m
    rw [sm_add, sm_swap f n m]
theorem sm_one {c : Int} {p : Nat} : ∀ {n : Nat}, sm (fun i => if i = p then c else 0) n = if p < n then c else 0
  | 0 => by simp [sm]
  | n + 1 => by
    rw [sm, sm_one (n := n)]
    by_cases h : n = p
    · subst h
      rw [if_neg (by omega), if_pos rfl, if_pos (by omega)]; omega
    · rw [if_neg h]
      by_cases h2 : p < n
      · rw [if_pos h2, if_pos (by omega)]; omega
      · rw [if_neg h2, if_neg (by omega)]; omega
structure Net where
  m : Nat
  n : Nat
  A : Nat → Nat
  B : Nat → Nat
  lt : ∀ i, i < m → A i < n ∧ B i < n ∧ A i ≠ B i
  home : Nat → Prop
  t : Nat
  tn : t < n
  th : ¬ home t
  cl : Nat → Prop
open Classical in
noncomputable def ind (p : Prop) : Int := if p then 1 else 0
variable (G : Net)
noncomputable def net (f : Nat → Int) (v : Nat) : Int := sm (fun i => f i * (ind (G.B i = v) - ind (G.A i = v))) G.m
open Classical in
/-- The sum over a set of sections: what comes in over its border. -/
theorem net_set (f : Nat → Int) (X : Nat → Prop) : sm (fun v => if X v then net G f v else 0) G.n = sm (fun i => f i * (ind (X (G.B i)) - ind (X (G.A i)))) G.m := by
  have e1 : ∀ v, (if X v then net G f v else 0) = sm (fun i => if X v then f i * (ind (G.B i = v) - ind (G.A i = v)) else 0) G.m := fun v => by
    by_cases h : X v
    · simp only [if_pos h]; rfl
    · simp only [if_neg h]; rw [sm_zero]
  rw [sm_congr (fun v _ => e1 v), sm_swap]
  refine sm_congr fun i hi => ?_
  obtain ⟨a, b, _⟩ := G.lt i hi
  have e2 : ∀ v, (if X v then f i * (ind (G.B i = v) - ind (G.A i = v)) else 0) = (if v = G.B i then f i * ind (X (G.B i)) else 0) + (if v = G.A i then - (f i * ind (X (G.A i))) else 0) := fun v => by
    unfold ind
    by_cases h1 : v = G.B i <;> by_cases h2 : v = G.A i
    · subst h1; rw [← h2]; simp; omega
    · subst h1
      have : ¬ G.A i = G.B i := fun z => h2 z.symm
      by_cases h : X (G.B i) <;> simp [h, this, h2]
    · subst h2
      have : ¬ G.B i = G.A i := fun z => h1 z.symm
      by_cases h : X (G.A i) <;> simp [h, this, h1]
    · have g1 : ¬ G.B i = v := fun z => h1 z.symm
      have g2 : ¬ G.A i = v := fun z => h2 z.symm
      simp [h1, h2, g1, g2]
  rw [sm_congr (fun v _ => e2 v), sm_add, sm_one, sm_one, if_pos b, if_pos a, Int.mul_sub]
  omega
/-- A flow. -/
structure Flow (f : Nat → Int) : Prop where
  bd : ∀ i, i < G.m → -1 ≤ f i ∧ f i ≤ 1
  op : ∀ i, i < G.m → f i ≠ 0 → G.cl i
  kp : ∀ v, v < G.n → v ≠ G.t → ¬ G.home v → net G f v = 0
/-- What a switch adds if it leads from y to x. -/
def sg (i y : Nat) : Int := if G.A i = y then 1 else -1
def joins (i x y : Nat) : Prop := i < G.m ∧ ((G.A i = x ∧ G.B i = y) ∨ (G.A i = y ∧ G.B i = x))
theorem sg_net {i x y : Nat} (h : joins G i x y) (v : Nat) : sg G i y * (ind (G.B i = v) - ind (G.A i = v)) = ind (x = v) - ind (y = v) := by
  obtain ⟨hi, h⟩ := h
  have := (G.lt i hi).2.2
  unfold sg
  rcases h with ⟨h1, h2⟩ | ⟨h1, h2⟩
  · rw [if_neg (by omega), h1, h2]; omega
  · rw [if_pos h1, h1, h2]; omega
def upd (f : Nat → Int) (i : Nat) (x : Int) (j : Nat) : Int := if j = i then x else f j
theorem net_upd (f : Nat → Int) {i : Nat} (hi : i < G.m) (s : Int) (v : Nat) : net G (upd f i (f i + s)) v = net G f v + s * (ind (G.B i = v) - ind (G.A i = v)) := by
  unfold net
  have e : ∀ j, upd f i (f i + s) j * (ind (G.B j = v) - ind (G.A j = v)) = f j * (ind (G.B j = v) - ind (G.A j = v)) + (if j = i then s * (ind (G.B i = v) - ind (G.A i = v)) else 0) := fun j => by
    unfold upd
    by_cases h : j = i
    · subst h; rw [if_pos rfl, if_pos rfl, Int.add_mul]
    · rw [if_neg h, if_neg h]; omega
  rw [sm_congr (fun j _ => e j), sm_add, sm_one, if_pos hi]
def lk (T : Nat → Nat → Nat → Prop) : List Nat → List Nat → Prop
  | [_], [] => True
  | x :: y :: vs, i :: l => T i x y ∧ lk T (y :: vs) l
  | _, _ => False
theorem lk_mono {T T' : Nat → Nat → Nat → Prop} (h : ∀ i x y, T i x y → T' i x y) : ∀ {vs l : List Nat}, lk T vs l → lk T' vs l
  | [_], [], _ => trivial
  | x :: y :: vs, i :: l, ⟨h1, h2⟩ => ⟨h _ _ _ h1, lk_mono h h2⟩
  | [], _, h => h.elim
  | [_], _ :: _, h => h.elim
  | _ :: _ :: _, [], h => h.elim
/-- A way from a section of S to x. -/
def way (T : Nat → Nat → Nat → Prop) (S : Nat → Prop) (x : Nat) : Prop := ∃ vs l, lk T (x :: vs) l ∧ (x :: vs).Nodup ∧ ∃ s, (x :: vs).getLast? = some s ∧ S s
theorem way_at {T : Nat → Nat → Nat → Prop} {S : Nat → Prop} {x : Nat} : ∀ {vs l : List Nat}, lk T vs l → vs.Nodup → (∃ s, vs.getLast? = some s ∧ S s) → x ∈ vs → way T S x
  | [], _, h, _, _, _ => h.elim
  | [y], l, h, hn, hs, hx => by
    obtain rfl : x = y := by simpa using hx
    exact ⟨[], l, h, hn, hs⟩
  | y :: z :: vs, [], h, _, _, _ => h.elim
  | y :: z :: vs, i :: l, h, hn, hs, hx => by
    by_cases c : x = y
    · subst c; exact ⟨z :: vs, i :: l, h, hn, hs⟩
    · exact way_at h.2 (List.nodup_cons.1 hn).2 (by rw [List.getLast?_cons_cons] at hs; exact hs) (by
        rcases List.mem_cons.1 hx with h | h
        · exact absurd h c
        · exact h)
theorem way_self {T : Nat → Nat → Nat → Prop} {S : Nat → Prop} {x : Nat} (h : S x) : way T S x := ⟨[], [], trivial, by simp, x, rfl, h⟩
theorem way_step {T : Nat → Nat → Nat → Prop} {S : Nat → Prop} {x y i : Nat} (h : way T S y) (e : T i x y) : way T S x := by
  obtain ⟨vs, l, h1, h2, h3⟩ := h
  by_cases c : x ∈ y :: vs
  · exact way_at h1 h2 h3 c
  · exact ⟨y :: vs, i :: l, ⟨e, h1⟩, List.nodup_cons.2 ⟨c, h2⟩, by rw [List.getLast?_cons_cons]; exact h3⟩
/-- The ends of the switches of a way are among its sections. -/
theorem lk_ends {T : Nat → Nat → Nat → Prop} (hT : ∀ i x y, T i x y → joins G i x y) : ∀ {vs l : List Nat}, lk T vs l → ∀ i, i ∈ l → G.A i ∈ vs ∧ G.B i ∈ vs
  | [_], [], _, i, hi => by simp at hi
  | x :: y :: vs, j :: l, ⟨h1, h2⟩, i, hi => by
    rcases List.mem_cons.1 hi with rfl | hi
    · obtain ⟨_, h | h⟩ := hT _ _ _ h1
      · exact ⟨by simp [h.1], by simp [h.2]⟩
      · exact ⟨by simp [h.1], by simp [h.2]⟩
    · have := lk_ends hT h2 i hi
      exact ⟨List.mem_cons_of_mem _ this.1, List.mem_cons_of_mem _ this.2⟩
  | [], _, h, _, _ => h.elim
  | [_], _ :: _, h, _, _ => h.elim
  | _ :: _ :: _, [], h, _, _ => h.elim
/-- More (d = 1) or less (d = -1) along a way. -/
theorem shift {T : Nat → Nat → Nat → Prop} (hT : ∀ i x y, T i x y → joins G i x y) (d : Int) (f : Nat → Int) : ∀ {x : Nat} {vs l : List Nat}, lk T (x :: vs) l → (x :: vs).Nodup →
    ∃ f' : Nat → Int, (∀ i, i ∉ l → f' i = f i) ∧ (∀ i, i ∈ l → ∃ u w, T i u w ∧ f' i = f i + d * sg G i w) ∧ ∀ s, (x :: vs).getLast? = some s → ∀ v, net G f' v = net G f v + d * (ind (x = v) - ind (s = v))
  | x, [], [], h, hn => ⟨f, fun i _ => rfl, fun i hi => by simp at hi, fun s hs v => by
      obtain rfl : x = s := by simpa using hs
      rw [Int.sub_self, Int.mul_zero, Int.add_zero]⟩
  | x, y :: vs, i :: l, ⟨h1, h2⟩, hn => by
    obtain ⟨n1, n2⟩ := List.nodup_cons.1 hn
    obtain ⟨g, g1, g2, g3⟩ := shift hT d f h2 n2
    have j1 := hT _ _ _ h1
    have hil : i ∉ l := fun z => by
      have := lk_ends G hT h2 i z
      rcases j1.2 with ⟨a, b⟩ | ⟨a, b⟩
      · rw [a] at this; exact n1 this.1
      · rw [b] at this; exact n1 this.2
    refine ⟨upd g i (g i + d * sg G i y), fun j hj => ?_, fun j hj => ?_, fun s hs v => ?_⟩
    · unfold upd
      rw [if_neg (fun z => hj (by rw [z]; simp))]
      exact g1 j (fun z => hj (by simp [z]))
    · by_cases c : j = i
      · subst c
        exact ⟨x, y, h1, by unfold upd; rw [if_pos rfl, g1 j hil]⟩
      · obtain ⟨u, w, t1, t2⟩ := g2 j ((List.mem_cons.1 hj).resolve_left c)
        exact ⟨u, w, t1, by unfold upd; rw [if_neg c]; exact t2⟩
    · rw [List.getLast?_cons_cons] at hs
      rw [net_upd G g j1.1, g3 s hs v, Int.mul_assoc, sg_net G j1, Int.mul_sub, Int.mul_sub, Int.mul_sub]
      omega
  | _, [], _ :: _, h, _ => h.elim
  | _, _ :: _, [], h, _ => h.elim
/-- C isolates: some sections, all homes among them and t not, with no other closed switch on their border. -/
def iso (C : Nat → Prop) : Prop := ∃ X : Nat → Prop, (∀ h, h < G.n → G.home h → X h) ∧ ¬ X G.t ∧ ∀ i, i < G.m → G.cl i → ¬ C i → (X (G.A i) ↔ X (G.B i))
noncomputable def cnt (C : Nat → Prop) : Int := sm (fun i => ind (C i)) G.m
/-- The value of a flow is what comes in at t. -/
theorem flow_out {f : Nat → Int} (hf : Flow G f) (X : Nat → Prop) (hh : ∀ h, h < G.n → G.home h → ¬ X h) (ht : X G.t) : sm (fun i => f i * (ind (X (G.B i)) - ind (X (G.A i)))) G.m = net G f G.t := by
  classical
  rw [← net_set]
  have e : ∀ v, v < G.n → (if X v then net G f v else 0) = (if v = G.t then net G f G.t else 0) := fun v hv => by
    by_cases c : v = G.t
    · subst c; rw [if_pos ht, if_pos rfl]
    · rw [if_neg c]
      by_cases x : X v
      · rw [if_pos x]
        exact hf.kp v hv c (fun z => hh v hv z x)
      · rw [if_neg x]
  rw [sm_congr e, sm_one, if_pos G.tn]
theorem grow {k : Int} (hk : ∀ C : Nat → Prop, (∀ i, C i → G.cl i) → iso G C → k ≤ cnt G C) {f : Nat → Int} (hf : Flow G f) (hv : net G f G.t < k) : ∃ f', Flow G f' ∧ net G f' G.t = net G f G.t + 1 := by
  classical
  -- a switch over which more can come from y to x
  let T : Nat → Nat → Nat → Prop := fun i x y => joins G i x y ∧ G.cl i ∧ f i * sg G i y ≤ 0
  let S : Nat → Prop := fun h => h < G.n ∧ G.home h
  by_cases c : way T S G.t
  · obtain ⟨vs, l, h1, h2, s, h3, h4⟩ := c
    obtain ⟨f', g1, g2, g3⟩ := shift G (T := T) (fun i x y h => h.1) 1 f h1 h2
    have g3 := g3 s h3
    have hst : ¬ s = G.t := fun z => G.th (z ▸ h4.2)
    refine ⟨f', ⟨fun i hi => ?_, fun i hi h0 => ?_, fun v hv1 hv2 hv3 => ?_⟩, ?_⟩
    · by_cases z : i ∈ l
      · obtain ⟨u, w, ⟨_, _, t3⟩, e⟩ := g2 i z
        have := hf.bd i hi
        rw [e]
        unfold sg at t3 ⊢
        by_cases y : G.A i = w
        · rw [if_pos y] at t3 ⊢; omega
        · rw [if_neg y] at t3 ⊢; omega
      · rw [g1 i z]; exact hf.bd i hi
    · by_cases z : i ∈ l
      · obtain ⟨u, w, ⟨_, t2, _⟩, _⟩ := g2 i z
        exact t2
      · rw [g1 i z] at h0; exact hf.op i hi h0
    · have hsv : ¬ s = v := fun z => hv3 (z ▸ h4.2)
      have htv : ¬ G.t = v := fun z => hv2 z.symm
      rw [g3 v, hf.kp v hv1 hv2 hv3]
      unfold ind
      rw [if_neg htv, if_neg hsv]; omega
    · rw [g3 G.t]
      unfold ind
      rw [if_pos rfl, if_neg hst]; omega
  · -- else the sections that are reached have a border that is full
    exfalso
    let X : Nat → Prop := way T S
    let C : Nat → Prop := fun i => i < G.m ∧ G.cl i ∧ ¬ (X (G.A i) ↔ X (G.B i))
    have hiso : iso G C := ⟨X, fun h hn hh => way_self ⟨hn, hh⟩, c, fun i hi hc hC => by
      refine Classical.byContradiction fun z => hC ⟨hi, hc, z⟩⟩
    have h1 := hk C (fun i h => h.2.1) hiso
    have h2 := flow_out G hf (fun v => ¬ X v) (fun h hn hh z => z (way_self ⟨hn, hh⟩)) c
    have e : ∀ i, i < G.m → f i * (ind (¬ X (G.B i)) - ind (¬ X (G.A i))) = ind (C i) := fun i hi => by
      have hb := hf.bd i hi
      have ho := hf.op i hi
      obtain ⟨_, _, hne⟩ := G.lt i hi
      have sA : sg G i (G.A i) = 1 := by unfold sg; rw [if_pos rfl]
      have sB : sg G i (G.B i) = -1 := by unfold sg; rw [if_neg hne]
      have stepAB : G.cl i → X (G.A i) → f i ≤ 0 → X (G.B i) := fun h x y => way_step x (i := i) ⟨⟨hi, .inr ⟨rfl, rfl⟩⟩, h, by rw [sA]; omega⟩
      have stepBA : G.cl i → X (G.B i) → 0 ≤ f i → X (G.A i) := fun h x y => way_step x (i := i) ⟨⟨hi, .inl ⟨rfl, rfl⟩⟩, h, by rw [sB]; omega⟩
      unfold ind
      by_cases a : X (G.A i) <;> by_cases b : X (G.B i)
      · have : ¬ C i := fun z => z.2.2 ⟨fun _ => b, fun _ => a⟩
        simp [a, b, this]
      · by_cases hc : G.cl i
        · have hC : C i := ⟨hi, hc, fun z => b (z.1 a)⟩
          have : f i = 1 := by
            have : ¬ f i ≤ 0 := fun z => b (stepAB hc a z)
            omega
          simp [a, b, hC, this]
        · have h0 : f i = 0 := Classical.byContradiction fun z => hc (ho z)
          have hC : ¬ C i := fun z => hc z.2.1
          simp [h0, hC]
      · by_cases hc : G.cl i
        · have hC : C i := ⟨hi, hc, fun z => a (z.2 b)⟩
          have : f i = -1 := by
            have : ¬ 0 ≤ f i := fun z => a (stepBA hc b z)
            omega
          simp [a, b, hC, this]
        · have h0 : f i = 0 := Classical.byContradiction fun z => hc (ho z)
          have hC : ¬ C i := fun z => hc z.2.1
          simp [h0, hC]
      · have : ¬ C i := fun z => z.2.2 ⟨fun h => absurd h a, fun h => absurd h b⟩
        simp [a, b, this]
    have h3 : sm (fun i => f i * (ind (¬ X (G.B i)) - ind (¬ X (G.A i)))) G.m = cnt G C := by
      unfold cnt
      exact sm_congr e
    rw [h3] at h2
    omega
theorem flow_k {k : Nat} (hk : ∀ C : Nat → Prop, (∀ i, C i → G.cl i) → iso G C → (k : Int) ≤ cnt G C) : ∀ j : Nat, j ≤ k → ∃ f, Flow G f ∧ net G f G.t = j
  | 0, _ => ⟨fun _ => 0, ⟨fun i _ => by omega, fun i _ h => absurd rfl h, fun v _ _ _ => by unfold net; simp only [Int.zero_mul]; exact sm_zero _⟩, by unfold net; simp only [Int.zero_mul]; exact sm_zero _⟩
  | j + 1, hj => by
    obtain ⟨f, h1, h2⟩ := flow_k hk j (by omega)
    obtain ⟨f', h3, h4⟩ := grow G hk h1 (by omega)
    exact ⟨f', h3, by omega⟩
/-- A feed: a way from a home (the first section) to t over closed switches. -/
def feed (l : List Nat) : Prop := ∃ h vs, lk (fun i x y => joins G i x y ∧ G.cl i) (h :: vs) l ∧ (h :: vs).Nodup ∧ (h < G.n ∧ G.home h) ∧ (h :: vs).getLast? = some G.t
def apart : List (List Nat) → Prop
  | [] => True
  | l :: L => (∀ l', l' ∈ L → ∀ i, i ∈ l → i ∉ l') ∧ apart L
/-- Out of a flow with a value above 0 a feed, and a flow without it. -/
theorem take {f : Nat → Int} (hf : Flow G f) (hv : 0 < net G f G.t) : ∃ l f', feed G l ∧ Flow G f' ∧ net G f' G.t = net G f G.t - 1 ∧ (∀ i, i ∈ l → f i ≠ 0 ∧ f' i = 0) ∧ ∀ i, f' i ≠ 0 → f i ≠ 0 := by
  classical
  let T : Nat → Nat → Nat → Prop := fun i x y => joins G i x y ∧ f i * sg G i x = 1
  let S : Nat → Prop := fun v => v = G.t
  by_cases c : ∃ h, h < G.n ∧ G.home h ∧ way T S h
  · obtain ⟨h, hn, hh, vs, l, h1, h2, s, h3, h4⟩ := c
    obtain rfl : s = G.t := h4
    obtain ⟨f', g1, g2, g3⟩ := shift G (T := T) (fun i x y h => h.1) 1 f h1 h2
    have g3 := g3 _ h3
    have hht : ¬ h = G.t := fun z => G.th (z ▸ hh)
    have nz : ∀ i, i ∈ l → f i ≠ 0 ∧ f' i = 0 := fun i hi => by
      obtain ⟨u, w, ⟨⟨t1, t2⟩, t3⟩, e⟩ := g2 i hi
      have hne := (G.lt i t1).2.2
      rw [e]
      unfold sg at t3 ⊢
      rcases t2 with ⟨a, b⟩ | ⟨a, b⟩
      · rw [if_pos a] at t3
        rw [if_neg (by omega)]; omega
      · rw [if_neg (by omega)] at t3
        rw [if_pos a]; omega
    refine ⟨l, f', ⟨h, vs, ?_, h2, ⟨hn, hh⟩, h3⟩, ⟨fun i hi => ?_, fun i hi h0 => ?_, fun v hv1 hv2 hv3 => ?_⟩, ?_, nz, fun i hi => ?_⟩
    · refine lk_mono (fun i x y ht => ⟨ht.1, ?_⟩) h1
      refine hf.op i ht.1.1 (fun z => ?_)
      have := ht.2
      rw [z, Int.zero_mul] at this
      cases this
    · by_cases z : i ∈ l
      · rw [(nz i z).2]; omega
      · rw [g1 i z]; exact hf.bd i hi
    · by_cases z : i ∈ l
      · exact absurd (nz i z).2 h0
      · rw [g1 i z] at h0; exact hf.op i hi h0
    · have hhv : ¬ h = v := fun z => hv3 (z ▸ hh)
      have htv : ¬ G.t = v := fun z => hv2 z.symm
      rw [g3 v, hf.kp v hv1 hv2 hv3]
      unfold ind
      rw [if_neg htv, if_neg hhv]; omega
    · rw [g3 G.t]
      unfold ind
      rw [if_pos rfl, if_neg hht]; omega
    · by_cases z : i ∈ l
      · exact absurd (nz i z).2 hi
      · rw [g1 i z] at hi; exact hi
  · exfalso
    let X : Nat → Prop := way T S
    have h2 := flow_out G hf X (fun h hn hh z => c ⟨h, hn, hh, z⟩) (way_self rfl)
    have e : ∀ i, i < G.m → f i * (ind (X (G.B i)) - ind (X (G.A i))) ≤ 0 := fun i hi => by
      have hb := hf.bd i hi
      obtain ⟨_, _, hne⟩ := G.lt i hi
      have sA : sg G i (G.A i) = 1 := by unfold sg; rw [if_pos rfl]
      have sB : sg G i (G.B i) = -1 := by unfold sg; rw [if_neg hne]
      have stepA : X (G.B i) → f i = 1 → X (G.A i) := fun x y => way_step x (i := i) ⟨⟨hi, .inl ⟨rfl, rfl⟩⟩, by rw [sA]; omega⟩
      have stepB : X (G.A i) → f i = -1 → X (G.B i) := fun x y => way_step x (i := i) ⟨⟨hi, .inr ⟨rfl, rfl⟩⟩, by rw [sB]; omega⟩
      unfold ind
      by_cases a : X (G.A i) <;> by_cases b : X (G.B i)
      · simp [a, b]
      · have : ¬ f i = -1 := fun z => b (stepB a z)
        simp [a, b]; omega
      · have : ¬ f i = 1 := fun z => a (stepA b z)
        simp [a, b]; omega
      · simp [a, b]
    have h3 := sm_le e
    rw [sm_zero, h2] at h3
    omega
theorem feeds_of : ∀ (k : Nat) {f : Nat → Int}, Flow G f → net G f G.t = k → ∃ L : List (List Nat), L.length = k ∧ (∀ l, l ∈ L → feed G l ∧ ∀ i, i ∈ l → f i ≠ 0) ∧ apart L
  | 0, f, _, _ => ⟨[], rfl, fun l h => by simp at h, trivial⟩
  | k + 1, f, hf, hv => by
    obtain ⟨l, f', h1, h2, h3, h4, h5⟩ := take G hf (by omega)
    obtain ⟨L, l1, l2, l3⟩ := feeds_of k h2 (by omega)
    refine ⟨l :: L, by simp [l1], fun l' hl' => ?_, fun l' hl' i hi hi' => ?_, l3⟩
    · rcases List.mem_cons.1 hl' with rfl | h
      · exact ⟨h1, fun i hi => (h4 i hi).1⟩
      · exact ⟨(l2 l' h).1, fun i hi => h5 i ((l2 l' h).2 i hi)⟩
    · exact (l2 l' hl').2 i hi' (h4 i hi).2
/-- As many feeds that are apart as the least isolation has switches. -/
theorem menger {k : Nat} (hk : ∀ C : Nat → Prop, (∀ i, C i → G.cl i) → iso G C → (k : Int) ≤ cnt G C) : ∃ L : List (List Nat), L.length = k ∧ (∀ l, l ∈ L → feed G l) ∧ apart L := by
  obtain ⟨f, h1, h2⟩ := flow_k G hk k (Nat.le_refl _)
  obtain ⟨L, l1, l2, l3⟩ := feeds_of G k h1 h2
  exact ⟨L, l1, fun l hl => (l2 l hl).1, l3⟩
/-- Each feed has a switch of each isolation. -/
theorem cross {C X : Nat → Prop} (h1 : ∀ i, i < G.m → G.cl i → ¬ C i → (X (G.A i) ↔ X (G.B i))) : ∀ {x : Nat} {vs l : List Nat} {t : Nat}, lk (fun i x y => joins G i x y ∧ G.cl i) (x :: vs) l → (x :: vs).getLast? = some t → X x → ¬ X t → ∃ i, i ∈ l ∧ C i
  | x, [], [], t, _, hl, hx, ht => by
    obtain rfl : x = t := by simpa using hl
    exact absurd hx ht
  | x, y :: vs, i :: l, t, ⟨⟨⟨j1, j2⟩, j3⟩, h⟩, hl, hx, ht => by
    by_cases c : C i
    · exact ⟨i, by simp, c⟩
    · have e := h1 i j1 j3 c
      have hy : X y := by
        rcases j2 with ⟨a, b⟩ | ⟨a, b⟩
        · rw [a, b] at e; exact e.1 hx
        · rw [a, b] at e; exact e.2 hx
      rw [List.getLast?_cons_cons] at hl
      obtain ⟨i', h2, h3⟩ := cross h1 h hl hy ht
      exact ⟨i', by simp [h2], h3⟩
  | _, [], _ :: _, _, h, _, _, _ => h.elim
  | _, _ :: _, [], _, h, _, _, _ => h.elim
theorem feed_cross {C : Nat → Prop} (h : iso G C) {l : List Nat} (hl : feed G l) : ∃ i, i ∈ l ∧ C i := by
  obtain ⟨X, x1, x2, x3⟩ := h
  obtain ⟨s, vs, v1, v2, v3, v4⟩ := hl
  exact cross G x3 v1 v4 (x1 s v3.1 v3.2) x2
/-- .. so no isolation has fewer switches than there are feeds apart. -/
theorem weak {c : List Nat} (h : iso G (fun i => i ∈ c)) : ∀ {L : List (List Nat)}, (∀ l, l ∈ L → feed G l) → apart L → ∃ e : List Nat, e.length = L.length ∧ e.Nodup ∧ (∀ i, i ∈ e → i ∈ c ∧ ∃ l, l ∈ L ∧ i ∈ l)
  | [], _, _ => ⟨[], rfl, by simp, fun i hi => by simp at hi⟩
  | l :: L, hL, ⟨a1, a2⟩ => by
    obtain ⟨e, e1, e2, e3⟩ := weak h (L := L) (fun l' h' => hL l' (by simp [h'])) a2
    obtain ⟨i, i1, i2⟩ := feed_cross G h (hL l (by simp))
    refine ⟨i :: e, by simp [e1], List.nodup_cons.2 ⟨fun z => ?_, e2⟩, fun j hj => ?_⟩
    · obtain ⟨_, l', l1, l2⟩ := e3 i z
      exact a1 l' l1 i i1 l2
    · rcases List.mem_cons.1 hj with rfl | h'
      · exact ⟨i2, l, by simp, i1⟩
      · obtain ⟨q1, l', q2, q3⟩ := e3 j h'
        exact ⟨q1, l', by simp [q2], q3⟩
theorem nodup_sub : ∀ {e c : List Nat}, e.Nodup → (∀ i, i ∈ e → i ∈ c) → e.length ≤ c.length
  | [], c, _, _ => by simp
  | i :: e, c, h, hs => by
    obtain ⟨h1, h2⟩ := List.nodup_cons.1 h
    have hi := hs i (by simp)
    have := nodup_sub (e := e) (c := c.erase i) h2 (fun j hj => by
      have : j ≠ i := fun z => h1 (z ▸ hj)
      exact (List.mem_erase_of_ne this).2 (hs j (by simp [hj])))
    rw [List.length_erase_of_mem hi] at this
    have : 0 < c.length := List.length_pos_of_mem hi
    simp only [List.length_cons]
    omega
theorem weak_le {c : List Nat} (h : iso G (fun i => i ∈ c)) {L : List (List Nat)} (h1 : ∀ l, l ∈ L → feed G l) (h2 : apart L) : L.length ≤ c.length := by
  obtain ⟨e, e1, e2, e3⟩ := weak G h h1 h2
  rw [← e1]
  exact nodup_sub e2 (fun i hi => (e3 i hi).1)
end Go.Proofs.YtbbjonbnmoomlaaDoor.G
end
section
namespace Go.Proofs.YtbbjonbnmoomlaaDoor.G
open Go.RowKit Go.Proofs.YtbbjonbnmoomlaaDoorW.PrintWords Go.Proofs.YtbbjonbnmoomlaaDoorW.PrintLast Go.Proofs.YtbbjonbnmoomlaaDoorW.PrintMore
set_option linter.unusedVariables false
/-- A set of switches has none but those of another one. -/
def sub (s st : Nat) : Prop := ∀ j, s.testBit j = true → st.testBit j = true
theorem bit_ext {x y : Nat} (h : ∀ j, x.testBit j = true ↔ y.testBit j = true) : x = y := Nat.eq_of_testBit_eq fun j => by
  have := h j
  cases e : x.testBit j <;> cases e2 : y.testBit j <;> simp_all
theorem dif_tb {x y : Nat} (hx : x < 1024) (hy : y < 1024) (j : Nat) : (dif x y).testBit j = true ↔ x.testBit j = true ∧ ¬ y.testBit j = true := by
  rw [dif_bit (by omega) (by omega), Bool.and_eq_true, Bool.not_eq_true', Bool.not_eq_true]
theorem dif_zero {s st : Nat} (hs : s < 1024) (ht : st < 1024) : dif s st = 0 ↔ sub s st := by
  constructor
  · intro h j hj
    refine Decidable.not_not.1 fun c => ?_
    have := (dif_tb hs ht j).2 ⟨hj, c⟩
    rw [h, Nat.zero_testBit] at this
    exact absurd this (by decide)
  · intro h
    refine bit_ext fun j => ?_
    rw [dif_tb hs ht, Nat.zero_testBit]
    exact ⟨fun z => absurd (h j z.1) z.2, fun z => absurd z (by decide)⟩
section
variable {N : Int} {S : List S47} {F : List S49} (o : okG N S F) {st : Nat} (hs : isSt S st) {t : Nat} (ht : t < N.toNat) (hh : ¬ home F t)
include hh in
theorem dead_none (h : ∀ j, (st.testBit j) = false) : ¬ lv S F st t := by
  rintro ⟨x, hx, r⟩
  have := r.closed (P := fun v => v = x) (fun i u v j _ => absurd (j.2.1) (by rw [h i]; decide)) rfl
  exact hh (this ▸ hx)
/-- A set of closed switches without which a section is not live. -/
structure cuts (S : List S47) (F : List S49) (st t s : Nat) : Prop where
  lt : s < 2 ^ S.length
  sub : sub s st
  dead : ¬ lv S F (dif st s) t
include o hs ht in
theorem least_loop : ∀ (d i c : Nat), 2 ^ S.length - i = d → i ≤ 2 ^ S.length → cuts S F st t c → (∀ s, s < i → cuts S F st t s → (bl c).length ≤ (bl s).length) →
    ∃ c' : Nat, Ev (fun k => feed_grid_least.l0 k (st : Int) (t : Int) (c : Int) ((2 ^ S.length : Nat) : Int) (i : Int) N S F) (c' : Int) ∧ cuts S F st t c' ∧ ∀ s, cuts S F st t s → (bl c').length ≤ (bl s).length := by
  have hp := pow_le o.s10
  have hst := isSt_lt o.s10 hs
  intro d
  induction d with
  | zero =>
    intro i c hd hi hc hm
    refine ⟨c, ev_some _ fun k => ?_, hc, fun s z => hm s (by have := z.lt; omega) z⟩
    rw [feed_grid_least.l0, if_neg (by omega)]
  | succ d ih =>
    intro i c hd hi hc hm
    have hc1 := hc.lt
    have next : ∀ c2, cuts S F st t c2 → (bl c2).length ≤ (bl c).length → (cuts S F st t i → (bl c2).length ≤ (bl i).length) → ∃ c' : Nat, Ev (fun k => feed_grid_least.l0 k (st : Int) (t : Int) (c2 : Int) ((2 ^ S.length : Nat) : Int) ((i + 1 : Nat) : Int) N S F) (c' : Int) ∧ cuts S F st t c' ∧ ∀ s, cuts S F st t s → (bl c').length ≤ (bl s).length := fun c2 h2 hle hi2 => by
      refine ih (i + 1) c2 (by omega) (by omega) h2 fun s hs hcs => ?_
      by_cases q : s = i
      · subst q; exact hi2 hcs
      · exact Nat.le_trans hle (hm s (by omega) hcs)
    have e0 : ∀ k, feed_grid_least.l0 (k + 1) (st : Int) (t : Int) (c : Int) ((2 ^ S.length : Nat) : Int) (i : Int) N S F = if ((dif i st : Nat) : Int) = 0 then (if ((bl i).length : Int) < ((bl c).length : Int) then ((feed_grid_dead.f k N S F ((dif st i : Nat) : Int) (t : Int)).bind fun t105 => (if t105 = true then (feed_grid_least.l0 k (st : Int) (t : Int) (i : Int) ((2 ^ S.length : Nat) : Int) ((i + 1 : Nat) : Int) N S F) else (feed_grid_least.l0 k (st : Int) (t : Int) (c : Int) ((2 ^ S.length : Nat) : Int) ((i + 1 : Nat) : Int) N S F))) else (feed_grid_least.l0 k (st : Int) (t : Int) (c : Int) ((2 ^ S.length : Nat) : Int) ((i + 1 : Nat) : Int) N S F)) else (feed_grid_least.l0 k (st : Int) (t : Int) (c : Int) ((2 ^ S.length : Nat) : Int) ((i + 1 : Nat) : Int) N S F) := fun k => by
      rw [feed_grid_least.l0, if_pos (by omega), dif_nat (.inl rfl) (by omega), dif_nat (.inl rfl) (by omega), count_nat (show i < 1024 by omega), count_nat (show c < 1024 by omega), wsucc i (by omega)]
      rfl
    by_cases c1 : dif i st = 0
    · by_cases c2 : (bl i).length < (bl c).length
      · obtain ⟨b, eb, hb⟩ := dead_ev (st := dif st i) o (Nat.lt_of_le_of_lt (dif_le (by omega)) hst) ht
        cases b with
        | true =>
          have ci : cuts S F st t i := ⟨by omega, (dif_zero (by omega) hst).1 c1, hb.1 rfl⟩
          obtain ⟨c', e', h'⟩ := next i ci (by omega) (fun _ => Nat.le_refl _)
          refine ⟨c', Ev.step (fun k => ?_) (Ev.bind (f := fun k t105 => (if t105 = true then (feed_grid_least.l0 k (st : Int) (t : Int) (i : Int) ((2 ^ S.length : Nat) : Int) ((i + 1 : Nat) : Int) N S F) else (feed_grid_least.l0 k (st : Int) (t : Int) (c : Int) ((2 ^ S.length : Nat) : Int) ((i + 1 : Nat) : Int) N S F))) eb e'), h'⟩
          rw [e0, if_pos (by omega), if_pos (by omega)]
        | false =>
          obtain ⟨c', e', h'⟩ := next c hc (Nat.le_refl _) (fun z => absurd (hb.2 z.dead) (by decide))
          refine ⟨c', Ev.step (fun k => ?_) (Ev.bind (f := fun k t105 => (if t105 = true then (feed_grid_least.l0 k (st : Int) (t : Int) (i : Int) ((2 ^ S.length : Nat) : Int) ((i + 1 : Nat) : Int) N S F) else (feed_grid_least.l0 k (st : Int) (t : Int) (c : Int) ((2 ^ S.length : Nat) : Int) ((i + 1 : Nat) : Int) N S F))) eb e'), h'⟩
          rw [e0, if_pos (by omega), if_pos (by omega)]
      · obtain ⟨c', e', h'⟩ := next c hc (Nat.le_refl _) (fun z => by omega)
        refine ⟨c', Ev.step (fun k => ?_) e', h'⟩
        rw [e0, if_pos (by omega), if_neg (by omega)]
    · obtain ⟨c', e', h'⟩ := next c hc (Nat.le_refl _) (fun z => absurd ((dif_zero (by omega) hst).2 z.sub) c1)
      refine ⟨c', Ev.step (fun k => ?_) e', h'⟩
      rw [e0, if_neg (by omega)]
include o hs ht hh in
theorem least_ev : ∃ c : Nat, Ev (fun k => feed_grid_least.f k N S F (st : Int) (t : Int)) (c : Int) ∧ cuts S F st t c ∧ ∀ s, cuts S F st t s → (bl c).length ≤ (bl s).length := by
  have hst := isSt_lt o.s10 hs
  obtain ⟨c, e, h⟩ := least_loop o hs ht (2 ^ S.length) 0 st (Nat.sub_zero _) (Nat.zero_le _) ⟨hs, fun _ h => h, dead_none hh fun j => by
    rw [dif_bit (by omega) (by omega)]; cases st.testBit j <;> rfl⟩ (by omega)
  refine ⟨c, Ev.congr (fun k => ?_) e, h⟩
  unfold feed_grid_least.f
  rw [all_some o.s10]
  rfl
theorem take_mem {L : List Nat} {i : Nat} (h : i < L.length) (j : Nat) : j ∈ L.take (i + 1) ↔ (j ∈ L.take i ∨ j = L.getD i 0) := by
  rw [List.take_add_one, List.mem_append, List.getD_eq_getElem?_getD, List.getElem?_eq_getElem h]
  simp
theorem getD_mem {L : List Nat} {i : Nat} (h : i < L.length) : L.getD i 0 ∈ L := by
  rw [List.getD_eq_getElem?_getD, List.getElem?_eq_getElem h]
  exact List.getElem_mem h
theorem sorted_get {L : List Nat} (hL : L.Pairwise (· < ·)) {i : Nat} (h : i + 1 < L.length) : L.getD i 0 < L.getD (i + 1) 0 := by
  rw [List.getD_eq_getElem?_getD, List.getD_eq_getElem?_getD, List.getElem?_eq_getElem h, List.getElem?_eq_getElem (show i < L.length by omega)]
  exact List.pairwise_iff_getElem.1 hL i (i + 1) (by omega) h (by omega)
theorem pow_lt10 {a : Nat} (h : a < 10) : 2 ^ a < 1024 := show _ < 2 ^ 10 from Nat.pow_lt_pow_right (by omega) h
/-- What is left of a state without the first switches of a list. -/
def left (st : Nat) (L : List Nat) (i x : Nat) : Prop := x < 1024 ∧ ∀ j, x.testBit j = true ↔ (st.testBit j = true ∧ j ∉ L.take i)
theorem left_next {st : Nat} {L : List Nat} {i x : Nat} (h : left st L i x) (hi : i < L.length) (hl : L.getD i 0 < 10) : left st L (i + 1) (dif x (2 ^ L.getD i 0)) := by
  refine ⟨Nat.lt_of_le_of_lt (dif_le (by have := h.1; omega)) h.1, fun j => ?_⟩
  rw [dif_tb h.1 (pow_lt10 hl), h.2 j, take_mem hi, pow_bit, not_or, and_assoc]
theorem left_all {st : Nat} {L : List Nat} {x s : Nat} (hst : st < 1024) (hs : s < 1024) (h : left st L L.length x) (e : ∀ j, j ∈ L ↔ s.testBit j = true) : x = dif st s := bit_ext fun j => by
  rw [h.2 j, dif_tb hst hs, List.take_length, e]
include o hs ht in
theorem isolates_loop {L : List Nat} (hL : L.Pairwise (· < ·)) (hm : ∀ j, j ∈ L → j < S.length ∧ st.testBit j = true) {s : Nat} (hs1 : s < 1024) (e : ∀ j, j ∈ L ↔ s.testBit j = true) (hd : ¬ lv S F (dif st s) t) (hl : L.length ≤ 10) : ∀ (d i x : Nat), L.length - i = d → i ≤ L.length → left st L i x →
    Ev (fun k => feed_Isolates.l0 k (st : Int) (t : Int) (il L) (x : Int) (il L) ((il L).length : Int) (i : Int) N S F N S F) (true, 0) := by
  have hst := isSt_lt o.s10 hs
  have hS := o.s10
  intro d
  induction d with
  | zero =>
    intro i x h1 hi hx
    obtain rfl : i = L.length := by omega
    obtain rfl := left_all hst hs1 hx e
    obtain ⟨b, eb, hb⟩ := dead_ev (st := dif st s) o (Nat.lt_of_le_of_lt (dif_le (by omega)) hst) ht
    obtain rfl := hb.2 hd
    refine Ev.step (fun k => ?_) (Ev.bind (f := fun k t107 => some (t107, (0 : Int))) eb (Ev.now (true, (0 : Int))))
    rw [feed_Isolates.l0, if_neg (by rw [il_len]; omega)]
  | succ d ih =>
    intro i x h1 hi hx
    have mi := hm _ (getD_mem (L := L) (i := i) (by omega))
    refine Ev.step (fun k => ?_) (ih (i + 1) _ (by omega) (by omega) (left_next hx (by omega) (by omega)))
    have hx1 := hx.1
    rw [feed_Isolates.l0, if_pos (by rw [il_len]; omega), if_pos (by omega), if_pos (by rw [il_len]; omega), within_some, w64 (by omega) (by omega), il_rd, decide_eq_true (by omega)]
    simp only [Option.bind_some, if_true]
    rw [if_pos (by omega), tb_nat (.inl rfl) (by omega) (by omega), mi.2, if_pos rfl, if_neg (by decide), shl_nat (.inl rfl) (by omega), dif_nat (.inl rfl) (by omega), wsucc i (by omega)]
    by_cases c : i = 0
    · rw [if_neg (by omega)]
    · obtain ⟨i, rfl⟩ : ∃ a, i = a + 1 := ⟨i - 1, by omega⟩
      have e1 : wrap64 (((i + 1 : Nat) : Int) - 1) = (i : Int) := by rw [w64 (by omega) (by omega)]; omega
      have := sorted_get hL (i := i) (by omega)
      rw [if_pos (by omega), e1, if_pos (by omega), if_pos (by rw [il_len]; omega), il_rd, if_neg (by omega)]
include o hs ht in
theorem isolates_ev {c : Nat} (h : cuts S F st t c) : Ev (fun k => feed_Isolates.f k N S F (st : Int) (t : Int) (il (bl c))) (true, 0) := by
  have hst := isSt_lt o.s10 hs
  have hc := isSt_lt o.s10 h.lt
  refine Ev.bind (fasked_ev o hs (by omega) (by omega)) ?_
  exact isolates_loop o hs ht (bl_sorted c) (fun j hj => by
    have := (bl_mem hc).1 hj
    refine ⟨?_, h.sub j this⟩
    refine Nat.lt_of_not_le fun q => ?_
    have z := Nat.testBit_lt_two_pow (x := c) (i := j) (Nat.lt_of_lt_of_le h.lt (Nat.pow_le_pow_right (by omega) q))
    rw [z] at this
    exact absurd this (by decide)) hc (fun j => bl_mem hc) h.dead (bl_len c) (bl c).length 0 st (by omega) (by omega) ⟨hst, fun j => by simp⟩
theorem minus_all : ((List.range 1024).all fun x => (List.range 10).all fun a => !(x.testBit a) || x - 2 ^ a == dif x (2 ^ a) && decide (2 ^ a ≤ x)) = true := by decide +kernel
theorem minus {x a : Nat} (hx : x < 1024) (ha : a < 10) (h : x.testBit a = true) : x - 2 ^ a = dif x (2 ^ a) ∧ 2 ^ a ≤ x := by
  have z := List.all_eq_true.1 (List.all_eq_true.1 minus_all x (List.mem_range.2 hx)) a (List.mem_range.2 ha)
  rw [h] at z
  simpa using z
theorem minus64 {x p : Nat} (hx : x < 1024) (h : p ≤ x) : wrap64 ((x : Int) - (p : Int)) = ((x - p : Nat) : Int) := by rw [w64 (by omega) (by omega)]; omega
include o hs ht in
theorem risolates_l1 {L : List Nat} (hL : L.Nodup) (hm : ∀ j, j ∈ L → j < S.length ∧ st.testBit j = true) (hl : L.length ≤ 20) : ∀ (d i x : Nat), L.length - i = d → i ≤ L.length → left st L i x →
    ∃ b : Bool, Ev (fun k => dropperref05_Isolates.l1 k (x : Int) (t : Int) (il L) (i : Int) N S F) (b, 0) ∧ (b = true → ∃ s, cuts S F st t s ∧ (bl s).length ≤ L.length) := by
  have hst := isSt_lt o.s10 hs
  have hS := o.s10
  intro d
  induction d with
  | zero =>
    intro i x h1 hi hx
    obtain rfl : i = L.length := by omega
    obtain ⟨r, er, hr⟩ := rlive_ev o hx.1
    refine ⟨rd r t == 0, Ev.step (fun k => ?_) (Ev.bind (f := fun k t110 => (if 0 ≤ (t : Int) then (if (t : Int) < (t110.length : Int) then (some (((rd t110 t) == 0), (0 : Int))) else (none)) else (none))) er (Ev.congr (fun k => ?_) (Ev.now _))), fun hb => ?_⟩
    · rw [dropperref05_Isolates.l1, if_neg (by rw [il_len]; omega)]
    · rw [if_pos (by omega), if_pos (by have := hr.len; omega)]
    · have xd : ¬ lv S F x t := fun z => (hr.iff t ht).2 z (beq_iff_eq.1 hb)
      have tx := hx.2
      rw [List.take_length] at tx
      have sx : sub x st := fun j hj => ((tx j).1 hj).1
      have lt : dif st x < 2 ^ S.length := Nat.lt_of_le_of_lt (dif_le (by omega)) hs
      have lt2 := isSt_lt o.s10 (st := dif st x) lt
      have e2 : dif st (dif st x) = x := bit_ext fun j => by
        rw [dif_tb hst lt2, dif_tb hst hx.1]
        exact ⟨fun ⟨h1, h2⟩ => Decidable.not_not.1 fun c => h2 ⟨h1, c⟩, fun c => ⟨sx j c, fun z => z.2 c⟩⟩
      refine ⟨dif st x, ⟨lt, fun j hj => ((dif_tb hst hx.1 j).1 hj).1, by rw [e2]; exact xd⟩, nodup_sub (bl_nodup _) fun j hj => ?_⟩
      have := (dif_tb hst hx.1 j).1 ((bl_mem lt2).1 hj)
      exact Decidable.not_not.1 fun c => this.2 ((tx j).2 ⟨this.1, c⟩)
  | succ d ih =>
    intro i x h1 hi hx
    have mi := hm _ (getD_mem (L := L) (i := i) (by omega))
    have bx : x.testBit (L.getD i 0) = true := (hx.2 _).2 ⟨mi.2, fun z => by
      obtain ⟨p, hp, q⟩ := List.mem_take_iff_getElem.1 z
      rw [List.getD_eq_getElem?_getD, List.getElem?_eq_getElem (show i < L.length by omega)] at q
      exact (List.pairwise_iff_getElem.1 hL) p i (by omega) (by omega) (by omega) q⟩
    have mm := minus hx.1 (show L.getD i 0 < 10 by omega) bx
    obtain ⟨b, e, hb⟩ := ih (i + 1) _ (by omega) (by omega) (left_next hx (by omega) (by omega))
    refine ⟨b, Ev.step (fun k => ?_) e, hb⟩
    have hx1 := hx.1
    rw [dropperref05_Isolates.l1, if_pos (by rw [il_len]; omega), if_pos (by omega), il_rd, if_pos (by omega), shl_nat (.inl rfl) (by omega), minus64 (by omega) mm.2, wsucc i (by omega), mm.1]
end
theorem rd_get {w : List Int} {i : Nat} (h : i < w.length) : rd w (i : Int) = w[i] := by
  simp [rd, List.getD_eq_getElem?_getD, List.getElem?_eq_getElem h]
section
variable {N : Int} {S : List S47} {F : List S49} (o : okG N S F) {st : Nat} (hs : isSt S st) {t : Nat} (ht : t < N.toNat) (hh : ¬ home F t)
include o hs ht in
theorem risolates_l0 {l : List Int} (hl : l.length ≤ 20) : ∀ (d i : Nat), l.length - i = d → i ≤ l.length → (∃ L : List Nat, l.take i = il L ∧ L.Pairwise (· < ·) ∧ (∀ j, j ∈ L → j < S.length ∧ st.testBit j = true) ∧ ∀ a, a ∈ L → 0 < i ∧ (a : Int) ≤ rd l ((i - 1 : Nat) : Int)) →
    ∃ b : Bool, Ev (fun k => dropperref05_Isolates.l0 k (st : Int) (t : Int) l (i : Int) N S F) (b, 0) ∧ (b = true → ∃ s, cuts S F st t s ∧ (bl s).length ≤ l.length) := by
  have hst := isSt_lt o.s10 hs
  have hS := o.s10
  intro d
  induction d with
  | zero =>
    intro i h1 hi ⟨L, eL, sL, mL, _⟩
    obtain rfl : i = l.length := by omega
    rw [List.take_length] at eL
    have ll : l.length = L.length := by rw [eL, il_len]
    obtain ⟨b, e, hb⟩ := risolates_l1 o hs ht (L := L) (sL.imp fun h => by omega) mL (by omega) L.length 0 st (by omega) (by omega) ⟨hst, fun j => by simp⟩
    refine ⟨b, Ev.step (fun k => ?_) e, fun z => ?_⟩
    · rw [dropperref05_Isolates.l0, if_neg (by omega), ← eL]
      rfl
    · rw [ll]; exact hb z
  | succ d ih =>
    intro i h1 hi ⟨L, eL, sL, mL, xL⟩
    have no : (∀ k, dropperref05_Isolates.l0 (k + 1) (st : Int) (t : Int) l (i : Int) N S F = some (false, 0)) → ∃ b : Bool, Ev (fun k => dropperref05_Isolates.l0 k (st : Int) (t : Int) l (i : Int) N S F) (b, 0) ∧ (b = true → ∃ s, cuts S F st t s ∧ (bl s).length ≤ l.length) := fun h => ⟨false, ev_some _ h, fun z => absurd z (by decide)⟩
    by_cases c1 : rd l (i : Int) < 0
    · exact no fun k => by rw [dropperref05_Isolates.l0, if_pos (by omega), if_pos (by omega), if_pos c1]
    by_cases c2 : rd l (i : Int) ≥ (S.length : Int)
    · exact no fun k => by rw [dropperref05_Isolates.l0, if_pos (by omega), if_pos (by omega), if_neg c1, if_pos c2]
    obtain ⟨v, hv⟩ := Int.eq_ofNat_of_zero_le (show 0 ≤ rd l (i : Int) by omega)
    have cl : dropperref05_closed.f (st : Int) (v : Int) = some (st.testBit v) := by
      unfold dropperref05_closed.f
      rw [if_pos (by omega), tb_nat (.inl rfl) (by omega) (by omega)]
      cases st.testBit v <;> rfl
    cases q : st.testBit v with
    | false => exact no fun k => by rw [dropperref05_Isolates.l0, if_pos (by omega), if_pos (by omega), if_neg c1, if_neg c2, hv, cl, q]; rfl
    | true =>
      have go : (0 < i → rd l ((i - 1 : Nat) : Int) < rd l (i : Int)) → ∃ b : Bool, Ev (fun k => dropperref05_Isolates.l0 k (st : Int) (t : Int) l ((i + 1 : Nat) : Int) N S F) (b, 0) ∧ (b = true → ∃ s, cuts S F st t s ∧ (bl s).length ≤ l.length) := fun hlt => by
        refine ih (i + 1) (by omega) (by omega) ⟨L ++ [v], ?_, ?_, fun j hj => ?_, fun a ha => ⟨by omega, ?_⟩⟩
        · rw [List.take_add_one, eL, List.getElem?_eq_getElem (show i < l.length by omega)]
          unfold il
          rw [List.map_append]
          congr 1
          rw [rd_get (by omega)] at hv
          rw [hv]
          rfl
        · refine List.pairwise_append.2 ⟨sL, List.pairwise_singleton _ _, fun a ha b hb => ?_⟩
          obtain rfl := List.mem_singleton.1 hb
          have := xL a ha
          have := hlt this.1
          omega
        · rcases List.mem_append.1 hj with h | h
          · exact mL j h
          · obtain rfl := List.mem_singleton.1 h
            exact ⟨by omega, q⟩
        · rw [Nat.add_sub_cancel]
          rcases List.mem_append.1 ha with h | h
          · have := xL a h
            have := hlt this.1
            omega
          · obtain rfl := List.mem_singleton.1 h
            omega
      have e0 : ∀ k, dropperref05_Isolates.l0 (k + 1) (st : Int) (t : Int) l (i : Int) N S F = (if (i : Int) > 0 then (if 0 ≤ (wrap64 ((i : Int) - 1)) then (if (wrap64 ((i : Int) - 1)) < (l.length : Int) then (if (rd l (i : Int)) ≤ (rd l (wrap64 ((i : Int) - 1))) then (some (false, 0)) else (dropperref05_Isolates.l0 k (st : Int) (t : Int) l (wrap64 ((i : Int) + 1)) N S F)) else (none)) else (none)) else (dropperref05_Isolates.l0 k (st : Int) (t : Int) l (wrap64 ((i : Int) + 1)) N S F)) := fun k => by
        rw [dropperref05_Isolates.l0, if_pos (by omega), if_pos (by omega), if_neg c1, if_neg c2, hv, cl, q]
        rfl
      by_cases c3 : i = 0
      · obtain ⟨b, e, hb⟩ := go (by omega)
        refine ⟨b, Ev.step (fun k => ?_) e, hb⟩
        rw [e0, if_neg (by omega), wsucc i (by omega)]
      · have e1 : wrap64 ((i : Int) - 1) = ((i - 1 : Nat) : Int) := by rw [w64 (by omega) (by omega)]; omega
        by_cases c4 : rd l (i : Int) ≤ rd l ((i - 1 : Nat) : Int)
        · exact no fun k => by rw [e0, if_pos (by omega), e1, if_pos (by omega), if_pos (by omega), if_pos c4]
        · obtain ⟨b, e, hb⟩ := go (by omega)
          refine ⟨b, Ev.step (fun k => ?_) e, hb⟩
          rw [e0, if_pos (by omega), e1, if_pos (by omega), if_pos (by omega), if_neg c4, wsucc i (by omega)]
include o hs ht in
theorem risolates_ev {l : List Int} (hl : l.length ≤ 20) : ∃ b : Bool, Ev (fun k => dropperref05_Isolates.f k N S F (st : Int) (t : Int) l) (b, 0) ∧ (b = true → ∃ s, cuts S F st t s ∧ (bl s).length ≤ l.length) := by
  obtain ⟨r, er, hr⟩ := why_ev o (st : Int) (t : Int)
  obtain rfl := hr.2 ⟨st, t, rfl, hs, rfl, by omega⟩
  obtain ⟨b, e, hb⟩ := risolates_l0 o hs ht hl l.length 0 (by omega) (by omega) ⟨[], by simp [il], .nil, fun j hj => absurd hj (by simp), fun j hj => absurd hj (by simp)⟩
  exact ⟨b, Ev.bind er e, hb⟩
include o hs ht hh in
theorem isolate_ev : ∃ c : Nat, Ev (fun k => feed_Isolate.f k N S F (st : Int) (t : Int)) (il (bl c), 0) ∧ Ev (fun k => feed_grid_least.f k N S F (st : Int) (t : Int)) (c : Int) ∧ cuts S F st t c ∧ ∀ s, cuts S F st t s → (bl c).length ≤ (bl s).length := by
  obtain ⟨c, e, hc, hm⟩ := least_ev o hs ht hh
  obtain ⟨b, eb, hb⟩ := home_ev (N := N) (S := S) o.f6 t
  have hb0 : b = false := by
    cases b with
    | false => rfl
    | true => exact absurd (hb.1 rfl) hh
  subst hb0
  refine ⟨c, Ev.bind (fasked_ev o hs (by omega) (by omega)) ?_, e, hc, hm⟩
  refine Ev.congr (fun k => if_pos rfl) (Ev.bind eb ?_)
  refine Ev.congr (fun k => if_neg (by decide)) (Ev.bind e ?_)
  exact Ev.bind (f := fun k t106 => some (t106, (0 : Int))) (list_ev (isSt_lt o.s10 hc.lt)) (Ev.now _)
theorem live_all : ((List.range 16).all fun m => m % 2 != 0 || ((bl m).length == 0) == (m == 0) && ((bl m).length != 1 || match bits_TrailingZeros.f (m : Int) with | some z => z != 0 | none => false)) = true := by decide +kernel
theorem live_loop {x : List Int} {n : Nat} (hn : n ≤ 8) (hx : x.length = n) (hp : ∀ v : Nat, v < n → ph (rd x (v : Int))) : ∀ (d i : Nat) (y : List Int), n - i = d → i ≤ n → y.length = i → (∀ v : Nat, v < i → (rd y (v : Int) = 0 ↔ rd x (v : Int) = 0)) →
    ∃ z : List Int, Ev (fun k => feed_grid_live.l0 k y x (x.length : Int) (i : Int)) z ∧ z.length = n ∧ ∀ v : Nat, v < n → (rd z (v : Int) = 0 ↔ rd x (v : Int) = 0) := by
  intro d
  induction d with
  | zero =>
    intro i y h1 hi hy h
    obtain rfl : i = n := by omega
    refine ⟨y, ev_some _ fun k => ?_, hy, h⟩
    rw [feed_grid_live.l0, if_neg (by omega)]
  | succ d ih =>
    intro i y h1 hi hy h
    obtain ⟨m, hm, hm1, hm2⟩ := hp i (by omega)
    have hz := List.all_eq_true.1 live_all m (List.mem_range.2 hm1)
    rw [hm2] at hz
    simp only [bne_self_eq_false, Bool.false_or, Bool.and_eq_true] at hz
    obtain ⟨z1, z2⟩ := hz
    have z1 : (bl m).length = 0 ↔ m = 0 := by
      rw [beq_iff_eq] at z1
      by_cases c : m = 0 <;> by_cases c2 : (bl m).length = 0 <;> simp_all
    have next : ∀ a : Int, (a = 0 ↔ m = 0) → ∃ z : List Int, Ev (fun k => feed_grid_live.l0 k (y ++ [a]) x (x.length : Int) ((i + 1 : Nat) : Int)) z ∧ z.length = n ∧ ∀ v : Nat, v < n → (rd z (v : Int) = 0 ↔ rd x (v : Int) = 0) := fun a ha => by
      refine ih (i + 1) _ (by omega) (by omega) (by rw [List.length_append, hy]; rfl) fun v hv => ?_
      have e : rd (y ++ [a]) (v : Int) = if v = i then a else rd y (v : Int) := by
        unfold rd
        rw [Int.toNat_natCast, List.getD_eq_getElem?_getD, List.getD_eq_getElem?_getD]
        by_cases c : v = i
        · rw [if_pos c, c, ← hy, List.getElem?_concat_length]; rfl
        · rw [if_neg c, List.getElem?_append_left (by omega)]
      rw [e]
      by_cases c : v = i
      · rw [if_pos c, c, hm]; omega
      · rw [if_neg c]; exact h v (by omega)
    have e0 : ∀ k, feed_grid_live.l0 (k + 1) y x (x.length : Int) (i : Int) = (if ((bl m).length : Int) = 0 then (feed_grid_live.l0 k (y ++ [0]) x (x.length : Int) ((i + 1 : Nat) : Int)) else (if ((bl m).length : Int) = 1 then ((bits_TrailingZeros.f (m : Int)).bind fun t110 => (feed_grid_live.l0 k (y ++ [t110]) x (x.length : Int) ((i + 1 : Nat) : Int))) else (feed_grid_live.l0 k (y ++ [(-1)]) x (x.length : Int) ((i + 1 : Nat) : Int)))) := fun k => by
      have e1 : y.length < 17592186044416 := by omega
      rw [feed_grid_live.l0, if_pos (by omega), if_pos (by omega), if_pos (by omega), hm, count_all m (by omega), wsucc i (by omega)]
      simp only [Option.bind_some, e1, if_true]
    by_cases c1 : (bl m).length = 0
    · obtain ⟨z, e, hz⟩ := next 0 ⟨fun _ => z1.1 c1, fun _ => rfl⟩
      exact ⟨z, Ev.step (fun k => by rw [e0, if_pos (by omega)]) e, hz⟩
    by_cases c2 : (bl m).length = 1
    · cases q : bits_TrailingZeros.f (m : Int) with
      | none => rw [q, c2] at z2; exact absurd z2 (by decide)
      | some a =>
        rw [q, c2] at z2
        have z2 : a ≠ 0 := by simpa using z2
        obtain ⟨z, e, hz⟩ := next a ⟨fun h => absurd h z2, fun h => absurd (z1.2 h) c1⟩
        exact ⟨z, Ev.step (fun k => by rw [e0, if_neg (by omega), if_pos (by omega), q]; rfl) e, hz⟩
    · obtain ⟨z, e, hz⟩ := next (-1) ⟨fun h => absurd h (by decide), fun h => absurd (z1.2 h) c1⟩
      exact ⟨z, Ev.step (fun k => by rw [e0, if_neg (by omega), if_neg (by omega)]) e, hz⟩
include o hs ht in
theorem live_ev : ∃ l : List Int, Ev (fun k => feed_Live.f k N S F (st : Int)) (l, 0) ∧ l.length = N.toNat ∧ (rd l (t : Int) = 0 ↔ ¬ lv S F st t) := by
  obtain ⟨x, e, h⟩ := fed_ev o (isSt_lt o.s10 hs)
  have h8 := o.n8
  obtain ⟨l, el, hl, h2⟩ := live_loop (n := N.toNat) (by omega) h.len h.ok N.toNat 0 [] (by omega) (by omega) rfl (by omega)
  refine ⟨l, Ev.bind (open_ev o hs) (Ev.congr (fun k => if_pos rfl) (Ev.bind (f := fun k t104 => some (t104, (0 : Int))) (Ev.bind e el) (Ev.now _))), hl, (h2 t ht).trans ?_⟩
  rw [← h.iff t ht, Decidable.not_not]
end
end Go.Proofs.YtbbjonbnmoomlaaDoor.G
end
