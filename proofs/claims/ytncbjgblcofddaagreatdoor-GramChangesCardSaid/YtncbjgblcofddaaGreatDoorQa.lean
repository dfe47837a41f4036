/- Joined: Eng, Ops, Mem, App, Ty. -/
import Derived.Orders
import Derived.Tactics
import Derived.Below
import Derived.KernelRfl
import Derived.Deep.LoopGhost
import Derived.WalkKit
import Derived.Laws.BitsAllLaws
import Derived.Laws.MakeOwn
import Derived.Laws.AppendOwn
import Derived.Laws.OwnMore
import Derived.Maps.AppendAt
import Derived.Lib.SliceRun
import Derived.Test.YtncbjgblcofddaaGreatDoorProg
/- The walk's engine: frames as functions,one judgement for an operation,one for a region (in a fixed order; where the order is drawn: one order serves for all). Over any program. -/
namespace Go.Eng
open Go Go.RowKit
abbrev Fr:=Nat→Value
def upd (f:Fr) (d:Nat) (v:Value):Fr:=fun i=>bif Nat.beq i d then v else f i
def updO (f:Fr):Option Nat→Value→Fr
 | some d,v=>upd f d v
 | none,_=>f
def act (n:Nat) (f:Fr):Act:=⟨Array.ofFn (n:=n) fun i=>f i.val,[]⟩
def ev (n:Nat) (f:Fr):Operand→Value
 | .tmp t=>bif Nat.blt t n then f t else undef
 | .const v=>v
 | .global g=>.pointer (some ⟨g,0,none⟩)
 | .func g=>.func (.func g) #[] #[]
theorem beq_ne {i d:Nat} (h:i ≠ d):Nat.beq i d = false:=by
 cases hb:Nat.beq i d with
 | false=>rfl
 | true=>exact absurd (Nat.eq_of_beq_eq_true hb) h
theorem upd_same (f:Fr) (d:Nat) (v:Value):upd f d v d = v:=by simp [upd,Nat.beq_refl]
theorem upd_ne (f:Fr) {d i:Nat} (v:Value) (h:i ≠ d):upd f d v i = f i:=by simp [upd,beq_ne h]
theorem upd_id {f:Fr} {d:Nat} {v:Value} (h:f d = v):upd f d v = f:=by
 funext i
 by_cases e:i = d
 · subst e; rw [upd_same,h]
 · rw [upd_ne f v e]
theorem ui {f:Fr} {d:Nat} {v:Value} (h:f d = v):f = upd f d v:=(upd_id h).symm
theorem act_eval (n:Nat) (f:Fr):(act n f).eval = ev n f:=by
 funext x
 cases x with
 | tmp t =>
  simp only [Act.eval,act,ev]
  by_cases h:t < n
  · have hb:Nat.blt t n = true:=by simpa [Nat.blt_eq] using h
    simp [hb,h,Array.getD]
  · have hb:Nat.blt t n = false:=by
     cases e:Nat.blt t n with
     | false=>rfl
     | true=>exact absurd (by simpa using e) h
    simp [hb,h,Array.getD]
 | const v=>rfl
 | global g=>rfl
 | func g=>rfl
theorem act_put (n:Nat) (f:Fr) (d:Option Nat) (v:Value):(act n f).put d v = act n (updO f d v):=by
 cases d with
 | none=>rfl
 | some d =>
  simp only [Act.put,act,updO]
  congr 1
  apply Array.ext_getElem?
  intro i
  by_cases h:d = i
  · subst h
    by_cases hi:d < n <;> simp [hi,upd_same]
  · rw [Array.getElem?_setIfInBounds_ne h]
    by_cases hi:i < n <;> simp [hi,upd_ne f v (Ne.symm h)]
theorem wp_monoQ {P:Program} {o:Oper} {a:Act} {w:World} {K:Act→World→Prop} {Q Q':Exit→Act→World→Prop}
 (h:∀ e a w,Q e a w→Q' e a w) (hh:o.wp P a w K Q):o.wp P a w K Q':=by
 unfold Oper.wp at *
 generalize (execOp a.eval o).run P w = r at *
 cases r with
 | ok n w' =>
  cases n <;> simp only [Oper.upon] at hh ⊢
  case value=>exact hh
  case skip=>exact hh
  case defer=>exact hh
  case enter =>
   refine Calls.mono hh fun e w'' he=>?_
   cases e with
   | returned u=>exact he
   | panicked c=>exact h _ _ _ he
   | outgrown=>obtain ⟨a,w,hq⟩:=he; exact ⟨a,w,h _ _ _ hq⟩
  case row=>exact hh
 | halt x w' =>
  cases x <;> simp only [Oper.upon] at hh ⊢
  case panic=>exact h _ _ _ hh
def QF:Exit→Act→World→Prop:=fun _ _ _=>False
theorem QF_imp {Q:Exit→Act→World→Prop}:∀ e a w,QF e a w→Q e a w:=fun _ _ _ h=>h.elim
def R1 (P:Program) (n:Nat) (S:World→World→Prop) (k:Nat) (o:Oper) (K:Fr→World→Prop) (f:Fr) (w:World):Prop :=
 if k = 0 then ∃ v,(∀ w',S w w' ∨ w' = w→(execOp (ev n f) o).run P w' = .ok (.value v) w')∧K (updO f o.dst v) w
 else if k = 3 then ∃ v,(∀ w',(execOp (ev n f) o).run P w' = .ok (.value v) w')∧K (updO f o.dst v) w
 else o.wp P (act n f) w (fun a' w'=>∃ f',a' = act n f'∧(k = 2 ∨ w' = w ∨ S w w')∧K f' w') QF
section
variable {P:Program} {n:Nat} {S:World→World→Prop} {k:Nat} {o:Oper} {K:Fr→World→Prop} {f:Fr} {w:World}
theorem R1_pure {v:Value} (h:∀ w,(execOp (ev n f) o).run P w = .ok (.value v) w) (hk:K (updO f o.dst v) w):R1 P n S k o K f w:=by
 unfold R1
 split
 · exact ⟨v,fun w' _=>h w',hk⟩
 · split
   · exact ⟨v,fun w'=>h w',hk⟩
   · unfold Oper.wp
     rw [act_eval,h w,Oper.upon_value,act_put]
     exact ⟨_,rfl,.inr (.inl rfl),hk⟩
theorem R1_read {v:Value} (h3:k ≠ 3) (h:∀ w',S w w' ∨ w' = w→(execOp (ev n f) o).run P w' = .ok (.value v) w') (hk:K (updO f o.dst v) w):R1 P n S k o K f w:=by
 unfold R1
 split
 · exact ⟨v,h,hk⟩
 · unfold Oper.wp
   rw [act_eval,h w (.inr rfl),Oper.upon_value,act_put]
   exact ⟨_,rfl,.inr (.inl rfl),hk⟩
theorem R1_loud {v:Value} {w':World} (h0:k = 2 ∨ k = 1∧S w w') (h:(execOp (ev n f) o).run P w = .ok (.value v) w') (hk:K (updO f o.dst v) w'):R1 P n S k o K f w:=by
 unfold R1
 rw [if_neg (by omega),if_neg (by omega)]
 unfold Oper.wp
 rw [act_eval,h,Oper.upon_value,act_put]
 exact ⟨_,rfl,h0.imp id fun h=>.inr h.2,hk⟩
theorem R1_skip {w':World} (h0:k = 2 ∨ k = 1∧S w w') (hd:o.dst = none) (h:(execOp (ev n f) o).run P w = .ok .skip w') (hk:K f w'):R1 P n S k o K f w:=by
 unfold R1
 rw [if_neg (by omega),if_neg (by omega)]
 unfold Oper.wp
 rw [act_eval,h,Oper.upon_skip,act_put,hd]
 exact ⟨_,rfl,h0.imp id fun h=>.inr h.2,hk⟩
theorem R1_enter {g:FuncId} {args:Array Value} {R:Ending→World→Prop} (h0:k = 2 ∨ k = 1) (h:(execOp (ev n f) o).run P w = .ok (.enter g args) w)
 (hc:Calls P g args w R) (hk:∀ e w',R e w'→∃ v,e = .returned v∧(k = 1→S w w')∧K (updO f o.dst v) w'):R1 P n S k o K f w:=by
 unfold R1
 rw [if_neg (by omega),if_neg (by omega)]
 unfold Oper.wp
 rw [act_eval,h,Oper.upon_enter]
 refine hc.mono fun e w' hr=>?_
 obtain ⟨v,rfl,hs,hk⟩:=hk e w' hr
 simp only []
 rw [act_put]
 exact ⟨_,rfl,h0.imp id fun h=>.inr (hs h),hk⟩
theorem R1.wp (hk:k ≠ 0∧k ≠ 3) (h:R1 P n S k o K f w):o.wp P (act n f) w (fun a' w'=>∃ f',a' = act n f'∧(k = 2 ∨ w' = w ∨ S w w')∧K f' w') QF:=by
 unfold R1 at h
 rwa [if_neg hk.1,if_neg hk.2] at h
end
def want (n:Nat) (ops:Array Oper) (f:Fr) (o:Oper):Bool:=Region.wanted o (yielded ops (act n f).tmps)
def Rl (P:Program) (n:Nat) (ops:Array Oper) (K:Fr→World→Prop):List Oper→Fr→World→Prop
 | [],f,w=>K f w
 | o :: rest,f,w=>if want n ops f o then R1 P n (fun _ _=>False) 2 o (Rl P n ops K rest) f w else Rl P n ops K rest (updO f o.dst undef) w
def Ro (P:Program) (n:Nat) (ops:Array Oper) (S:World→World→Prop) (K:Fr→World→Prop):List (Nat × Nat)→Fr→World→Prop
 | [],f,w=>K f w
 | (i,k) :: rest,f,w=>∃ o,ops[i]? = some o∧if want n ops f o then R1 P n S k o (Ro P n ops S K rest) f w else Ro P n ops S K rest (updO f o.dst undef) w
section
variable {P:Program} {n:Nat} {ops:Array Oper} {S:World→World→Prop} {K:Fr→World→Prop} {f:Fr} {w:World} {o:Oper} {rest:List Oper}
theorem want_none (h:o.guard = none):want n ops f o = true:=by simp [want,Region.wanted,h]
theorem want_of {j:Nat} {b c:Bool} {t:Tmp} (h:o.guard = some (j,b)) (hj:(ops[j]?).bind (·.dst) = some t) (ht:ev n f (.tmp t) = .bool c) (hn:Nat.blt t n = true):want n ops f o = (c == b):=by
 have hlt:t < n:=by simpa using hn
 have hv:f t = .bool c:=by simpa [ev,hn] using ht
 simp [want,Region.wanted,h,yielded,hj,act,hlt,hv]
theorem Rl_nil (h:K f w):Rl P n ops K [] f w:=h
theorem Rl_head (hg:o.guard = none) (h:R1 P n (fun _ _=>False) 2 o (Rl P n ops K rest) f w):Rl P n ops K (o :: rest) f w:=by
 unfold Rl; rw [want_none hg]; exact h
theorem Rl_yes {j:Nat} {b:Bool} {t:Tmp} (h:o.guard = some (j,b)) (hj:(ops[j]?).bind (·.dst) = some t) (ht:ev n f (.tmp t) = .bool b) (hn:Nat.blt t n = true)
 (hr:R1 P n (fun _ _=>False) 2 o (Rl P n ops K rest) f w):Rl P n ops K (o :: rest) f w:=by
 unfold Rl; rw [want_of h hj ht hn]; simpa using hr
theorem Rl_no {j:Nat} {b c:Bool} {t:Tmp} (h:o.guard = some (j,b)) (hj:(ops[j]?).bind (·.dst) = some t) (ht:ev n f (.tmp t) = .bool c) (hn:Nat.blt t n = true) (hc:(c == b) = false)
 (hr:Rl P n ops K rest (updO f o.dst undef) w):Rl P n ops K (o :: rest) f w:=by
 unfold Rl; rw [want_of h hj ht hn,hc]; simpa using hr
theorem Ro_nil (h:K f w):Ro P n ops S K [] f w:=h
theorem Ro_head {i k:Nat} {ord:List (Nat × Nat)} (ho:ops[i]? = some o) (hg:o.guard = none) (h:R1 P n S k o (Ro P n ops S K ord) f w):Ro P n ops S K ((i,k) :: ord) f w:=by
 unfold Ro; exact ⟨o,ho,by rw [want_none hg]; exact h⟩
theorem Ro_yes {i k:Nat} {ord:List (Nat × Nat)} {j:Nat} {b:Bool} {t:Tmp} (ho:ops[i]? = some o) (h:o.guard = some (j,b)) (hj:(ops[j]?).bind (·.dst) = some t) (ht:ev n f (.tmp t) = .bool b) (hn:Nat.blt t n = true)
 (hr:R1 P n S k o (Ro P n ops S K ord) f w):Ro P n ops S K ((i,k) :: ord) f w:=by
 unfold Ro; refine ⟨o,ho,?_⟩; rw [want_of h hj ht hn]; simpa using hr
theorem Ro_no {i k:Nat} {ord:List (Nat × Nat)} {j:Nat} {b c:Bool} {t:Tmp} (ho:ops[i]? = some o) (h:o.guard = some (j,b)) (hj:(ops[j]?).bind (·.dst) = some t) (ht:ev n f (.tmp t) = .bool c) (hn:Nat.blt t n = true) (hc:(c == b) = false)
 (hr:Ro P n ops S K ord (updO f o.dst undef) w):Ro P n ops S K ((i,k) :: ord) f w:=by
 unfold Ro; refine ⟨o,ho,?_⟩; rw [want_of h hj ht hn,hc]; simpa using hr
theorem Ro_headL {l:List Oper} {i k:Nat} {ord:List (Nat × Nat)} (ho:l[i]? = some o) (hg:o.guard = none) (h:R1 P n S k o (Ro P n l.toArray S K ord) f w):Ro P n l.toArray S K ((i,k) :: ord) f w :=
 Ro_head (by simpa using ho) hg h
theorem Ro_yesL {l:List Oper} {i k:Nat} {ord:List (Nat × Nat)} {j:Nat} {b:Bool} {t:Tmp} (ho:l[i]? = some o) (h:o.guard = some (j,b)) (hj:(l[j]?).bind (·.dst) = some t) (ht:ev n f (.tmp t) = .bool b) (hn:Nat.blt t n = true)
 (hr:R1 P n S k o (Ro P n l.toArray S K ord) f w):Ro P n l.toArray S K ((i,k) :: ord) f w :=
 Ro_yes (by simpa using ho) h (by simpa using hj) ht hn hr
theorem Ro_noL {l:List Oper} {i k:Nat} {ord:List (Nat × Nat)} {j:Nat} {b c:Bool} {t:Tmp} (ho:l[i]? = some o) (h:o.guard = some (j,b)) (hj:(l[j]?).bind (·.dst) = some t) (ht:ev n f (.tmp t) = .bool c) (hn:Nat.blt t n = true) (hc:(c == b) = false)
 (hr:Ro P n l.toArray S K ord (updO f o.dst undef) w):Ro P n l.toArray S K ((i,k) :: ord) f w :=
 Ro_no (by simpa using ho) h (by simpa using hj) ht hn hc hr
theorem Rl_yesT {j:Nat} {t:Tmp} {p:Prop} {inst:Decidable p} (h:o.guard = some (j,true)) (hj:(ops[j]?).bind (·.dst) = some t) (ht:ev n f (.tmp t) = .bool (@decide p inst)) (hn:Nat.blt t n = true) (hp:p)
 (hr:R1 P n (fun _ _=>False) 2 o (Rl P n ops K rest) f w):Rl P n ops K (o :: rest) f w :=
 Rl_yes h hj (by rw [ht,decide_eq_true hp]) hn hr
theorem Rl_noT {j:Nat} {t:Tmp} {p:Prop} {inst:Decidable p} (h:o.guard = some (j,true)) (hj:(ops[j]?).bind (·.dst) = some t) (ht:ev n f (.tmp t) = .bool (@decide p inst)) (hn:Nat.blt t n = true) (hp:¬ p)
 (hr:Rl P n ops K rest (updO f o.dst undef) w):Rl P n ops K (o :: rest) f w :=
 Rl_no h hj (by rw [ht,decide_eq_false hp]) hn rfl hr
theorem Rl_yesF {j:Nat} {t:Tmp} {p:Prop} {inst:Decidable p} (h:o.guard = some (j,false)) (hj:(ops[j]?).bind (·.dst) = some t) (ht:ev n f (.tmp t) = .bool (@decide p inst)) (hn:Nat.blt t n = true) (hp:¬ p)
 (hr:R1 P n (fun _ _=>False) 2 o (Rl P n ops K rest) f w):Rl P n ops K (o :: rest) f w :=
 Rl_yes h hj (by rw [ht,decide_eq_false hp]) hn hr
theorem Rl_noF {j:Nat} {t:Tmp} {p:Prop} {inst:Decidable p} (h:o.guard = some (j,false)) (hj:(ops[j]?).bind (·.dst) = some t) (ht:ev n f (.tmp t) = .bool (@decide p inst)) (hn:Nat.blt t n = true) (hp:p)
 (hr:Rl P n ops K rest (updO f o.dst undef) w):Rl P n ops K (o :: rest) f w :=
 Rl_no h hj (by rw [ht,decide_eq_true hp]) hn rfl hr
theorem Ro_yesT {l:List Oper} {i k:Nat} {ord:List (Nat × Nat)} {j:Nat} {t:Tmp} {p:Prop} {inst:Decidable p} (ho:l[i]? = some o) (h:o.guard = some (j,true)) (hj:(l[j]?).bind (·.dst) = some t) (ht:ev n f (.tmp t) = .bool (@decide p inst)) (hn:Nat.blt t n = true) (hp:p)
 (hr:R1 P n S k o (Ro P n l.toArray S K ord) f w):Ro P n l.toArray S K ((i,k) :: ord) f w :=
 Ro_yesL ho h hj (by rw [ht,decide_eq_true hp]) hn hr
theorem Ro_noT {l:List Oper} {i k:Nat} {ord:List (Nat × Nat)} {j:Nat} {t:Tmp} {p:Prop} {inst:Decidable p} (ho:l[i]? = some o) (h:o.guard = some (j,true)) (hj:(l[j]?).bind (·.dst) = some t) (ht:ev n f (.tmp t) = .bool (@decide p inst)) (hn:Nat.blt t n = true) (hp:¬ p)
 (hr:Ro P n l.toArray S K ord (updO f o.dst undef) w):Ro P n l.toArray S K ((i,k) :: ord) f w :=
 Ro_noL ho h hj (by rw [ht,decide_eq_false hp]) hn rfl hr
theorem Ro_yesF {l:List Oper} {i k:Nat} {ord:List (Nat × Nat)} {j:Nat} {t:Tmp} {p:Prop} {inst:Decidable p} (ho:l[i]? = some o) (h:o.guard = some (j,false)) (hj:(l[j]?).bind (·.dst) = some t) (ht:ev n f (.tmp t) = .bool (@decide p inst)) (hn:Nat.blt t n = true) (hp:¬ p)
 (hr:R1 P n S k o (Ro P n l.toArray S K ord) f w):Ro P n l.toArray S K ((i,k) :: ord) f w :=
 Ro_yesL ho h hj (by rw [ht,decide_eq_false hp]) hn hr
theorem Ro_noF {l:List Oper} {i k:Nat} {ord:List (Nat × Nat)} {j:Nat} {t:Tmp} {p:Prop} {inst:Decidable p} (ho:l[i]? = some o) (h:o.guard = some (j,false)) (hj:(l[j]?).bind (·.dst) = some t) (ht:ev n f (.tmp t) = .bool (@decide p inst)) (hn:Nat.blt t n = true) (hp:p)
 (hr:Ro P n l.toArray S K ord (updO f o.dst undef) w):Ro P n l.toArray S K ((i,k) :: ord) f w :=
 Ro_noL ho h hj (by rw [ht,decide_eq_true hp]) hn rfl hr
theorem Rl_sound {Q:Exit→Act→World→Prop} (hQ:∀ f w,K f w→Q .normal (act n f) w):∀ (l:List Oper) (f:Fr) (w:World),Rl P n ops K l f w→wpList P ops Q l (act n f) w:=by
 intro l
 induction l with
 | nil=>intro f w h; exact hQ f w h
 | cons o rest ih =>
  intro f w h
  unfold Rl at h
  unfold wpList
  change (if Region.wanted o (yielded ops (act n f).tmps) = true then _ else _) at h
  split
  · rename_i hw
    rw [if_pos hw] at h
    refine .inl (Oper.wp_mono (fun a' w' h'=>?_) (wp_monoQ QF_imp (h.wp (by omega))))
    obtain ⟨f',rfl,_,hk⟩:=h'
    exact ih f' w' hk
  · rename_i hw
    rw [if_neg hw] at h
    rw [act_put]
    exact ih _ _ h
end
def waits (ops:Array Oper) (o:Oper) (j:Nat):Bool :=
 o.after.any fun e=>Region.binds .any e && (e.on == j || match ops[e.on]? with | none=>false | some u=>u.after.any fun e'=>Region.binds .any e' && e'.on == j)
def bar (ops:Array Oper) (H:List Nat) (listed:Array Bool) (i:Nat):Bool :=
 match ops[i]? with
 | none=>false
 | some o=>H.all fun j=>!listed.getD j false || waits ops o j
def Closed (ops:Array Oper) (listed:Array Bool):Prop:=∀ (a:Nat) (u:Oper),ops[a]? = some u→listed.getD a false = true→∀ e ∈ u.after,Region.binds .any e = true→listed.getD e.on false = true
theorem bar_spec {ops:Array Oper} {H:List Nat} {listed:Array Bool} {i j:Nat} {o:Oper} (ho:ops[i]? = some o) (hb:bar ops H listed i = true) (hj:H.contains j = true) (hl:listed.getD j false = true) :
 ∃ e ∈ o.after,Region.binds .any e = true∧(e.on = j ∨ ∃ u,ops[e.on]? = some u∧∃ e' ∈ u.after,Region.binds .any e' = true∧e'.on = j):=by
 simp only [bar,ho,List.all_eq_true] at hb
 have h:=hb j (by simpa using hj)
 rw [hl] at h
 simp only [Bool.not_true,Bool.false_or] at h
 unfold waits at h
 obtain ⟨e,he,h2⟩:=Array.any_eq_true'.1 h
 simp only [Bool.and_eq_true,Bool.or_eq_true,beq_iff_eq] at h2
 refine ⟨e,he,h2.1,h2.2.imp id fun h3=>?_⟩
 split at h3
 · cases h3
 · rename_i u hu
   obtain ⟨e',he',h4⟩:=Array.any_eq_true'.1 h3
   simp only [Bool.and_eq_true,beq_iff_eq] at h4
   exact ⟨u,hu,e',he',h4.1,h4.2⟩
theorem closed_none (ops:Array Oper):Closed ops (Array.replicate ops.size false):=fun a u _ h=>by
 by_cases ha:a < ops.size <;> simp [ha] at h
theorem closed_set {ops:Array Oper} {listed:Array Bool} {i:Nat} (h:Closed ops listed) (hi:i ∈ Region.ready .any ops listed):Closed ops (listed.setIfInBounds i true):=by
 have mono:∀ x,listed.getD x false = true→(listed.setIfInBounds i true).getD x false = true:=fun x hx=>by
  by_cases hxi:i = x
  · subst hxi
    have hlt:i < listed.size:=by
     rcases Nat.lt_or_ge i listed.size with h' | h'
     · exact h'
     · simp [Array.getD,Nat.not_lt.2 h'] at hx
    simp [hlt]
  · rw [getD_set_ne false hxi]; exact hx
 intro a u ha hl e he hb
 obtain ⟨_,oi,hoi,hall⟩:=mem_ready.1 hi
 by_cases hai:i = a
 · subst hai
   rw [hoi] at ha
   cases ha
   have h1:=hall e he hb
   refine mono _ ?_
   rcases Nat.lt_or_ge e.on listed.size with h' | h'
   · simp [h'] at h1 ⊢; exact h1
   · simp [Array.getElem?_eq_none h'] at h1
 · rw [getD_set_ne false hai] at hl
   exact mono _ (h a u ha hl e he hb)
def wpE (P:Program) (ops:Array Oper) (H:List Nat) (Q:Exit→Act→World→Prop) (S:World→World→Prop):Nat→Array Bool→Act→World→Prop
 | 0,listed,a,w=>Region.ready .any ops listed = []∧Q .normal a w
 | fuel + 1,listed,a,w =>
  (Region.ready .any ops listed = []→Q .normal a w) ∧
  ∀ i ∈ Region.ready .any ops listed,wpOp P ops Q i (fun a' w'=>(bar ops H listed i = true ∨ w' = w ∨ S w w')∧wpE P ops H Q S fuel (listed.setIfInBounds i true) a' w') a w
section
variable {P:Program} {ops:Array Oper} {H:List Nat} {Q:Exit→Act→World→Prop} {S:World→World→Prop}
theorem wpE_any:∀ (fuel:Nat) (listed:Array Bool) (a:Act) (w:World),wpE P ops H Q S fuel listed a w→wpAny P .any ops Q fuel listed a w:=by
 intro fuel
 induction fuel with
 | zero=>intro listed a w h; exact h
 | succ fuel ih=>intro listed a w h; exact ⟨h.1,fun i hi=>wpOp_mono (fun a' w' h'=>ih _ a' w' h'.2) (h.2 i hi)⟩
theorem wpOp_comm {j:Nat} {oi oj:Oper} {v:Value} (hj:ops[j]? = some oj) (hap:oi.apart ops oj = true)
 (hsi:∀ cs b,oi.op ≠ .select cs b) (hsj:∀ cs b,oj.op ≠ .select cs b)
 (hQ:∀ c a w,¬ Q (.panic c) a w) {K:Act→World→Prop} {a:Act} {w:World} (h:wpOp P ops Q j K (a.put oi.dst v) w) :
 wpOp P ops Q j (fun a' w'=>(execOp a'.eval oi = execOp a.eval oi∧Region.wanted oi (yielded ops a'.tmps) = Region.wanted oi (yielded ops a.tmps))∧K (a'.put oi.dst v) w') a w:=by
 obtain ⟨h1,h2,h3⟩:=Oper.apart_spec hap
 have keep:∀ (a0:Act) (u:Value),execOp (a0.put oj.dst u).eval oi = execOp a0.eval oi∧Region.wanted oi (yielded ops (a0.put oj.dst u).tmps) = Region.wanted oi (yielded ops a0.tmps):=fun a0 u =>
  ⟨execOp_put oi hsi a0 oj.dst u h3,wanted_put oi a0 oj.dst u h3⟩
 unfold wpOp at *
 simp only [hj] at *
 rw [wanted_put oj a oi.dst v h1] at h
 split
 · rename_i hw
   simp only [hw,if_true] at h
   rcases h with h | ⟨hasks,hlets⟩
   case inr=>exact .inr ⟨by unfold Oper.asks at *; rw [execOp_put oj hsj a oi.dst v h1] at hasks; exact hasks,hlets⟩
   refine .inl ?_
   unfold Oper.wp at *
   rw [execOp_put oj hsj a oi.dst v h1] at h
   generalize (execOp a.eval oj).run P w = r at *
   cases r with
   | ok n w' =>
    cases n <;> simp only [Oper.upon] at h ⊢
    case value u=>exact ⟨keep a u,by rw [← Act.put_comm a v u h2]; exact h⟩
    case skip=>exact ⟨keep a _,by rw [← Act.put_comm a v undef h2]; exact h⟩
    case defer d =>
     refine ⟨?_,?_⟩
     · have:=keep { a with defers:=d :: a.defers } undef
       exact this
     · rw [← Act.put_comm _ v undef h2,← Act.put_defers]
       exact h
    case enter f args =>
     refine Calls.mono h fun e w'' he=>?_
     cases e with
     | returned u=>exact ⟨keep a u,by rw [← Act.put_comm a v u h2]; exact he⟩
     | panicked c=>exact absurd he (hQ _ _ _)
     | outgrown=>exact he
    case row row args=>exact Rows.mono h fun u w'' he=>⟨keep a u,by rw [← Act.put_comm a v u h2]; exact he⟩
   | halt x w' =>
    cases x <;> simp only [Oper.upon] at h ⊢
    case panic u=>exact absurd h (hQ _ _ _)
 · rename_i hw
   simp only [hw] at h
   exact ⟨keep a _,by rw [← Act.put_comm a v undef h2]; exact h⟩
def YS (P:Program) (ops:Array Oper) (S:World→World→Prop) (o:Oper) (v:Value) (a:Act) (w:World):Prop :=
 (Region.wanted o (yielded ops a.tmps) = true∧∀ w',S w w' ∨ w' = w→(execOp a.eval o).run P w' = .ok (.value v) w') ∨
 (Region.wanted o (yielded ops a.tmps) = false∧v = undef)
theorem YS.wpOp {i:Nat} {o:Oper} {v:Value} {a:Act} {w:World} (hi:ops[i]? = some o) (hy:YS P ops S o v a w)
 {K:Act→World→Prop} (h:K (a.put o.dst v) w):wpOp P ops Q i K a w:=by
 unfold Go.wpOp
 simp only [hi]
 rcases hy with ⟨hw,hv⟩ | ⟨hw,rfl⟩
 · simp only [hw,if_true,Oper.wp,hv w (.inr rfl),Oper.upon]; exact .inl h
 · simp only [hw,Bool.false_eq_true,if_false]; exact h
theorem YS.later (hT:∀ a b c,S a b→S b c→S a c) {o:Oper} {v:Value} {a a':Act} {w w':World} (hy:YS P ops S o v a w) (hs:w' = w ∨ S w w')
 (he:execOp a'.eval o = execOp a.eval o) (hw:Region.wanted o (yielded ops a'.tmps) = Region.wanted o (yielded ops a.tmps)):YS P ops S o v a' w':=by
 unfold YS at *
 rw [he,hw]
 rcases hy with ⟨h1,h2⟩ | h
 · refine .inl ⟨h1,fun w'' h''=>h2 w'' ?_⟩
   rcases hs with rfl | hs
   · exact h''
   · rcases h'' with h'' | rfl
     · exact .inl (hT _ _ _ hs h'')
     · exact .inl hs
 · exact .inr h
theorem wpE_first {S':World→World→Prop} (hT:∀ a b c,S' a b→S' b c→S' a c) (hSS:∀ a b,S a b→S' a b) {i:Nat} (hH:H.contains i = true ∨ ∀ a b,S' a b) {oi:Oper} {v:Value} (hi:ops[i]? = some oi) (hsel:∀ (j:Nat) (o:Oper) cs b,ops[j]? = some o→o.op ≠ .select cs b)
 (hQ:∀ c a w,¬ Q (.panic c) a w) :
 ∀ (fuel:Nat) (listed:Array Bool) (a:Act) (w:World),listed.size = ops.size→Closed ops listed →
  (∀ j oj,ops[j]? = some oj→j ≠ i→listed.getD j true = false→(∀ e ∈ oj.after,Region.binds .any e = true→e.on ≠ i)→oi.apart ops oj = true) →
  i ∈ Region.ready .any ops listed→YS P ops S' oi v a w →
  wpE P ops H Q S fuel (listed.setIfInBounds i true) (a.put oi.dst v) w→wpE P ops H Q S (fuel + 1) listed a w:=by
 have hilt:i < ops.size:=(Array.getElem?_eq_some_iff.1 hi).1
 intro fuel
 induction fuel with
 | zero =>
  intro listed a w _ _ _ hr hy HH
  refine ⟨fun h=>(by rw [h] at hr; cases hr),fun j hj=>?_⟩
  by_cases hji:j = i
  · subst hji; exact hy.wpOp hi ⟨.inr (.inl rfl),HH⟩
  · have:=ready_mono hj hji
    rw [HH.1] at this
    cases this
 | succ fuel ih =>
  intro listed a w hsz hcl hfree hr hy HH
  refine ⟨fun h=>(by rw [h] at hr; cases hr),fun j hj=>?_⟩
  by_cases hji:j = i
  · subst hji; exact hy.wpOp hi ⟨.inr (.inl rfl),HH⟩
  · have h1:=HH.2 j (ready_mono hj hji)
    obtain ⟨hjun,oj,hoj,hall⟩:=mem_ready.1 hj
    have hnot:∀ e ∈ oj.after,Region.binds .any e = true→e.on ≠ i:=fun e he hb heq=>by
     have h1:=hall e he hb
     have h0:=(mem_ready.1 hr).1
     rw [heq] at h1
     rcases Nat.lt_or_ge i listed.size with h' | h'
     · simp [h'] at h0 h1; rw [h0] at h1; cases h1
     · simp [Array.getElem?_eq_none h'] at h1
    have h2:=wpOp_comm hoj (hfree j oj hoj hji hjun hnot) (fun cs b=>hsel i oi cs b hi) (fun cs b=>hsel j oj cs b hoj) hQ h1
    have hfree':∀ k ok,ops[k]? = some ok→k ≠ i→(listed.setIfInBounds j true).getD k true = false →
     (∀ e ∈ ok.after,Region.binds .any e = true→e.on ≠ i)→oi.apart ops ok = true:=fun k ok hk hki hun hno=>by
     refine hfree k ok hk hki ?_ hno
     by_cases hjk:j = k
     · subst hjk; exact hjun
     · rw [getD_set_ne true hjk] at hun; exact hun
    refine wpOp_mono (fun a' w' h3=>?_) h2
    obtain ⟨⟨he,hw⟩,hs,h4⟩:=h3
    have hs':w' = w ∨ S' w w':=by
     rcases hH with hH | hH
     · rcases hs with hb | hw' | hs
       · exfalso
         have hl:(listed.setIfInBounds i true).getD i false = true:=by simp [hsz,hilt]
         obtain ⟨e,he,hb,heq | ⟨u,hu,e',he',hb',heq⟩⟩:=bar_spec hoj hb hH hl
         · exact hnot e he hb heq
         · have h1:=hall e he hb
           have h2:listed.getD e.on false = true:=by
            rcases Nat.lt_or_ge e.on listed.size with h' | h'
            · simp [h'] at h1 ⊢; exact h1
            · simp [Array.getElem?_eq_none h'] at h1
           have h3:=hcl e.on u hu h2 e' he' hb'
           have h0:=(mem_ready.1 hr).1
           rw [heq] at h3
           have hlt:i < listed.size:=by rw [hsz]; exact hilt
           simp [hlt] at h0 h3
           rw [h0] at h3; cases h3
       · exact .inl hw'
       · exact .inr (hSS _ _ hs)
     · exact .inr (hH w w')
    have hmono:bar ops H (listed.setIfInBounds i true) j = true→bar ops H listed j = true:=fun hb=>by
     simp only [bar,hoj,List.all_eq_true] at hb ⊢
     intro x hx
     have:=hb x hx
     simp only [Bool.or_eq_true,Bool.not_eq_true'] at this ⊢
     rcases this with h | h
     · left
       by_cases hxi:i = x
       · subst hxi; simp [hsz,hilt] at h
       · rw [getD_set_ne false hxi] at h; exact h
     · exact .inr h
    refine ⟨hs.imp hmono id,ih (listed.setIfInBounds j true) a' w' (by simp [hsz]) (closed_set hcl hj) hfree' (ready_mono hr (Ne.symm hji)) (hy.later hT hs' he hw) ?_⟩
    rw [Array.setIfInBounds_comm _ _ hji]
    exact h4
def hot (ord:List (Nat × Nat)):List Nat:=ord.filterMap fun q=>if q.2 = 0 then some q.1 else none
def ordOk (ops:Array Oper) (H:List Nat):List (Nat × Nat)→Array Bool→Bool
 | [],listed=>(Region.ready .any ops listed).isEmpty
 | (i,0) :: rest,listed=>(Region.ready .any ops listed).contains i && Region.free .any ops listed i && H.contains i && ordOk ops H rest (listed.setIfInBounds i true)
 | (i,1) :: rest,listed=>Region.ready .any ops listed == [i] && ordOk ops H rest (listed.setIfInBounds i true)
 | (i,2) :: rest,listed=>Region.ready .any ops listed == [i] && bar ops H listed i && ordOk ops H rest (listed.setIfInBounds i true)
 | (i,3) :: rest,listed=>(Region.ready .any ops listed).contains i && Region.free .any ops listed i && ordOk ops H rest (listed.setIfInBounds i true)
 | (_,_ + 4) :: _,_=>false
theorem top_trans:∀ a b c:World,(fun _ _:World=>True) a b→(fun _ _:World=>True) b c→(fun _ _:World=>True) a c:=fun _ _ _ _ _=>trivial
def QK (n:Nat) (K:Fr→World→Prop):Exit→Act→World→Prop
 | .normal,a,w=>∃ f,a = act n f∧K f w
 | _,_,_=>False
theorem Ro_sound {n:Nat} {K:Fr→World→Prop} (hT:∀ a b c,S a b→S b c→S a c) (hsel:Region.noSelect ops = true) :
 ∀ (ord:List (Nat × Nat)) (listed:Array Bool) (f:Fr) (w:World),listed.size = ops.size→Closed ops listed→ordOk ops H ord listed = true→Ro P n ops S K ord f w →
  wpE P ops H (QK n K) S ord.length listed (act n f) w:=by
 intro ord
 induction ord with
 | nil =>
  intro listed f w _ _ hok h
  exact ⟨by simpa [ordOk] using hok,⟨f,rfl,h⟩⟩
 | cons ik rest ih =>
  obtain ⟨i,k⟩:=ik
  intro listed f w hsz hcl hok h
  unfold Ro at h
  obtain ⟨o,ho,h⟩:=h
  have hput:∀ v,(act n f).put o.dst v = act n (updO f o.dst v):=act_put n f o.dst
  match k,hok with
  | 0,hok =>
   simp only [ordOk,Bool.and_eq_true] at hok
   obtain ⟨⟨⟨hr,hfree⟩,hHi⟩,hok⟩:=hok
   have hr':i ∈ Region.ready .any ops listed:=by simpa using hr
   by_cases hw:want n ops f o = true
   · rw [if_pos hw] at h
     unfold R1 at h
     rw [if_pos rfl] at h
     obtain ⟨v,hv,hk⟩:=h
     refine wpE_first hT (fun _ _ h=>h) (.inl hHi) ho (Region.noSelect_spec hsel) (fun _ _ _ h=>h) _ listed (act n f) w hsz hcl (Region.free_spec ho hfree) hr' (v:=v) (.inl ⟨hw,fun w' hs=>?_⟩) ?_
     · rw [act_eval]; exact hv w' hs
     · rw [hput]; exact ih _ _ _ (by simp [hsz]) (closed_set hcl hr') hok hk
   · rw [if_neg hw] at h
     refine wpE_first hT (fun _ _ h=>h) (.inl hHi) ho (Region.noSelect_spec hsel) (fun _ _ _ h=>h) _ listed (act n f) w hsz hcl (Region.free_spec ho hfree) hr' (v:=undef) (.inr ⟨by simpa [want] using hw,rfl⟩) ?_
     rw [hput]; exact ih _ _ _ (by simp [hsz]) (closed_set hcl hr') hok h
  | 1,hok =>
   simp only [ordOk,Bool.and_eq_true,beq_iff_eq] at hok
   refine ⟨fun h0=>by simp [h0] at hok,fun j hj=>?_⟩
   have hrj:=hj
   rw [hok.1] at hj
   obtain rfl:j = i:=by simpa using hj
   unfold Go.wpOp
   simp only [ho]
   change (if want n ops f o = true then _ else _)
   by_cases hw:want n ops f o = true
   · rw [if_pos hw] at h ⊢
     refine .inl (Oper.wp_mono (fun a' w' h'=>?_) (wp_monoQ QF_imp (h.wp (by omega))))
     obtain ⟨f',rfl,hs,hk⟩:=h'
     exact ⟨.inr (hs.resolve_left (by omega)),ih _ _ _ (by simp [hsz]) (closed_set hcl hrj) hok.2 hk⟩
   · rw [if_neg hw] at h ⊢
     exact ⟨by simp,by rw [hput]; exact ih _ _ _ (by simp [hsz]) (closed_set hcl hrj) hok.2 h⟩
  | 2,hok =>
   simp only [ordOk,Bool.and_eq_true,beq_iff_eq] at hok
   refine ⟨fun h0=>by simp [h0] at hok,fun j hj=>?_⟩
   have hrj:=hj
   rw [hok.1.1] at hj
   obtain rfl:j = i:=by simpa using hj
   unfold Go.wpOp
   simp only [ho]
   change (if want n ops f o = true then _ else _)
   by_cases hw:want n ops f o = true
   · rw [if_pos hw] at h ⊢
     refine .inl (Oper.wp_mono (fun a' w' h'=>?_) (wp_monoQ QF_imp (h.wp (by omega))))
     obtain ⟨f',rfl,hs,hk⟩:=h'
     exact ⟨.inl hok.1.2,ih _ _ _ (by simp [hsz]) (closed_set hcl hrj) hok.2 hk⟩
   · rw [if_neg hw] at h ⊢
     exact ⟨.inl hok.1.2,by rw [hput]; exact ih _ _ _ (by simp [hsz]) (closed_set hcl hrj) hok.2 h⟩
  | 3,hok =>
   simp only [ordOk,Bool.and_eq_true] at hok
   obtain ⟨⟨hr,hfree⟩,hok⟩:=hok
   have hr':i ∈ Region.ready .any ops listed:=by simpa using hr
   by_cases hw:want n ops f o = true
   · rw [if_pos hw] at h
     unfold R1 at h
     rw [if_neg (by decide),if_pos rfl] at h
     obtain ⟨v,hv,hk⟩:=h
     refine wpE_first top_trans (fun _ _ _=>trivial) (.inr fun _ _=>trivial) ho (Region.noSelect_spec hsel) (fun _ _ _ h=>h) _ listed (act n f) w hsz hcl (Region.free_spec ho hfree) hr' (v:=v) (.inl ⟨hw,fun w' hs=>?_⟩) ?_
     · rw [act_eval]; exact hv w'
     · rw [hput]; exact ih _ _ _ (by simp [hsz]) (closed_set hcl hr') hok hk
   · rw [if_neg hw] at h
     refine wpE_first top_trans (fun _ _ _=>trivial) (.inr fun _ _=>trivial) ho (Region.noSelect_spec hsel) (fun _ _ _ h=>h) _ listed (act n f) w hsz hcl (Region.free_spec ho hfree) hr' (v:=undef) (.inr ⟨by simpa [want] using hw,rfl⟩) ?_
     rw [hput]; exact ih _ _ _ (by simp [hsz]) (closed_set hcl hr') hok h
  | _ + 4,hok=>simp [ordOk] at hok
end
def liftQ (n:Nat) (Q:Exit→Fr→World→Prop):Exit→Act→World→Prop:=fun e a w=>∃ f,a = act n f∧Q e f w
def W (P:Program) (n:Nat) (c:Code) (Q:Exit→Fr→World→Prop) (f:Fr) (w:World):Prop:=c.wp P (liftQ n Q) (act n f) w
def thenF (next:Fr→World→Prop) (Q:Exit→Fr→World→Prop):Exit→Fr→World→Prop
 | .normal,f,w=>next f w
 | e,f,w=>Q e f w
def blockF (id:Nat) (Q:Exit→Fr→World→Prop):Exit→Fr→World→Prop
 | .exit id',f,w=>if id' = id then Q .normal f w else Q (.exit id') f w
 | e,f,w=>Q e f w
section
variable {P:Program} {n:Nat} {Q:Exit→Fr→World→Prop} {f:Fr} {w:World}
theorem W_seq {x y:Code} (h:W P n x (thenF (W P n y Q) Q) f w):W P n (.seq x y) Q f w:=by
 unfold W at *
 refine wp_seq (Code.wp_mono (fun e a w hq=>?_) h)
 obtain ⟨f,rfl,hq⟩:=hq
 cases e <;> first | exact hq | exact ⟨f,rfl,hq⟩
theorem W_seqM {x y:Code} (M:Fr→World→Prop) (h1:W P n x (thenF M Q) f w) (h2:∀ f w,M f w→W P n y Q f w):W P n (.seq x y) Q f w:=by
 refine W_seq (Code.wp_mono (fun e a w hq=>?_) h1)
 obtain ⟨f,rfl,hq⟩:=hq
 cases e with
 | normal=>exact ⟨f,rfl,h2 f w hq⟩
 | _=>exact ⟨f,rfl,hq⟩
theorem W_skip (h:Q .normal f w):W P n .skip Q f w:=wp_skip ⟨f,rfl,h⟩
theorem W_exit {id:Nat} (h:Q (.exit id) f w):W P n (.exit id) Q f w:=wp_exit ⟨f,rfl,h⟩
theorem W_ret (h:Q .ret f w):W P n .ret Q f w:=wp_ret ⟨f,rfl,h⟩
theorem W_block {id:Nat} {c:Code} (h:W P n c (blockF id Q) f w):W P n (.block id c) Q f w:=by
 unfold W at *
 refine wp_block (Code.wp_mono (fun e a w hq=>?_) h)
 obtain ⟨f,rfl,hq⟩:=hq
 cases e with
 | exit id' =>
  simp only [blockF,Exit.inBlock] at hq ⊢
  split
  · rename_i h; rw [if_pos h] at hq; exact ⟨f,rfl,hq⟩
  · rename_i h; rw [if_neg h] at hq; exact ⟨f,rfl,hq⟩
 | _=>exact ⟨f,rfl,hq⟩
theorem W_cond {c:Operand} {x y:Code} {t:Bool} (hc:ev n f c = .bool t) (ht:t = true→W P n x Q f w) (hf:t = false→W P n y Q f w):W P n (.cond c x y) Q f w :=
 wp_cond_split (by rw [act_eval]; exact hc) ht hf
theorem W_true {c:Operand} {x y:Code} (hc:ev n f c = .bool true) (ht:W P n x Q f w):W P n (.cond c x y) Q f w:=W_cond hc (fun _=>ht) (fun h=>by cases h)
theorem W_false {c:Operand} {x y:Code} (hc:ev n f c = .bool false) (hf:W P n y Q f w):W P n (.cond c x y) Q f w:=W_cond hc (fun h=>by cases h) (fun _=>hf)
theorem W_decT {c:Operand} {x y:Code} {p:Prop} {inst:Decidable p} (hc:ev n f c = .bool (@decide p inst)) (hp:p) (ht:W P n x Q f w):W P n (.cond c x y) Q f w :=
 W_true (by rw [hc,decide_eq_true hp]) ht
theorem W_decF {c:Operand} {x y:Code} {p:Prop} {inst:Decidable p} (hc:ev n f c = .bool (@decide p inst)) (hp:¬ p) (hf:W P n y Q f w):W P n (.cond c x y) Q f w :=
 W_false (by rw [hc,decide_eq_false hp]) hf
theorem W_seqB1 {id:Nat} {x y z:Code} (h:W P n (.seq x y) (blockF id (thenF (W P n z Q) Q)) f w):W P n (.seq (.block id (.seq x y)) z) Q f w:=W_seq (W_block h)
theorem W_seqB2 {id i:Nat} {ops:Array Oper} {b:Bool} {z:Code} (h:W P n (.region i ops b) (blockF id (thenF (W P n z Q) Q)) f w):W P n (.seq (.block id (.region i ops b)) z) Q f w:=W_seq (W_block h)
theorem W_seqB3 {id id':Nat} {c z:Code} (h:W P n (.block id' c) (blockF id (thenF (W P n z Q) Q)) f w):W P n (.seq (.block id (.block id' c)) z) Q f w:=W_seq (W_block h)
theorem W_testT {c:Operand} {y z:Code} {p:Prop} {inst:Decidable p} (hc:ev n f c = .bool (@decide p inst)) (hp:p) (h:W P n z Q f w):W P n (.seq (.cond c .skip y) z) Q f w :=
 W_seq (W_decT hc hp (W_skip h))
theorem W_testF {c:Operand} {x z:Code} {id:Nat} {p:Prop} {inst:Decidable p} (hc:ev n f c = .bool (@decide p inst)) (hp:¬ p) (h:Q (.exit id) f w):W P n (.seq (.cond c x (.exit id)) z) Q f w :=
 W_seq (W_decF hc hp (W_exit h))
theorem W_loop {c:Code} (I:Nat→Fr→World→Prop) (m₀:Nat) (h₀:I m₀ f w)
 (round:∀ m f w,I m f w→W P n c (thenF (fun f' w'=>∃ m',m' < m∧I m' f' w') Q) f w):W P n (.loop c) Q f w:=by
 unfold W
 refine wp_loop_ghost (fun m a w=>∃ f,a = act n f∧I m f w) m₀ ⟨f,rfl,h₀⟩ ?_
 rintro m a w ⟨f,rfl,hI⟩
 refine Code.wp_mono (fun e a w hq=>?_) (round m f w hI)
 obtain ⟨f',rfl,hq⟩:=hq
 cases e with
 | normal=>obtain ⟨m',hm,hI'⟩:=hq; exact ⟨m',hm,f',rfl,hI'⟩
 | _=>exact ⟨f',rfl,hq⟩
theorem W_region {id:Nat} {l:List Oper} (h:Rl P n l.toArray (fun f w=>Q .normal f w) l f w):W P n (.region id l.toArray false) Q f w :=
 wp_region_lit (Rl_sound (fun f _ h=>⟨f,rfl,h⟩) l f w h)
theorem W_draw {id:Nat} {ops:Array Oper} (S:World→World→Prop) (hT:∀ a b c,S a b→S b c→S a c) (ord:List (Nat × Nat)) (hm:P.follows .mixedOrders = true)
 (hlen:(ord.length == ops.size && Region.noSelect ops && ordOk ops (hot ord) ord (Array.replicate ops.size false)) = true)
 (h:Ro P n ops S (fun f w=>Q .normal f w) ord f { w with drawn:=w.drawn + 1 }):W P n (.region id ops true) Q f w:=by
 simp only [Bool.and_eq_true,beq_iff_eq] at hlen
 have h1:=Ro_sound (n:=n) hT hlen.1.2 ord _ f _ (by simp) (closed_none ops) hlen.2 h
 rw [hlen.1.1] at h1
 refine Code.wp_mono (fun e a w hq=>?_) (wp_region_any hm (wpE_any _ _ _ _ h1))
 cases e <;> first | exact hq | exact hq.elim
theorem calls_W {g:FuncId} {fn:Func} {c:Code} {args:Array Value} {R:Ending→World→Prop} (hf:P.funcs[g]? = some fn) (hb:fn.body = some c) (hn:fn.ntmps = n) (ha:args.size≤n)
 (h:W P n c (fun e f w=>bodyPost P fn R e (act n f) w) (fun i=>args.getD i undef) w):Calls P g args w R:=by
 refine calls_of_wp hf hb (Code.wp_mono (Q:=liftQ n (fun e f w=>bodyPost P fn R e (act n f) w)) (fun e a w hq=>?_) ?_)
 · obtain ⟨f,rfl,hq⟩:=hq; exact hq
 · have e:({ tmps:=args ++ Array.replicate (fn.ntmps - args.size) undef,defers:=[] }:Act) = act n (fun i=>args.getD i undef):=by
    unfold act
    congr 1
    apply Array.ext_getElem?
    intro i
    rw [hn]
    by_cases h1:i < args.size
    · have:i < n:=by omega
      simp [Array.getElem?_append,h1,this]
    · by_cases h2:i < n
      · have:i - args.size < n - args.size:=by omega
        simp [Array.getElem?_append,h1,h2,this]
      · have:¬ i - args.size < n - args.size:=by omega
        simp [Array.getElem?_append,h1,h2,this]
   rw [e]
   exact h
end
section
variable {Q:Exit→Fr→World→Prop} {next:Fr→World→Prop} {id id':Nat} {f:Fr} {w:World}
theorem thenF_fun:(fun f w=>thenF next Q .normal f w) = next:=rfl
theorem T_normal (h:next f w):thenF next Q .normal f w:=h
theorem T_exit (h:Q (.exit id) f w):thenF next Q (.exit id) f w:=h
theorem T_ret (h:Q .ret f w):thenF next Q .ret f w:=h
theorem B_normal (h:Q .normal f w):blockF id Q .normal f w:=h
theorem B_ret (h:Q .ret f w):blockF id Q .ret f w:=h
theorem B_same (h:Q .normal f w):blockF id Q (.exit id) f w:=by simp [blockF,h]
theorem B_other (hne:Nat.beq id' id = false) (h:Q (.exit id') f w):blockF id Q (.exit id') f w:=by
 have:id' ≠ id:=fun e=>by rw [e,Nat.beq_refl] at hne; cases hne
 simp [blockF,this,h]
end
attribute [irreducible] W R1 Rl Ro thenF blockF
end Go.Eng
namespace Go.Eng
open Go Go.RowKit
def mv (f:Fr) (d t:Nat):Fr:=fun i=>bif Nat.beq i d then f t else f i
theorem wrap_i64 {a:Int} (h:-9223372036854775808≤a) (h2:a < 9223372036854775808):IntKind.i64.wrap a = a:=by rw [IntKind.wrap_i64]; omega
theorem wrap_i64n {a:Nat} (h:a < 9223372036854775808):IntKind.i64.wrap (a:Int) = a:=wrap_i64 (by omega) (by omega)
theorem wrap_u64 (a:Int):IntKind.u64.wrap a = a % 18446744073709551616:=IntKind.wrap_u64 a
theorem wrap_u32 (a:Int):IntKind.u32.wrap a = a % 4294967296:=IntKind.wrap_u32 a
theorem wrap_u32m (a:Nat):IntKind.u32.wrap (a:Int) = ((a % 4294967296:Nat):Int):=by rw [wrap_u32]; omega
theorem wrap_u64n {a:Nat} (h:a < 18446744073709551616):IntKind.u64.wrap (a:Int) = a:=by rw [wrap_u64]; omega
theorem wrap_u32n {a:Nat} (h:a < 4294967296):IntKind.u32.wrap (a:Int) = a:=by rw [wrap_u32]; omega
section
variable {P:Program} {n:Nat} {S:World→World→Prop} {k:Nat} {K:Fr→World→Prop} {f:Fr} {w:World}
 {d ty t t2:Nat} {x y:Operand} {pos:String} {aft:Array Edge} {g:Option (Nat × Bool)}
theorem R1_moveT {i:Nat} (hi:Nat.blt i n = true) (h:K (mv f d i) w):R1 P n S k ⟨some d,.move (.tmp i),ty,pos,aft,g⟩ K f w:=by
 refine R1_pure (v:=ev n f (.tmp i)) (fun w=>rfl) ?_
 have e:updO f (some d) (ev n f (.tmp i)) = mv f d i:=by funext j; simp [ev,hi,updO,mv,upd]
 rw [e]; exact h
theorem R1_assignT {i:Nat} (hi:Nat.blt i n = true) (h:K (mv f d i) w):R1 P n S k ⟨some d,.assign (.tmp i),ty,pos,aft,g⟩ K f w:=by
 refine R1_pure (v:=ev n f (.tmp i)) (fun w=>rfl) ?_
 have e:updO f (some d) (ev n f (.tmp i)) = mv f d i:=by funext j; simp [ev,hi,updO,mv,upd]
 rw [e]; exact h
theorem R1_moveCi {kd:IntKind} {m:Nat} (h:K (upd f d (.int kd (((OfNat.ofNat m:Nat)):Int))) w):R1 P n S k ⟨some d,.move (.const (.int kd (OfNat.ofNat m))),ty,pos,aft,g⟩ K f w :=
 R1_pure (v:=.int kd (((OfNat.ofNat m:Nat)):Int)) (fun _=>rfl) h
theorem R1_assignCi {kd:IntKind} {m:Nat} (h:K (upd f d (.int kd (((OfNat.ofNat m:Nat)):Int))) w):R1 P n S k ⟨some d,.assign (.const (.int kd (OfNat.ofNat m))),ty,pos,aft,g⟩ K f w :=
 R1_pure (v:=.int kd (((OfNat.ofNat m:Nat)):Int)) (fun _=>rfl) h
theorem R1_assignC {v:Value} (h:K (upd f d v) w):R1 P n S k ⟨some d,.assign (.const v),ty,pos,aft,g⟩ K f w :=
 R1_pure (v:=v) (fun _=>rfl) h
theorem R1_bin {op:BinOp} {r vx vy:Value} (hx:ev n f x = vx) (hy:ev n f y = vy) (hg:∀ w,(eqGuard op t x y vx vy).run P w = .ok () w) (hr:∀ w,(binOp op t vx vy).run P w = .ok r w)
 (h:K (upd f d r) w):R1 P n S k ⟨some d,.binOp op t x y t2,ty,pos,aft,g⟩ K f w:=by
 refine R1_pure (v:=r) (fun w=>?_) h
 simp only [execOp,hx,hy,Sem.run_bind,hg,hr,Result.andThen_ok,Sem.run_pure]
theorem R1_add_i64 {a b:Nat} (hx:ev n f x = .int .i64 ((a:Nat):Int)) (hy:ev n f y = .int .i64 ((b:Nat):Int)) (hb:a + b < 9223372036854775808) (h:K (upd f d (.int .i64 ((a + b:Nat):Int))) w):R1 P n S k ⟨some d,.binOp .add t x y t2,ty,pos,aft,g⟩ K f w:=by
 refine R1_bin hx hy (fun _=>by simp [eqGuard,go_sem]) (fun _=>?_) h
 simp only [binOp,Op.intArith,ne_eq,not_true_eq_false,if_false]; rw [← Int.natCast_add,wrap_i64n hb]; rfl
theorem R1_sub_i64 {a b:Nat} (hx:ev n f x = .int .i64 ((a:Nat):Int)) (hy:ev n f y = .int .i64 ((b:Nat):Int)) (ha:a < 9223372036854775808) (hb:b≤a) (h:K (upd f d (.int .i64 ((a - b:Nat):Int))) w):R1 P n S k ⟨some d,.binOp .sub t x y t2,ty,pos,aft,g⟩ K f w:=by
 refine R1_bin hx hy (fun _=>by simp [eqGuard,go_sem]) (fun _=>?_) h
 simp only [binOp,Op.intArith,ne_eq,not_true_eq_false,if_false]; rw [← Int.natCast_sub hb,wrap_i64n (by omega)]; rfl
theorem R1_mul_i64 {a b:Nat} (hx:ev n f x = .int .i64 ((a:Nat):Int)) (hy:ev n f y = .int .i64 ((b:Nat):Int)) (hb:a * b < 9223372036854775808) (h:K (upd f d (.int .i64 ((a * b:Nat):Int))) w):R1 P n S k ⟨some d,.binOp .mul t x y t2,ty,pos,aft,g⟩ K f w:=by
 refine R1_bin hx hy (fun _=>by simp [eqGuard,go_sem]) (fun _=>?_) h
 simp only [binOp,Op.intArith,ne_eq,not_true_eq_false,if_false]; rw [← Int.natCast_mul,wrap_i64n hb]; rfl
theorem R1_quo_i64 {a b:Nat} (hx:ev n f x = .int .i64 ((a:Nat):Int)) (hy:ev n f y = .int .i64 ((b:Nat):Int)) (ha:a < 9223372036854775808) (hb:0 < b) (h:K (upd f d (.int .i64 ((a / b:Nat):Int))) w):R1 P n S k ⟨some d,.binOp .quo t x y t2,ty,pos,aft,g⟩ K f w:=by
 refine R1_bin hx hy (fun _=>by simp [eqGuard,go_sem]) (fun _=>?_) h
 have e:((b:Int) = 0) = False:=by (simp; omega)
 simp only [binOp,Op.intDiv,ne_eq,not_true_eq_false,if_false,e]; rw [← Int.ofNat_tdiv,wrap_i64n (Nat.lt_of_le_of_lt (Nat.div_le_self _ _) ha)]; rfl
theorem R1_rem_i64 {a b:Nat} (hx:ev n f x = .int .i64 ((a:Nat):Int)) (hy:ev n f y = .int .i64 ((b:Nat):Int)) (hb:0 < b) (h:K (upd f d (.int .i64 ((a % b:Nat):Int))) w):R1 P n S k ⟨some d,.binOp .rem t x y t2,ty,pos,aft,g⟩ K f w:=by
 refine R1_bin hx hy (fun _=>by simp [eqGuard,go_sem]) (fun _=>?_) h
 have e:((b:Int) = 0) = False:=by (simp; omega)
 simp only [binOp,Op.intDiv,ne_eq,not_true_eq_false,if_false,e]; rw [← Int.ofNat_tmod]; rfl
theorem R1_add_u64 {a b:Nat} (hx:ev n f x = .int .u64 ((a:Nat):Int)) (hy:ev n f y = .int .u64 ((b:Nat):Int)) (hb:a + b < 18446744073709551616) (h:K (upd f d (.int .u64 ((a + b:Nat):Int))) w):R1 P n S k ⟨some d,.binOp .add t x y t2,ty,pos,aft,g⟩ K f w:=by
 refine R1_bin hx hy (fun _=>by simp [eqGuard,go_sem]) (fun _=>?_) h
 simp only [binOp,Op.intArith,ne_eq,not_true_eq_false,if_false]; rw [← Int.natCast_add,wrap_u64n hb]; rfl
theorem R1_sub_u64 {a b:Nat} (hx:ev n f x = .int .u64 ((a:Nat):Int)) (hy:ev n f y = .int .u64 ((b:Nat):Int)) (ha:a < 18446744073709551616) (hb:b≤a) (h:K (upd f d (.int .u64 ((a - b:Nat):Int))) w):R1 P n S k ⟨some d,.binOp .sub t x y t2,ty,pos,aft,g⟩ K f w:=by
 refine R1_bin hx hy (fun _=>by simp [eqGuard,go_sem]) (fun _=>?_) h
 simp only [binOp,Op.intArith,ne_eq,not_true_eq_false,if_false]; rw [← Int.natCast_sub hb,wrap_u64n (by omega)]; rfl
theorem R1_mul_u64 {a b:Nat} (hx:ev n f x = .int .u64 ((a:Nat):Int)) (hy:ev n f y = .int .u64 ((b:Nat):Int)) (hb:a * b < 18446744073709551616) (h:K (upd f d (.int .u64 ((a * b:Nat):Int))) w):R1 P n S k ⟨some d,.binOp .mul t x y t2,ty,pos,aft,g⟩ K f w:=by
 refine R1_bin hx hy (fun _=>by simp [eqGuard,go_sem]) (fun _=>?_) h
 simp only [binOp,Op.intArith,ne_eq,not_true_eq_false,if_false]; rw [← Int.natCast_mul,wrap_u64n hb]; rfl
theorem R1_quo_u64 {a b:Nat} (hx:ev n f x = .int .u64 ((a:Nat):Int)) (hy:ev n f y = .int .u64 ((b:Nat):Int)) (ha:a < 18446744073709551616) (hb:0 < b) (h:K (upd f d (.int .u64 ((a / b:Nat):Int))) w):R1 P n S k ⟨some d,.binOp .quo t x y t2,ty,pos,aft,g⟩ K f w:=by
 refine R1_bin hx hy (fun _=>by simp [eqGuard,go_sem]) (fun _=>?_) h
 have e:((b:Int) = 0) = False:=by (simp; omega)
 simp only [binOp,Op.intDiv,ne_eq,not_true_eq_false,if_false,e]; rw [← Int.ofNat_tdiv,wrap_u64n (Nat.lt_of_le_of_lt (Nat.div_le_self _ _) ha)]; rfl
theorem R1_rem_u64 {a b:Nat} (hx:ev n f x = .int .u64 ((a:Nat):Int)) (hy:ev n f y = .int .u64 ((b:Nat):Int)) (hb:0 < b) (h:K (upd f d (.int .u64 ((a % b:Nat):Int))) w):R1 P n S k ⟨some d,.binOp .rem t x y t2,ty,pos,aft,g⟩ K f w:=by
 refine R1_bin hx hy (fun _=>by simp [eqGuard,go_sem]) (fun _=>?_) h
 have e:((b:Int) = 0) = False:=by (simp; omega)
 simp only [binOp,Op.intDiv,ne_eq,not_true_eq_false,if_false,e]; rw [← Int.ofNat_tmod]; rfl
theorem R1_add_u32 {a b:Nat} (hx:ev n f x = .int .u32 ((a:Nat):Int)) (hy:ev n f y = .int .u32 ((b:Nat):Int)) (hb:a + b < 4294967296) (h:K (upd f d (.int .u32 ((a + b:Nat):Int))) w):R1 P n S k ⟨some d,.binOp .add t x y t2,ty,pos,aft,g⟩ K f w:=by
 refine R1_bin hx hy (fun _=>by simp [eqGuard,go_sem]) (fun _=>?_) h
 simp only [binOp,Op.intArith,ne_eq,not_true_eq_false,if_false]; rw [← Int.natCast_add,wrap_u32n hb]; rfl
theorem R1_quo_u32 {a b:Nat} (hx:ev n f x = .int .u32 ((a:Nat):Int)) (hy:ev n f y = .int .u32 ((b:Nat):Int)) (ha:a < 4294967296) (hb:0 < b) (h:K (upd f d (.int .u32 ((a / b:Nat):Int))) w):R1 P n S k ⟨some d,.binOp .quo t x y t2,ty,pos,aft,g⟩ K f w:=by
 refine R1_bin hx hy (fun _=>by simp [eqGuard,go_sem]) (fun _=>?_) h
 have e:((b:Int) = 0) = False:=by (simp; omega)
 simp only [binOp,Op.intDiv,ne_eq,not_true_eq_false,if_false,e]; rw [← Int.ofNat_tdiv,wrap_u32n (Nat.lt_of_le_of_lt (Nat.div_le_self _ _) ha)]; rfl
theorem R1_rem_u32 {a b:Nat} (hx:ev n f x = .int .u32 ((a:Nat):Int)) (hy:ev n f y = .int .u32 ((b:Nat):Int)) (hb:0 < b) (h:K (upd f d (.int .u32 ((a % b:Nat):Int))) w):R1 P n S k ⟨some d,.binOp .rem t x y t2,ty,pos,aft,g⟩ K f w:=by
 refine R1_bin hx hy (fun _=>by simp [eqGuard,go_sem]) (fun _=>?_) h
 have e:((b:Int) = 0) = False:=by (simp; omega)
 simp only [binOp,Op.intDiv,ne_eq,not_true_eq_false,if_false,e]; rw [← Int.ofNat_tmod]; rfl
theorem R1_subm_u64 {a b:Nat} (hx:ev n f x = .int .u64 ((a:Nat):Int)) (hy:ev n f y = .int .u64 ((b:Nat):Int)) (hb:b≤18446744073709551616) (h:K (upd f d (.int .u64 (((a + (18446744073709551616 - b)) % 18446744073709551616:Nat):Int))) w):R1 P n S k ⟨some d,.binOp .sub t x y t2,ty,pos,aft,g⟩ K f w:=by
 refine R1_bin hx hy (fun _=>by simp [eqGuard,go_sem]) (fun _=>?_) h
 simp only [binOp,Op.intArith,ne_eq,not_true_eq_false,if_false]; rw [wrap_u64,show ((a:Int) - b) % 18446744073709551616 = (((a + (18446744073709551616 - b)) % 18446744073709551616:Nat):Int) from by omega]; rfl
theorem R1_addm_u32 {a b:Nat} (hx:ev n f x = .int .u32 ((a:Nat):Int)) (hy:ev n f y = .int .u32 ((b:Nat):Int)) (h:K (upd f d (.int .u32 (((a + b) % 4294967296:Nat):Int))) w):R1 P n S k ⟨some d,.binOp .add t x y t2,ty,pos,aft,g⟩ K f w:=by
 refine R1_bin hx hy (fun _=>by simp [eqGuard,go_sem]) (fun _=>?_) h
 simp only [binOp,Op.intArith,ne_eq,not_true_eq_false,if_false]; rw [← Int.natCast_add,wrap_u32]; rfl
theorem R1_lss_i64 {a b:Nat} (hx:ev n f x = .int .i64 ((a:Nat):Int)) (hy:ev n f y = .int .i64 ((b:Nat):Int)) (h:K (upd f d (.bool (decide (a < b)))) w):R1 P n S k ⟨some d,.binOp .lss t x y t2,ty,pos,aft,g⟩ K f w:=by
 refine R1_bin hx hy (fun _=>by simp [eqGuard,go_sem]) (fun _=>?_) h
 simp only [binOp,Op.intCmp,ne_eq,not_true_eq_false,if_false]; rw [show (decide ((a:Int) < b)) = decide (a < b) from by rw [Bool.eq_iff_iff]; simp]; rfl
theorem R1_leq_i64 {a b:Nat} (hx:ev n f x = .int .i64 ((a:Nat):Int)) (hy:ev n f y = .int .i64 ((b:Nat):Int)) (h:K (upd f d (.bool (decide (a≤b)))) w):R1 P n S k ⟨some d,.binOp .leq t x y t2,ty,pos,aft,g⟩ K f w:=by
 refine R1_bin hx hy (fun _=>by simp [eqGuard,go_sem]) (fun _=>?_) h
 simp only [binOp,Op.intCmp,ne_eq,not_true_eq_false,if_false]; rw [show (decide ((a:Int)≤b)) = decide (a≤b) from by rw [Bool.eq_iff_iff]; simp]; rfl
theorem R1_gtr_i64 {a b:Nat} (hx:ev n f x = .int .i64 ((a:Nat):Int)) (hy:ev n f y = .int .i64 ((b:Nat):Int)) (h:K (upd f d (.bool (decide (b < a)))) w):R1 P n S k ⟨some d,.binOp .gtr t x y t2,ty,pos,aft,g⟩ K f w:=by
 refine R1_bin hx hy (fun _=>by simp [eqGuard,go_sem]) (fun _=>?_) h
 simp only [binOp,Op.intCmp,ne_eq,not_true_eq_false,if_false]; rw [show (decide ((a:Int) > b)) = decide (b < a) from by rw [Bool.eq_iff_iff]; simp]; rfl
theorem R1_geq_i64 {a b:Nat} (hx:ev n f x = .int .i64 ((a:Nat):Int)) (hy:ev n f y = .int .i64 ((b:Nat):Int)) (h:K (upd f d (.bool (decide (b≤a)))) w):R1 P n S k ⟨some d,.binOp .geq t x y t2,ty,pos,aft,g⟩ K f w:=by
 refine R1_bin hx hy (fun _=>by simp [eqGuard,go_sem]) (fun _=>?_) h
 simp only [binOp,Op.intCmp,ne_eq,not_true_eq_false,if_false]; rw [show (decide ((a:Int) ≥ b)) = decide (b≤a) from by rw [Bool.eq_iff_iff]; simp]; rfl
theorem R1_eql_i64 {a b:Nat} (hx:ev n f x = .int .i64 ((a:Nat):Int)) (hy:ev n f y = .int .i64 ((b:Nat):Int)) (h:K (upd f d (.bool (decide (a = b)))) w):R1 P n S k ⟨some d,.binOp .eql t x y t2,ty,pos,aft,g⟩ K f w:=by
 refine R1_bin hx hy (fun _=>by simp [eqGuard,go_sem]) (fun _=>?_) h
 simp only [binOp,Op.intCmp,ne_eq,not_true_eq_false,if_false]; rw [show ((a:Int) == b) = decide (a = b) from by rw [Bool.eq_iff_iff]; simp; omega]; rfl
theorem R1_neq_i64 {a b:Nat} (hx:ev n f x = .int .i64 ((a:Nat):Int)) (hy:ev n f y = .int .i64 ((b:Nat):Int)) (h:K (upd f d (.bool (decide (¬ a = b)))) w):R1 P n S k ⟨some d,.binOp .neq t x y t2,ty,pos,aft,g⟩ K f w:=by
 refine R1_bin hx hy (fun _=>by simp [eqGuard,go_sem]) (fun _=>?_) h
 simp only [binOp,Op.intCmp,ne_eq,not_true_eq_false,if_false]; rw [show ((a:Int) != b) = decide (¬ a = b) from by rw [Bool.eq_iff_iff]; simp; omega]; rfl
theorem R1_lss_u64 {a b:Nat} (hx:ev n f x = .int .u64 ((a:Nat):Int)) (hy:ev n f y = .int .u64 ((b:Nat):Int)) (h:K (upd f d (.bool (decide (a < b)))) w):R1 P n S k ⟨some d,.binOp .lss t x y t2,ty,pos,aft,g⟩ K f w:=by
 refine R1_bin hx hy (fun _=>by simp [eqGuard,go_sem]) (fun _=>?_) h
 simp only [binOp,Op.intCmp,ne_eq,not_true_eq_false,if_false]; rw [show (decide ((a:Int) < b)) = decide (a < b) from by rw [Bool.eq_iff_iff]; simp]; rfl
theorem R1_gtr_u64 {a b:Nat} (hx:ev n f x = .int .u64 ((a:Nat):Int)) (hy:ev n f y = .int .u64 ((b:Nat):Int)) (h:K (upd f d (.bool (decide (b < a)))) w):R1 P n S k ⟨some d,.binOp .gtr t x y t2,ty,pos,aft,g⟩ K f w:=by
 refine R1_bin hx hy (fun _=>by simp [eqGuard,go_sem]) (fun _=>?_) h
 simp only [binOp,Op.intCmp,ne_eq,not_true_eq_false,if_false]; rw [show (decide ((a:Int) > b)) = decide (b < a) from by rw [Bool.eq_iff_iff]; simp]; rfl
theorem R1_eql_u64 {a b:Nat} (hx:ev n f x = .int .u64 ((a:Nat):Int)) (hy:ev n f y = .int .u64 ((b:Nat):Int)) (h:K (upd f d (.bool (decide (a = b)))) w):R1 P n S k ⟨some d,.binOp .eql t x y t2,ty,pos,aft,g⟩ K f w:=by
 refine R1_bin hx hy (fun _=>by simp [eqGuard,go_sem]) (fun _=>?_) h
 simp only [binOp,Op.intCmp,ne_eq,not_true_eq_false,if_false]; rw [show ((a:Int) == b) = decide (a = b) from by rw [Bool.eq_iff_iff]; simp; omega]; rfl
theorem R1_neq_u64 {a b:Nat} (hx:ev n f x = .int .u64 ((a:Nat):Int)) (hy:ev n f y = .int .u64 ((b:Nat):Int)) (h:K (upd f d (.bool (decide (¬ a = b)))) w):R1 P n S k ⟨some d,.binOp .neq t x y t2,ty,pos,aft,g⟩ K f w:=by
 refine R1_bin hx hy (fun _=>by simp [eqGuard,go_sem]) (fun _=>?_) h
 simp only [binOp,Op.intCmp,ne_eq,not_true_eq_false,if_false]; rw [show ((a:Int) != b) = decide (¬ a = b) from by rw [Bool.eq_iff_iff]; simp; omega]; rfl
theorem R1_lss_u32 {a b:Nat} (hx:ev n f x = .int .u32 ((a:Nat):Int)) (hy:ev n f y = .int .u32 ((b:Nat):Int)) (h:K (upd f d (.bool (decide (a < b)))) w):R1 P n S k ⟨some d,.binOp .lss t x y t2,ty,pos,aft,g⟩ K f w:=by
 refine R1_bin hx hy (fun _=>by simp [eqGuard,go_sem]) (fun _=>?_) h
 simp only [binOp,Op.intCmp,ne_eq,not_true_eq_false,if_false]; rw [show (decide ((a:Int) < b)) = decide (a < b) from by rw [Bool.eq_iff_iff]; simp]; rfl
theorem R1_gtr_u32 {a b:Nat} (hx:ev n f x = .int .u32 ((a:Nat):Int)) (hy:ev n f y = .int .u32 ((b:Nat):Int)) (h:K (upd f d (.bool (decide (b < a)))) w):R1 P n S k ⟨some d,.binOp .gtr t x y t2,ty,pos,aft,g⟩ K f w:=by
 refine R1_bin hx hy (fun _=>by simp [eqGuard,go_sem]) (fun _=>?_) h
 simp only [binOp,Op.intCmp,ne_eq,not_true_eq_false,if_false]; rw [show (decide ((a:Int) > b)) = decide (b < a) from by rw [Bool.eq_iff_iff]; simp]; rfl
theorem R1_geq_u32 {a b:Nat} (hx:ev n f x = .int .u32 ((a:Nat):Int)) (hy:ev n f y = .int .u32 ((b:Nat):Int)) (h:K (upd f d (.bool (decide (b≤a)))) w):R1 P n S k ⟨some d,.binOp .geq t x y t2,ty,pos,aft,g⟩ K f w:=by
 refine R1_bin hx hy (fun _=>by simp [eqGuard,go_sem]) (fun _=>?_) h
 simp only [binOp,Op.intCmp,ne_eq,not_true_eq_false,if_false]; rw [show (decide ((a:Int) ≥ b)) = decide (b≤a) from by rw [Bool.eq_iff_iff]; simp]; rfl
theorem R1_eql_u32 {a b:Nat} (hx:ev n f x = .int .u32 ((a:Nat):Int)) (hy:ev n f y = .int .u32 ((b:Nat):Int)) (h:K (upd f d (.bool (decide (a = b)))) w):R1 P n S k ⟨some d,.binOp .eql t x y t2,ty,pos,aft,g⟩ K f w:=by
 refine R1_bin hx hy (fun _=>by simp [eqGuard,go_sem]) (fun _=>?_) h
 simp only [binOp,Op.intCmp,ne_eq,not_true_eq_false,if_false]; rw [show ((a:Int) == b) = decide (a = b) from by rw [Bool.eq_iff_iff]; simp; omega]; rfl
theorem R1_neq_u32 {a b:Nat} (hx:ev n f x = .int .u32 ((a:Nat):Int)) (hy:ev n f y = .int .u32 ((b:Nat):Int)) (h:K (upd f d (.bool (decide (¬ a = b)))) w):R1 P n S k ⟨some d,.binOp .neq t x y t2,ty,pos,aft,g⟩ K f w:=by
 refine R1_bin hx hy (fun _=>by simp [eqGuard,go_sem]) (fun _=>?_) h
 simp only [binOp,Op.intCmp,ne_eq,not_true_eq_false,if_false]; rw [show ((a:Int) != b) = decide (¬ a = b) from by rw [Bool.eq_iff_iff]; simp; omega]; rfl
theorem R1_lss_u8 {a b:Nat} (hx:ev n f x = .int .u8 ((a:Nat):Int)) (hy:ev n f y = .int .u8 ((b:Nat):Int)) (h:K (upd f d (.bool (decide (a < b)))) w):R1 P n S k ⟨some d,.binOp .lss t x y t2,ty,pos,aft,g⟩ K f w:=by
 refine R1_bin hx hy (fun _=>by simp [eqGuard,go_sem]) (fun _=>?_) h
 simp only [binOp,Op.intCmp,ne_eq,not_true_eq_false,if_false]; rw [show (decide ((a:Int) < b)) = decide (a < b) from by rw [Bool.eq_iff_iff]; simp]; rfl
theorem R1_gtr_u8 {a b:Nat} (hx:ev n f x = .int .u8 ((a:Nat):Int)) (hy:ev n f y = .int .u8 ((b:Nat):Int)) (h:K (upd f d (.bool (decide (b < a)))) w):R1 P n S k ⟨some d,.binOp .gtr t x y t2,ty,pos,aft,g⟩ K f w:=by
 refine R1_bin hx hy (fun _=>by simp [eqGuard,go_sem]) (fun _=>?_) h
 simp only [binOp,Op.intCmp,ne_eq,not_true_eq_false,if_false]; rw [show (decide ((a:Int) > b)) = decide (b < a) from by rw [Bool.eq_iff_iff]; simp]; rfl
theorem R1_eql_u8 {a b:Nat} (hx:ev n f x = .int .u8 ((a:Nat):Int)) (hy:ev n f y = .int .u8 ((b:Nat):Int)) (h:K (upd f d (.bool (decide (a = b)))) w):R1 P n S k ⟨some d,.binOp .eql t x y t2,ty,pos,aft,g⟩ K f w:=by
 refine R1_bin hx hy (fun _=>by simp [eqGuard,go_sem]) (fun _=>?_) h
 simp only [binOp,Op.intCmp,ne_eq,not_true_eq_false,if_false]; rw [show ((a:Int) == b) = decide (a = b) from by rw [Bool.eq_iff_iff]; simp; omega]; rfl
theorem R1_neq_u8 {a b:Nat} (hx:ev n f x = .int .u8 ((a:Nat):Int)) (hy:ev n f y = .int .u8 ((b:Nat):Int)) (h:K (upd f d (.bool (decide (¬ a = b)))) w):R1 P n S k ⟨some d,.binOp .neq t x y t2,ty,pos,aft,g⟩ K f w:=by
 refine R1_bin hx hy (fun _=>by simp [eqGuard,go_sem]) (fun _=>?_) h
 simp only [binOp,Op.intCmp,ne_eq,not_true_eq_false,if_false]; rw [show ((a:Int) != b) = decide (¬ a = b) from by rw [Bool.eq_iff_iff]; simp; omega]; rfl
theorem R1_or_u64 {a b:Nat} (hx:ev n f x = .int .u64 ((a:Nat):Int)) (hy:ev n f y = .int .u64 ((b:Nat):Int)) (ha:a < 18446744073709551616) (hb:b < 18446744073709551616) (h:K (upd f d (.int .u64 ((a ||| b:Nat):Int))) w):R1 P n S k ⟨some d,.binOp .or t x y t2,ty,pos,aft,g⟩ K f w:=by
 refine R1_bin hx hy (fun _=>by simp [eqGuard,go_sem]) (fun _=>?_) h
 have e:=u64_or_nat a b ha hb
 simp only [binOp,Op.intBits,ne_eq,not_true_eq_false,if_false]
 change Result.ok (Value.int .u64 (bits .or .u64 (a:Int) (b:Int))) _ = _
 rw [e]
theorem R1_or_u32 {a b:Nat} (hx:ev n f x = .int .u32 ((a:Nat):Int)) (hy:ev n f y = .int .u32 ((b:Nat):Int)) (ha:a < 4294967296) (hb:b < 4294967296) (h:K (upd f d (.int .u32 ((a ||| b:Nat):Int))) w):R1 P n S k ⟨some d,.binOp .or t x y t2,ty,pos,aft,g⟩ K f w:=by
 refine R1_bin hx hy (fun _=>by simp [eqGuard,go_sem]) (fun _=>?_) h
 have e:=u32_or_nat a b ha hb
 simp only [binOp,Op.intBits,ne_eq,not_true_eq_false,if_false]
 change Result.ok (Value.int .u32 (bits .or .u32 (a:Int) (b:Int))) _ = _
 rw [e]
theorem R1_and_u32 {a b:Nat} (hx:ev n f x = .int .u32 ((a:Nat):Int)) (hy:ev n f y = .int .u32 ((b:Nat):Int)) (ha:a < 4294967296) (hb:b < 4294967296) (h:K (upd f d (.int .u32 ((a &&& b:Nat):Int))) w):R1 P n S k ⟨some d,.binOp .and t x y t2,ty,pos,aft,g⟩ K f w:=by
 refine R1_bin hx hy (fun _=>by simp [eqGuard,go_sem]) (fun _=>?_) h
 have e:=u32_and_nat a b ha hb
 simp only [binOp,Op.intBits,ne_eq,not_true_eq_false,if_false]
 change Result.ok (Value.int .u32 (bits .and .u32 (a:Int) (b:Int))) _ = _
 rw [e]
theorem R1_shl_u64 {a b:Nat} {kk:IntKind} (hx:ev n f x = .int .u64 ((a:Nat):Int)) (hy:ev n f y = .int kk ((b:Nat):Int)) (hb:b < 64) (h:K (upd f d (.int .u64 (((a * 2 ^ b) % 18446744073709551616:Nat):Int))) w):R1 P n S k ⟨some d,.binOp .shl t x y t2,ty,pos,aft,g⟩ K f w:=by
 refine R1_bin hx hy (fun _=>by simp [eqGuard,go_sem]) (fun _=>?_) h
 have e:min b 64 = b:=by omega
 have e0:((b:Int) < 0) = False:=by simp
 simp only [binOp,Op.shift,e0,if_false,Int.toNat_natCast,IntKind.bits,e]
 rw [wrap_u64,show ((a:Int) * 2 ^ b) % 18446744073709551616 = (((a * 2 ^ b) % 18446744073709551616:Nat):Int) from by simp]; rfl
theorem R1_shr_u64 {a b:Nat} {kk:IntKind} (hx:ev n f x = .int .u64 ((a:Nat):Int)) (hy:ev n f y = .int kk ((b:Nat):Int)) (hb:b < 64) (h:K (upd f d (.int .u64 ((a / 2 ^ b:Nat):Int))) w):R1 P n S k ⟨some d,.binOp .shr t x y t2,ty,pos,aft,g⟩ K f w:=by
 refine R1_bin hx hy (fun _=>by simp [eqGuard,go_sem]) (fun _=>?_) h
 have e:min b 64 = b:=by omega
 have e0:((b:Int) < 0) = False:=by simp
 simp only [binOp,Op.shift,e0,if_false,Int.toNat_natCast,IntKind.bits,e]
 rw [show (a:Int).fdiv (2 ^ b) = ((a / 2 ^ b:Nat):Int) from by rw [Int.fdiv_eq_ediv_of_nonneg _ (Int.le_of_lt (Int.pow_pos (by decide)))]; simp]; rfl
theorem R1_shl_u32 {a b:Nat} {kk:IntKind} (hx:ev n f x = .int .u32 ((a:Nat):Int)) (hy:ev n f y = .int kk ((b:Nat):Int)) (hb:b < 32) (h:K (upd f d (.int .u32 (((a * 2 ^ b) % 4294967296:Nat):Int))) w):R1 P n S k ⟨some d,.binOp .shl t x y t2,ty,pos,aft,g⟩ K f w:=by
 refine R1_bin hx hy (fun _=>by simp [eqGuard,go_sem]) (fun _=>?_) h
 have e:min b 32 = b:=by omega
 have e0:((b:Int) < 0) = False:=by simp
 simp only [binOp,Op.shift,e0,if_false,Int.toNat_natCast,IntKind.bits,e]
 rw [wrap_u32,show ((a:Int) * 2 ^ b) % 4294967296 = (((a * 2 ^ b) % 4294967296:Nat):Int) from by simp]; rfl
theorem R1_shr_u32 {a b:Nat} {kk:IntKind} (hx:ev n f x = .int .u32 ((a:Nat):Int)) (hy:ev n f y = .int kk ((b:Nat):Int)) (hb:b < 32) (h:K (upd f d (.int .u32 ((a / 2 ^ b:Nat):Int))) w):R1 P n S k ⟨some d,.binOp .shr t x y t2,ty,pos,aft,g⟩ K f w:=by
 refine R1_bin hx hy (fun _=>by simp [eqGuard,go_sem]) (fun _=>?_) h
 have e:min b 32 = b:=by omega
 have e0:((b:Int) < 0) = False:=by simp
 simp only [binOp,Op.shift,e0,if_false,Int.toNat_natCast,IntKind.bits,e]
 rw [show (a:Int).fdiv (2 ^ b) = ((a / 2 ^ b:Nat):Int) from by rw [Int.fdiv_eq_ediv_of_nonneg _ (Int.le_of_lt (Int.pow_pos (by decide)))]; simp]; rfl
theorem R1_add_z {a b:Int} (hx:ev n f x = .int .i64 a) (hy:ev n f y = .int .i64 b) (h1:-9223372036854775808≤a + b) (h2:a + b < 9223372036854775808) (h:K (upd f d (.int .i64 (a + b))) w):R1 P n S k ⟨some d,.binOp .add t x y t2,ty,pos,aft,g⟩ K f w:=by
 refine R1_bin hx hy (fun _=>by simp [eqGuard,go_sem]) (fun _=>?_) h
 simp only [binOp,Op.intArith,ne_eq,not_true_eq_false,if_false]; rw [wrap_i64 h1 h2]; rfl
theorem R1_sub_z {a b:Int} (hx:ev n f x = .int .i64 a) (hy:ev n f y = .int .i64 b) (h1:-9223372036854775808≤a - b) (h2:a - b < 9223372036854775808) (h:K (upd f d (.int .i64 (a - b))) w):R1 P n S k ⟨some d,.binOp .sub t x y t2,ty,pos,aft,g⟩ K f w:=by
 refine R1_bin hx hy (fun _=>by simp [eqGuard,go_sem]) (fun _=>?_) h
 simp only [binOp,Op.intArith,ne_eq,not_true_eq_false,if_false]; rw [wrap_i64 h1 h2]; rfl
theorem R1_mul_z {a b:Int} (hx:ev n f x = .int .i64 a) (hy:ev n f y = .int .i64 b) (h1:-9223372036854775808≤a * b) (h2:a * b < 9223372036854775808) (h:K (upd f d (.int .i64 (a * b))) w):R1 P n S k ⟨some d,.binOp .mul t x y t2,ty,pos,aft,g⟩ K f w:=by
 refine R1_bin hx hy (fun _=>by simp [eqGuard,go_sem]) (fun _=>?_) h
 simp only [binOp,Op.intArith,ne_eq,not_true_eq_false,if_false]; rw [wrap_i64 h1 h2]; rfl
theorem R1_lss_z {a b:Int} (hx:ev n f x = .int .i64 a) (hy:ev n f y = .int .i64 b) (h:K (upd f d (.bool (decide (a < b)))) w):R1 P n S k ⟨some d,.binOp .lss t x y t2,ty,pos,aft,g⟩ K f w:=by
 refine R1_bin hx hy (fun _=>by simp [eqGuard,go_sem]) (fun _=>?_) h
 simp only [binOp,Op.intCmp,ne_eq,not_true_eq_false,if_false]; rfl
theorem R1_leq_z {a b:Int} (hx:ev n f x = .int .i64 a) (hy:ev n f y = .int .i64 b) (h:K (upd f d (.bool (decide (a≤b)))) w):R1 P n S k ⟨some d,.binOp .leq t x y t2,ty,pos,aft,g⟩ K f w:=by
 refine R1_bin hx hy (fun _=>by simp [eqGuard,go_sem]) (fun _=>?_) h
 simp only [binOp,Op.intCmp,ne_eq,not_true_eq_false,if_false]; rfl
theorem R1_gtr_z {a b:Int} (hx:ev n f x = .int .i64 a) (hy:ev n f y = .int .i64 b) (h:K (upd f d (.bool (decide (b < a)))) w):R1 P n S k ⟨some d,.binOp .gtr t x y t2,ty,pos,aft,g⟩ K f w:=by
 refine R1_bin hx hy (fun _=>by simp [eqGuard,go_sem]) (fun _=>?_) h
 simp only [binOp,Op.intCmp,ne_eq,not_true_eq_false,if_false]; rfl
theorem R1_geq_z {a b:Int} (hx:ev n f x = .int .i64 a) (hy:ev n f y = .int .i64 b) (h:K (upd f d (.bool (decide (b≤a)))) w):R1 P n S k ⟨some d,.binOp .geq t x y t2,ty,pos,aft,g⟩ K f w:=by
 refine R1_bin hx hy (fun _=>by simp [eqGuard,go_sem]) (fun _=>?_) h
 simp only [binOp,Op.intCmp,ne_eq,not_true_eq_false,if_false]; rfl
theorem R1_eql_z {a b:Int} (hx:ev n f x = .int .i64 a) (hy:ev n f y = .int .i64 b) (h:K (upd f d (.bool (decide (a = b)))) w):R1 P n S k ⟨some d,.binOp .eql t x y t2,ty,pos,aft,g⟩ K f w:=by
 refine R1_bin hx hy (fun _=>by simp [eqGuard,go_sem]) (fun _=>?_) h
 simp only [binOp,Op.intCmp,ne_eq,not_true_eq_false,if_false]; rw [show (a == b) = decide (a = b) from by rw [Bool.eq_iff_iff]; simp]; rfl
theorem R1_neq_z {a b:Int} (hx:ev n f x = .int .i64 a) (hy:ev n f y = .int .i64 b) (h:K (upd f d (.bool (decide (¬ a = b)))) w):R1 P n S k ⟨some d,.binOp .neq t x y t2,ty,pos,aft,g⟩ K f w:=by
 refine R1_bin hx hy (fun _=>by simp [eqGuard,go_sem]) (fun _=>?_) h
 simp only [binOp,Op.intCmp,ne_eq,not_true_eq_false,if_false]; rw [show (a != b) = decide (¬ a = b) from by rw [Bool.eq_iff_iff]; simp]; rfl
theorem R1_rem_z {a b:Int} (hx:ev n f x = .int .i64 a) (hy:ev n f y = .int .i64 b) (hb:b ≠ 0) (h:K (upd f d (.int .i64 (a.tmod b))) w):R1 P n S k ⟨some d,.binOp .rem t x y t2,ty,pos,aft,g⟩ K f w:=by
 refine R1_bin hx hy (fun _=>by simp [eqGuard,go_sem]) (fun _=>?_) h
 simp only [binOp,Op.intDiv,ne_eq,not_true_eq_false,if_false,hb]; rfl
theorem R1_add_i64_c {a m:Nat} (hx:ev n f x = .int .i64 ((a:Nat):Int)) (hb:a + (OfNat.ofNat m) < 9223372036854775808) (h:K (upd f d (.int .i64 ((a + (OfNat.ofNat m):Nat):Int))) w):R1 P n S k ⟨some d,.binOp .add t x (.const (.int .i64 (OfNat.ofNat m))) t2,ty,pos,aft,g⟩ K f w :=
 R1_add_i64 (b:=OfNat.ofNat m) hx (by rfl) hb h
theorem R1_sub_i64_c {a m:Nat} (hx:ev n f x = .int .i64 ((a:Nat):Int)) (ha:a < 9223372036854775808) (hb:(OfNat.ofNat m)≤a) (h:K (upd f d (.int .i64 ((a - (OfNat.ofNat m):Nat):Int))) w):R1 P n S k ⟨some d,.binOp .sub t x (.const (.int .i64 (OfNat.ofNat m))) t2,ty,pos,aft,g⟩ K f w :=
 R1_sub_i64 (b:=OfNat.ofNat m) hx (by rfl) ha hb h
theorem R1_quo_i64_c {a m:Nat} (hx:ev n f x = .int .i64 ((a:Nat):Int)) (ha:a < 9223372036854775808) (hb:0 < (OfNat.ofNat m)) (h:K (upd f d (.int .i64 ((a / (OfNat.ofNat m):Nat):Int))) w):R1 P n S k ⟨some d,.binOp .quo t x (.const (.int .i64 (OfNat.ofNat m))) t2,ty,pos,aft,g⟩ K f w :=
 R1_quo_i64 (b:=OfNat.ofNat m) hx (by rfl) ha hb h
theorem R1_rem_i64_c {a m:Nat} (hx:ev n f x = .int .i64 ((a:Nat):Int)) (hb:0 < (OfNat.ofNat m)) (h:K (upd f d (.int .i64 ((a % (OfNat.ofNat m):Nat):Int))) w):R1 P n S k ⟨some d,.binOp .rem t x (.const (.int .i64 (OfNat.ofNat m))) t2,ty,pos,aft,g⟩ K f w :=
 R1_rem_i64 (b:=OfNat.ofNat m) hx (by rfl) hb h
theorem R1_sub_u64_c {a m:Nat} (hx:ev n f x = .int .u64 ((a:Nat):Int)) (ha:a < 18446744073709551616) (hb:(OfNat.ofNat m)≤a) (h:K (upd f d (.int .u64 ((a - (OfNat.ofNat m):Nat):Int))) w):R1 P n S k ⟨some d,.binOp .sub t x (.const (.int .u64 (OfNat.ofNat m))) t2,ty,pos,aft,g⟩ K f w :=
 R1_sub_u64 (b:=OfNat.ofNat m) hx (by rfl) ha hb h
theorem R1_quo_u64_c {a m:Nat} (hx:ev n f x = .int .u64 ((a:Nat):Int)) (ha:a < 18446744073709551616) (hb:0 < (OfNat.ofNat m)) (h:K (upd f d (.int .u64 ((a / (OfNat.ofNat m):Nat):Int))) w):R1 P n S k ⟨some d,.binOp .quo t x (.const (.int .u64 (OfNat.ofNat m))) t2,ty,pos,aft,g⟩ K f w :=
 R1_quo_u64 (b:=OfNat.ofNat m) hx (by rfl) ha hb h
theorem R1_rem_u64_c {a m:Nat} (hx:ev n f x = .int .u64 ((a:Nat):Int)) (hb:0 < (OfNat.ofNat m)) (h:K (upd f d (.int .u64 ((a % (OfNat.ofNat m):Nat):Int))) w):R1 P n S k ⟨some d,.binOp .rem t x (.const (.int .u64 (OfNat.ofNat m))) t2,ty,pos,aft,g⟩ K f w :=
 R1_rem_u64 (b:=OfNat.ofNat m) hx (by rfl) hb h
theorem R1_quo_u32_c {a m:Nat} (hx:ev n f x = .int .u32 ((a:Nat):Int)) (ha:a < 4294967296) (hb:0 < (OfNat.ofNat m)) (h:K (upd f d (.int .u32 ((a / (OfNat.ofNat m):Nat):Int))) w):R1 P n S k ⟨some d,.binOp .quo t x (.const (.int .u32 (OfNat.ofNat m))) t2,ty,pos,aft,g⟩ K f w :=
 R1_quo_u32 (b:=OfNat.ofNat m) hx (by rfl) ha hb h
theorem R1_rem_u32_c {a m:Nat} (hx:ev n f x = .int .u32 ((a:Nat):Int)) (hb:0 < (OfNat.ofNat m)) (h:K (upd f d (.int .u32 ((a % (OfNat.ofNat m):Nat):Int))) w):R1 P n S k ⟨some d,.binOp .rem t x (.const (.int .u32 (OfNat.ofNat m))) t2,ty,pos,aft,g⟩ K f w :=
 R1_rem_u32 (b:=OfNat.ofNat m) hx (by rfl) hb h
theorem R1_lss_i64_c {a m:Nat} (hx:ev n f x = .int .i64 ((a:Nat):Int)) (h:K (upd f d (.bool (decide (a < (OfNat.ofNat m))))) w):R1 P n S k ⟨some d,.binOp .lss t x (.const (.int .i64 (OfNat.ofNat m))) t2,ty,pos,aft,g⟩ K f w :=
 R1_lss_i64 (b:=OfNat.ofNat m) hx (by rfl) h
theorem R1_leq_i64_c {a m:Nat} (hx:ev n f x = .int .i64 ((a:Nat):Int)) (h:K (upd f d (.bool (decide (a≤(OfNat.ofNat m))))) w):R1 P n S k ⟨some d,.binOp .leq t x (.const (.int .i64 (OfNat.ofNat m))) t2,ty,pos,aft,g⟩ K f w :=
 R1_leq_i64 (b:=OfNat.ofNat m) hx (by rfl) h
theorem R1_gtr_i64_c {a m:Nat} (hx:ev n f x = .int .i64 ((a:Nat):Int)) (h:K (upd f d (.bool (decide ((OfNat.ofNat m) < a)))) w):R1 P n S k ⟨some d,.binOp .gtr t x (.const (.int .i64 (OfNat.ofNat m))) t2,ty,pos,aft,g⟩ K f w :=
 R1_gtr_i64 (b:=OfNat.ofNat m) hx (by rfl) h
theorem R1_geq_i64_c {a m:Nat} (hx:ev n f x = .int .i64 ((a:Nat):Int)) (h:K (upd f d (.bool (decide ((OfNat.ofNat m)≤a)))) w):R1 P n S k ⟨some d,.binOp .geq t x (.const (.int .i64 (OfNat.ofNat m))) t2,ty,pos,aft,g⟩ K f w :=
 R1_geq_i64 (b:=OfNat.ofNat m) hx (by rfl) h
theorem R1_eql_i64_c {a m:Nat} (hx:ev n f x = .int .i64 ((a:Nat):Int)) (h:K (upd f d (.bool (decide (a = (OfNat.ofNat m))))) w):R1 P n S k ⟨some d,.binOp .eql t x (.const (.int .i64 (OfNat.ofNat m))) t2,ty,pos,aft,g⟩ K f w :=
 R1_eql_i64 (b:=OfNat.ofNat m) hx (by rfl) h
theorem R1_neq_i64_c {a m:Nat} (hx:ev n f x = .int .i64 ((a:Nat):Int)) (h:K (upd f d (.bool (decide (¬ a = (OfNat.ofNat m))))) w):R1 P n S k ⟨some d,.binOp .neq t x (.const (.int .i64 (OfNat.ofNat m))) t2,ty,pos,aft,g⟩ K f w :=
 R1_neq_i64 (b:=OfNat.ofNat m) hx (by rfl) h
theorem R1_gtr_u64_c {a m:Nat} (hx:ev n f x = .int .u64 ((a:Nat):Int)) (h:K (upd f d (.bool (decide ((OfNat.ofNat m) < a)))) w):R1 P n S k ⟨some d,.binOp .gtr t x (.const (.int .u64 (OfNat.ofNat m))) t2,ty,pos,aft,g⟩ K f w :=
 R1_gtr_u64 (b:=OfNat.ofNat m) hx (by rfl) h
theorem R1_eql_u64_c {a m:Nat} (hx:ev n f x = .int .u64 ((a:Nat):Int)) (h:K (upd f d (.bool (decide (a = (OfNat.ofNat m))))) w):R1 P n S k ⟨some d,.binOp .eql t x (.const (.int .u64 (OfNat.ofNat m))) t2,ty,pos,aft,g⟩ K f w :=
 R1_eql_u64 (b:=OfNat.ofNat m) hx (by rfl) h
theorem R1_neq_u64_c {a m:Nat} (hx:ev n f x = .int .u64 ((a:Nat):Int)) (h:K (upd f d (.bool (decide (¬ a = (OfNat.ofNat m))))) w):R1 P n S k ⟨some d,.binOp .neq t x (.const (.int .u64 (OfNat.ofNat m))) t2,ty,pos,aft,g⟩ K f w :=
 R1_neq_u64 (b:=OfNat.ofNat m) hx (by rfl) h
theorem R1_geq_u32_c {a m:Nat} (hx:ev n f x = .int .u32 ((a:Nat):Int)) (h:K (upd f d (.bool (decide ((OfNat.ofNat m)≤a)))) w):R1 P n S k ⟨some d,.binOp .geq t x (.const (.int .u32 (OfNat.ofNat m))) t2,ty,pos,aft,g⟩ K f w :=
 R1_geq_u32 (b:=OfNat.ofNat m) hx (by rfl) h
theorem R1_eql_u32_c {a m:Nat} (hx:ev n f x = .int .u32 ((a:Nat):Int)) (h:K (upd f d (.bool (decide (a = (OfNat.ofNat m))))) w):R1 P n S k ⟨some d,.binOp .eql t x (.const (.int .u32 (OfNat.ofNat m))) t2,ty,pos,aft,g⟩ K f w :=
 R1_eql_u32 (b:=OfNat.ofNat m) hx (by rfl) h
theorem R1_lss_u8_c {a m:Nat} (hx:ev n f x = .int .u8 ((a:Nat):Int)) (h:K (upd f d (.bool (decide (a < (OfNat.ofNat m))))) w):R1 P n S k ⟨some d,.binOp .lss t x (.const (.int .u8 (OfNat.ofNat m))) t2,ty,pos,aft,g⟩ K f w :=
 R1_lss_u8 (b:=OfNat.ofNat m) hx (by rfl) h
theorem R1_gtr_u8_c {a m:Nat} (hx:ev n f x = .int .u8 ((a:Nat):Int)) (h:K (upd f d (.bool (decide ((OfNat.ofNat m) < a)))) w):R1 P n S k ⟨some d,.binOp .gtr t x (.const (.int .u8 (OfNat.ofNat m))) t2,ty,pos,aft,g⟩ K f w :=
 R1_gtr_u8 (b:=OfNat.ofNat m) hx (by rfl) h
theorem R1_eql_u8_c {a m:Nat} (hx:ev n f x = .int .u8 ((a:Nat):Int)) (h:K (upd f d (.bool (decide (a = (OfNat.ofNat m))))) w):R1 P n S k ⟨some d,.binOp .eql t x (.const (.int .u8 (OfNat.ofNat m))) t2,ty,pos,aft,g⟩ K f w :=
 R1_eql_u8 (b:=OfNat.ofNat m) hx (by rfl) h
theorem R1_neq_u8_c {a m:Nat} (hx:ev n f x = .int .u8 ((a:Nat):Int)) (h:K (upd f d (.bool (decide (¬ a = (OfNat.ofNat m))))) w):R1 P n S k ⟨some d,.binOp .neq t x (.const (.int .u8 (OfNat.ofNat m))) t2,ty,pos,aft,g⟩ K f w :=
 R1_neq_u8 (b:=OfNat.ofNat m) hx (by rfl) h
theorem R1_and_u32_c {a m:Nat} (hx:ev n f x = .int .u32 ((a:Nat):Int)) (ha:a < 4294967296) (hb:(OfNat.ofNat m) < 4294967296) (h:K (upd f d (.int .u32 ((a &&& (OfNat.ofNat m):Nat):Int))) w):R1 P n S k ⟨some d,.binOp .and t x (.const (.int .u32 (OfNat.ofNat m))) t2,ty,pos,aft,g⟩ K f w :=
 R1_and_u32 (b:=OfNat.ofNat m) hx (by rfl) ha hb h
theorem R1_shl_u64_c {a m:Nat} {kk:IntKind} (hx:ev n f x = .int .u64 ((a:Nat):Int)) (hb:(OfNat.ofNat m) < 64) (h:K (upd f d (.int .u64 (((a * 2 ^ (OfNat.ofNat m)) % 18446744073709551616:Nat):Int))) w):R1 P n S k ⟨some d,.binOp .shl t x (.const (.int kk (OfNat.ofNat m))) t2,ty,pos,aft,g⟩ K f w :=
 R1_shl_u64 (b:=OfNat.ofNat m) hx (by rfl) hb h
theorem R1_shr_u64_c {a m:Nat} {kk:IntKind} (hx:ev n f x = .int .u64 ((a:Nat):Int)) (hb:(OfNat.ofNat m) < 64) (h:K (upd f d (.int .u64 ((a / 2 ^ (OfNat.ofNat m):Nat):Int))) w):R1 P n S k ⟨some d,.binOp .shr t x (.const (.int kk (OfNat.ofNat m))) t2,ty,pos,aft,g⟩ K f w :=
 R1_shr_u64 (b:=OfNat.ofNat m) hx (by rfl) hb h
theorem R1_shl_u32_c {a m:Nat} {kk:IntKind} (hx:ev n f x = .int .u32 ((a:Nat):Int)) (hb:(OfNat.ofNat m) < 32) (h:K (upd f d (.int .u32 (((a * 2 ^ (OfNat.ofNat m)) % 4294967296:Nat):Int))) w):R1 P n S k ⟨some d,.binOp .shl t x (.const (.int kk (OfNat.ofNat m))) t2,ty,pos,aft,g⟩ K f w :=
 R1_shl_u32 (b:=OfNat.ofNat m) hx (by rfl) hb h
theorem R1_shr_u32_c {a m:Nat} {kk:IntKind} (hx:ev n f x = .int .u32 ((a:Nat):Int)) (hb:(OfNat.ofNat m) < 32) (h:K (upd f d (.int .u32 ((a / 2 ^ (OfNat.ofNat m):Nat):Int))) w):R1 P n S k ⟨some d,.binOp .shr t x (.const (.int kk (OfNat.ofNat m))) t2,ty,pos,aft,g⟩ K f w :=
 R1_shr_u32 (b:=OfNat.ofNat m) hx (by rfl) hb h
theorem R1_add_i64_l {b m:Nat} (hy:ev n f y = .int .i64 ((b:Nat):Int)) (hb:(OfNat.ofNat m) + b < 9223372036854775808) (h:K (upd f d (.int .i64 (((OfNat.ofNat m) + b:Nat):Int))) w):R1 P n S k ⟨some d,.binOp .add t (.const (.int .i64 (OfNat.ofNat m))) y t2,ty,pos,aft,g⟩ K f w :=
 R1_add_i64 (a:=OfNat.ofNat m) (by rfl) hy hb h
theorem R1_sub_i64_l {b m:Nat} (hy:ev n f y = .int .i64 ((b:Nat):Int)) (ha:(OfNat.ofNat m) < 9223372036854775808) (hb:b≤(OfNat.ofNat m)) (h:K (upd f d (.int .i64 (((OfNat.ofNat m) - b:Nat):Int))) w):R1 P n S k ⟨some d,.binOp .sub t (.const (.int .i64 (OfNat.ofNat m))) y t2,ty,pos,aft,g⟩ K f w :=
 R1_sub_i64 (a:=OfNat.ofNat m) (by rfl) hy ha hb h
theorem R1_mul_i64_l {b m:Nat} (hy:ev n f y = .int .i64 ((b:Nat):Int)) (hb:(OfNat.ofNat m) * b < 9223372036854775808) (h:K (upd f d (.int .i64 (((OfNat.ofNat m) * b:Nat):Int))) w):R1 P n S k ⟨some d,.binOp .mul t (.const (.int .i64 (OfNat.ofNat m))) y t2,ty,pos,aft,g⟩ K f w :=
 R1_mul_i64 (a:=OfNat.ofNat m) (by rfl) hy hb h
theorem R1_add_u64_l {b m:Nat} (hy:ev n f y = .int .u64 ((b:Nat):Int)) (hb:(OfNat.ofNat m) + b < 18446744073709551616) (h:K (upd f d (.int .u64 (((OfNat.ofNat m) + b:Nat):Int))) w):R1 P n S k ⟨some d,.binOp .add t (.const (.int .u64 (OfNat.ofNat m))) y t2,ty,pos,aft,g⟩ K f w :=
 R1_add_u64 (a:=OfNat.ofNat m) (by rfl) hy hb h
theorem R1_mul_u64_l {b m:Nat} (hy:ev n f y = .int .u64 ((b:Nat):Int)) (hb:(OfNat.ofNat m) * b < 18446744073709551616) (h:K (upd f d (.int .u64 (((OfNat.ofNat m) * b:Nat):Int))) w):R1 P n S k ⟨some d,.binOp .mul t (.const (.int .u64 (OfNat.ofNat m))) y t2,ty,pos,aft,g⟩ K f w :=
 R1_mul_u64 (a:=OfNat.ofNat m) (by rfl) hy hb h
theorem R1_add_u32_l {b m:Nat} (hy:ev n f y = .int .u32 ((b:Nat):Int)) (hb:(OfNat.ofNat m) + b < 4294967296) (h:K (upd f d (.int .u32 (((OfNat.ofNat m) + b:Nat):Int))) w):R1 P n S k ⟨some d,.binOp .add t (.const (.int .u32 (OfNat.ofNat m))) y t2,ty,pos,aft,g⟩ K f w :=
 R1_add_u32 (a:=OfNat.ofNat m) (by rfl) hy hb h
theorem R1_shl_u32_l {b m:Nat} {kk:IntKind} (hy:ev n f y = .int kk ((b:Nat):Int)) (hb:b < 32) (h:K (upd f d (.int .u32 ((((OfNat.ofNat m) * 2 ^ b) % 4294967296:Nat):Int))) w):R1 P n S k ⟨some d,.binOp .shl t (.const (.int .u32 (OfNat.ofNat m))) y t2,ty,pos,aft,g⟩ K f w :=
 R1_shl_u32 (a:=OfNat.ofNat m) (by rfl) hy hb h
end
end Go.Eng
namespace Go.Eng
open Go Go.RowKit
structure Ch (M:Nat→Prop) (w w':World):Prop where
 os:w'.os = w.os
 tape:w'.tape = w.tape
 output:w'.output = w.output
 size:w.heap.size≤w'.heap.size
 block:∀ b,b < w.heap.size→¬ M b→w'.heap[b]? = w.heap[b]?
def Ext (w w':World):Prop:=Ch (fun _=>False) w w'
section
variable {M M':Nat→Prop} {w w' w'':World} {g b:Nat} {t:TypeId} {cs:Array Value} {p:Addr}
theorem Ch.refl (M:Nat→Prop) (w:World):Ch M w w:=⟨rfl,rfl,rfl,Nat.le_refl _,fun _ _ _=>rfl⟩
theorem Ch.trans (h:Ch M w w') (k:Ch M w' w''):Ch M w w'' :=
 ⟨k.os.trans h.os,k.tape.trans h.tape,k.output.trans h.output,Nat.le_trans h.size k.size,fun b hb hn=>(k.block b (Nat.lt_of_lt_of_le hb h.size) hn).trans (h.block b hb hn)⟩
theorem Ch.mono (h:Ch M w w') (hm:∀ b,b < w.heap.size→M b→M' b):Ch M' w w':=⟨h.os,h.tape,h.output,h.size,fun b hb hn=>h.block b hb fun hm'=>hn (hm b hb hm')⟩
theorem Ext.refl (w:World):Ext w w:=Ch.refl _ w
theorem Ext.trans (h:Ext w w') (k:Ext w' w''):Ext w w'':=Ch.trans h k
theorem Ext.ch (h:Ext w w'):Ch M w w':=Ch.mono h fun _ _ h=>h.elim
theorem Ext.size (h:Ext w w'):w.heap.size≤w'.heap.size:=Ch.size h
theorem Ext.blk (h:Ext w w') (hb:b < w.heap.size):w'.heap[b]? = w.heap[b]?:=Ch.block h b hb id
theorem Ch.ext_of (h0:Ext w w') (h:Ch M w' w'') (hm:∀ b,M b→w.heap.size≤b):Ext w w'' :=
 ⟨h.os.trans h0.os,h.tape.trans h0.tape,h.output.trans h0.output,Nat.le_trans h0.size h.size,
  fun b hb _=>(h.block b (Nat.lt_of_lt_of_le hb h0.size) fun hm'=>absurd (hm b hm') (by omega)).trans (h0.blk hb)⟩
def Blk (w:World) (g:Nat) (t:TypeId) (cs:Array Value):Prop:=w.heap[g]? = some (.cells cs t (0,0))
theorem Blk.lt (h:Blk w g t cs):g < w.heap.size:=by
 rcases Nat.lt_or_ge g w.heap.size with hlt | hge
 · exact hlt
 · unfold Blk at h; rw [Array.getElem?_eq_none hge] at h; cases h
theorem Blk.cell (h:Blk w g t cs) (i:Nat):w.cell? ⟨g,i,none⟩ = cs[i]?:=by unfold Blk at h; simp [World.cell?,h]
theorem Blk.frozen (h:Blk w g t cs) (i:Nat):w.frozen? ⟨g,i,none⟩ = false:=by unfold Blk at h; simp [World.frozen?,h]
theorem Blk.ch (h:Blk w g t cs) (hc:Ch M w w') (hn:¬ M g):Blk w' g t cs:=(hc.block g h.lt hn).trans h
theorem Blk.ext (h:Blk w g t cs) (hc:Ext w w'):Blk w' g t cs:=Blk.ch h hc id
theorem cell_ch (hc:Ch M w w') (hb:p.block < w.heap.size) (hn:¬ M p.block):w'.cell? p = w.cell? p:=World.cell?_of_block (w:=w) (hc.block p.block hb hn)
theorem cell_ext {v:Value} (hc:Ext w w') (h:w.cell? p = some v):w'.cell? p = some v :=
 (cell_ch hc (World.block_lt_of_cell? w p h) id).trans h
theorem ch_alloc (w:World) (o:Obj):Ext w (w.alloc o):=⟨rfl,rfl,rfl,by simp,fun b hb _=>Below.heap_alloc w o b hb⟩
theorem ch_drew (w:World):Ext w { w with drawn:=w.drawn + 1 }:=⟨rfl,rfl,rfl,Nat.le_refl _,fun _ _ _=>rfl⟩
theorem ch_setCell (w:World) (p:Addr) (v:Value):Ch (fun b=>b = p.block) w (w.setCell p v) :=
 ⟨rfl,rfl,rfl,by simp [World.setCell],fun b _ hn=>Below.heap_setCell w p v b hn⟩
theorem size_setCell (w:World) (p:Addr) (v:Value):(w.setCell p v).heap.size = w.heap.size:=by simp [World.setCell]
theorem Blk.new (w:World) (t:TypeId) (cs:Array Value):Blk (w.alloc (.cells cs t)) w.heap.size t cs:=heap_alloc_new w _
theorem Blk.set (h:Blk w g t cs) (i:Nat) (u:Value):Blk (w.setCell ⟨g,i,none⟩ u) g t (cs.setIfInBounds i u):=by
 unfold Blk at h ⊢
 simp [World.setCell,Array.getElem?_modify,h]
theorem add_lit (g i j:Nat):(⟨g,i,none⟩ : Addr).add j = ⟨g,i + j,none⟩:=by unfold Addr.add; split <;> simp_all
theorem add_add (a:Addr) (i j:Nat):(a.add i).add j = a.add (i + j):=by
 unfold Addr.add
 by_cases hi:i = 0 <;> by_cases hj:j = 0 <;> simp [hi,hj,Nat.add_assoc]
theorem block_add (a:Addr) (n:Nat):(a.add n).block = a.block:=by unfold Addr.add; split <;> rfl
def oneTy (P:Program) (t:TypeId):Bool:=match P.underlying t with | some (.struct _) | some (.array _ _) | none=>false | some _=>(P.info? t).any (·.size == 1)
def aggTy (P:Program) (t:TypeId) (m:Nat):Bool:=match P.underlying t with | some (.struct _) | some (.array _ _)=>(P.info? t).any (·.size == m) | _=>false
def TyD (P:Program) (t:TypeId) (d:TypeDesc):Prop:=P.underlying t = some d
structure SliceTy (P:Program) (t e sz bytes:Nat) (z:Value):Prop where
 und:P.underlying t = some (.slice e)
 info:(P.info? e).map (fun i=>(i.zero,i.size,i.bytes)) = some (some z,sz,bytes)
def ZeroTy (P:Program) (t:TypeId) (z:Value):Prop:=(P.info? t).map (fun i=>i.zero) = some (some z)
theorem run_isAgg_one {P:Program} {t:TypeId} (h:oneTy P t = true) (w:World):(isAgg t).run P w = .ok false w:=by
 unfold oneTy at h
 split at h
 · cases h
 · cases h
 · cases h
 · rename_i d hd1 hd2 hu
   unfold isAgg
   simp only [Sem.run_bind,run_underlying hu,Result.andThen_ok]
   cases d <;> first | rfl | (exfalso; simp_all; done)
theorem size_one {P:Program} {t:TypeId} (h:oneTy P t = true) (w:World):(sizeOf t).run P w = .ok 1 w:=by
 unfold oneTy at h
 split at h
 · cases h
 · cases h
 · cases h
 · cases hi:P.info? t with
   | none=>rw [hi] at h; simp at h
   | some i=>rw [hi] at h; simp at h; simp [sizeOf,typeInfo,hi,h]
theorem run_isAgg_agg {P:Program} {t:TypeId} {m:Nat} (h:aggTy P t m = true) (w:World):(isAgg t).run P w = .ok true w:=by
 unfold aggTy at h
 split at h
 · rename_i hu; simp [isAgg,run_underlying hu]
 · rename_i hu; simp [isAgg,run_underlying hu]
 · cases h
theorem size_agg {P:Program} {t:TypeId} {m:Nat} (h:aggTy P t m = true) (w:World):(sizeOf t).run P w = .ok m w:=by
 have h':(P.info? t).any (·.size == m) = true:=by
  unfold aggTy at h
  split at h
  · exact h
  · exact h
  · cases h
 cases hi:P.info? t with
 | none=>rw [hi] at h'; simp at h'
 | some i=>rw [hi] at h'; simp at h'; simp [sizeOf,typeInfo,hi,h']
end
section
variable {P:Program} {n:Nat} {S:World→World→Prop} {k:Nat} {K:Fr→World→Prop} {f:Fr} {w:World}
 {d ty t t2:Nat} {x y:Operand} {pos:String} {aft:Array Edge} {gd:Option (Nat × Bool)}
theorem run_load_one (ht:oneTy P t = true) {p:Addr} {v:Value} (hc:w.cell? p = some v):(Instr.loadAt t (.pointer (some p))).run P w = .ok v w:=by
 simp [Instr.loadAt,Instr.sureAddr,loadVar,run_isAgg_one ht,load,Sem.run,hc]
theorem R1_load1F (h3:k ≠ 3) (ht:oneTy P t = true) {p:Addr} {v:Value} (hx:ev n f x = .pointer (some p)) (hc:w.cell? p = some v) (h:K (upd f d v) w) :
 R1 P n (fun _ _=>False) k ⟨some d,.load t x,ty,pos,aft,gd⟩ K f w:=by
 refine R1_read h3 (v:=v) (fun w' hw=>?_) h
 obtain rfl:=hw.resolve_left id
 simp only [execOp,hx,Sem.run_bind,run_load_one ht hc,Result.andThen_ok,Sem.run_pure]
theorem R1_load1E (h3:k ≠ 3) (ht:oneTy P t = true) {p:Addr} {v:Value} (hx:ev n f x = .pointer (some p)) (hc:w.cell? p = some v) (h:K (upd f d v) w) :
 R1 P n Ext k ⟨some d,.load t x,ty,pos,aft,gd⟩ K f w:=by
 refine R1_read h3 (v:=v) (fun w' hw=>?_) h
 have hc':w'.cell? p = some v:=by
  rcases hw with hw | rfl
  · exact cell_ext hw hc
  · exact hc
 simp only [execOp,hx,Sem.run_bind,run_load_one ht hc',Result.andThen_ok,Sem.run_pure]
theorem add_zero (p:Addr):p.add 0 = p:=rfl
theorem run_load_two (ht:aggTy P t 2 = true) {p:Addr} {v0 v1:Value} (h0:w.cell? p = some v0) (h1:w.cell? (p.add 1) = some v1):(Instr.loadAt t (.pointer (some p))).run P w = .ok (.agg #[v0,v1]) w:=by
 simp [Instr.loadAt,Instr.sureAddr,loadVar,run_isAgg_agg ht,size_agg ht,loadCells,loadCellsFrom,load,Sem.run,h0,h1,add_zero]
theorem R1_load2F (h3:k ≠ 3) (ht:aggTy P t 2 = true) {p:Addr} {v0 v1:Value} (hx:ev n f x = .pointer (some p)) (h0:w.cell? p = some v0) (h1:w.cell? (p.add 1) = some v1) (h:K (upd f d (.agg #[v0,v1])) w) :
 R1 P n (fun _ _=>False) k ⟨some d,.load t x,ty,pos,aft,gd⟩ K f w:=by
 refine R1_read h3 (v:=.agg #[v0,v1]) (fun w' hw=>?_) h
 obtain rfl:=hw.resolve_left id
 simp only [execOp,hx,Sem.run_bind,run_load_two ht h0 h1,Result.andThen_ok,Sem.run_pure]
theorem R1_load2E (h3:k ≠ 3) (ht:aggTy P t 2 = true) {p:Addr} {v0 v1:Value} (hx:ev n f x = .pointer (some p)) (h0:w.cell? p = some v0) (h1:w.cell? (p.add 1) = some v1) (h:K (upd f d (.agg #[v0,v1])) w) :
 R1 P n Ext k ⟨some d,.load t x,ty,pos,aft,gd⟩ K f w:=by
 refine R1_read h3 (v:=.agg #[v0,v1]) (fun w' hw=>?_) h
 have hc:w'.cell? p = some v0∧w'.cell? (p.add 1) = some v1:=by
  rcases hw with hw | rfl
  · exact ⟨cell_ext hw h0,cell_ext hw h1⟩
  · exact ⟨h0,h1⟩
 simp only [execOp,hx,Sem.run_bind,run_load_two ht hc.1 hc.2,Result.andThen_ok,Sem.run_pure]
theorem run_store1 {a:Addr} {v u:Value} (ho:v.oneCell' = true) (hc:w.cell? a = some u) (hf:w.frozen? a = false):(store a v).run P w = .ok () (w.setCell a v):=by
 cases v <;> simp_all [store,Sem.run,Value.oneCell']
theorem oneCell_cells {v:Value} (ho:v.oneCell' = true):v.cells = #[v]:=by cases v <;> simp_all [Value.oneCell',Value.cells]
theorem run_store_one (ht:oneTy P t = true) {p:Addr} {v u:Value} (ho:v.oneCell' = true) (hc:w.cell? p = some u) (hf:w.frozen? p = false):(Instr.storeAt t (.pointer (some p)) v).run P w = .ok () (w.setCell p v):=by
 simp [Instr.storeAt,Instr.sureAddr,storeVar,size_one ht,oneCell_cells ho,storeCells,run_store1 ho hc hf,add_zero]
theorem R1_store1 (ht:oneTy P t = true) {g i:Nat} {T:TypeId} {cs:Array Value} {v:Value} (h0:k = 2 ∨ k = 1∧∀ w',Ch (fun b=>b = g) w w'→S w w') (hx:ev n f x = .pointer (some ⟨g,i,none⟩)) (hy:ev n f y = v) (ho:v.oneCell' = true) (hb:Blk w g T cs) (hi:i < cs.size)
 (h:∀ w',Blk w' g T (cs.setIfInBounds i v)→Ch (fun b=>b = g) w w'→w'.heap.size = w.heap.size→K f w') :
 R1 P n S k ⟨none,.store t x y,ty,pos,aft,gd⟩ K f w:=by
 have hc:w.cell? ⟨g,i,none⟩ = some cs[i]:=by rw [hb.cell]; simp [hi]
 have hch:Ch (fun b=>b = g) w (w.setCell ⟨g,i,none⟩ v):=ch_setCell w ⟨g,i,none⟩ v
 refine R1_skip (w':=w.setCell ⟨g,i,none⟩ v) (h0.imp id fun h=>⟨h.1,h.2 _ hch⟩) rfl ?_ (h _ (hb.set i v) hch (size_setCell _ _ _))
 simp only [execOp,hx,hy,Sem.run_bind,run_store_one ht ho hc (hb.frozen i),Result.andThen_ok,Sem.run_pure]
theorem R1_storeI (ht:oneTy P t = true) {g i:Nat} {T:TypeId} {cs:Array Value} {kd:IntKind} {z:Int} (h0:k = 2 ∨ k = 1∧∀ w',Ch (fun b=>b = g) w w'→S w w') (hx:ev n f x = .pointer (some ⟨g,i,none⟩)) (hy:ev n f y = .int kd z) (hb:Blk w g T cs) (hi:i < cs.size)
 (h:∀ w',Blk w' g T (cs.setIfInBounds i (.int kd z))→Ch (fun b=>b = g) w w'→w'.heap.size = w.heap.size→K f w') :
 R1 P n S k ⟨none,.store t x y,ty,pos,aft,gd⟩ K f w :=
 R1_store1 ht h0 hx hy rfl hb hi h
theorem R1_storeS (ht:oneTy P t = true) {g i:Nat} {T:TypeId} {cs:Array Value} {A:Option Addr} {m c:Nat} (h0:k = 2 ∨ k = 1∧∀ w',Ch (fun b=>b = g) w w'→S w w') (hx:ev n f x = .pointer (some ⟨g,i,none⟩)) (hy:ev n f y = .slice A m c) (hb:Blk w g T cs) (hi:i < cs.size)
 (h:∀ w',Blk w' g T (cs.setIfInBounds i (.slice A m c))→Ch (fun b=>b = g) w w'→w'.heap.size = w.heap.size→K f w') :
 R1 P n S k ⟨none,.store t x y,ty,pos,aft,gd⟩ K f w :=
 R1_store1 ht h0 hx hy rfl hb hi h
theorem R1_storeP (ht:oneTy P t = true) {g i:Nat} {T:TypeId} {cs:Array Value} {q:Option Addr} (h0:k = 2 ∨ k = 1∧∀ w',Ch (fun b=>b = g) w w'→S w w') (hx:ev n f x = .pointer (some ⟨g,i,none⟩)) (hy:ev n f y = .pointer q) (hb:Blk w g T cs) (hi:i < cs.size)
 (h:∀ w',Blk w' g T (cs.setIfInBounds i (.pointer q))→Ch (fun b=>b = g) w w'→w'.heap.size = w.heap.size→K f w') :
 R1 P n S k ⟨none,.store t x y,ty,pos,aft,gd⟩ K f w :=
 R1_store1 ht h0 hx hy rfl hb hi h
theorem run_store_two (ht:aggTy P t 2 = true) {g i:Nat} {T:TypeId} {cs:Array Value} {v0 v1:Value} (o0:v0.oneCell' = true) (o1:v1.oneCell' = true) (hb:Blk w g T cs) (hi:i + 1 < cs.size) :
 (Instr.storeAt t (.pointer (some ⟨g,i,none⟩)) (.agg #[v0,v1])).run P w = .ok () ((w.setCell ⟨g,i,none⟩ v0).setCell ⟨g,i + 1,none⟩ v1):=by
 have hc:w.cell? ⟨g,i,none⟩ = some cs[i]:=by rw [hb.cell]; simp
 have hb1:=hb.set i v0
 have hc1:(w.setCell ⟨g,i,none⟩ v0).cell? ⟨g,i + 1,none⟩ = some cs[i + 1]:=by rw [hb1.cell]; simp [hi]
 simp [Instr.storeAt,Instr.sureAddr,storeVar,size_agg ht,Value.cells,storeCells,run_store1 o0 hc (hb.frozen i),add_zero,add_lit,run_store1 o1 hc1 (hb1.frozen (i + 1))]
theorem R1_store2 (ht:aggTy P t 2 = true) {g i:Nat} {T:TypeId} {cs:Array Value} {v0 v1:Value} (h0:k = 2 ∨ k = 1∧∀ w',Ch (fun b=>b = g) w w'→S w w') (hx:ev n f x = .pointer (some ⟨g,i,none⟩)) (hy:ev n f y = .agg #[v0,v1]) (o0:v0.oneCell' = true) (o1:v1.oneCell' = true) (hb:Blk w g T cs) (hi:i + 1 < cs.size)
 (h:∀ w',Blk w' g T ((cs.setIfInBounds i v0).setIfInBounds (i + 1) v1)→Ch (fun b=>b = g) w w'→w'.heap.size = w.heap.size→K f w') :
 R1 P n S k ⟨none,.store t x y,ty,pos,aft,gd⟩ K f w:=by
 have hch:Ch (fun b=>b = g) w ((w.setCell ⟨g,i,none⟩ v0).setCell ⟨g,i + 1,none⟩ v1):=(ch_setCell w ⟨g,i,none⟩ v0).trans (ch_setCell _ ⟨g,i + 1,none⟩ v1)
 refine R1_skip (w':=(w.setCell ⟨g,i,none⟩ v0).setCell ⟨g,i + 1,none⟩ v1) (h0.imp id fun h=>⟨h.1,h.2 _ hch⟩) rfl ?_ (h _ ((hb.set i v0).set (i + 1) v1) hch (by rw [size_setCell,size_setCell]))
 simp only [execOp,hx,hy,Sem.run_bind,run_store_two ht o0 o1 hb hi,Result.andThen_ok,Sem.run_pure]
theorem R1_new {o:Oper} {T:TypeId} {cs:Array Value} {v:Value} (hS:k = 2 ∨ k = 1∧∀ w',Ext w w'→S w w') (hr:(execOp (ev n f) o).run P w = .ok (.value v) (w.alloc (.cells cs T)))
 (h:∀ w',Blk w' w.heap.size T cs→Ext w w'→w'.heap.size = w.heap.size + 1→K (updO f o.dst v) w'):R1 P n S k o K f w :=
 R1_loud (hS.imp id fun h=>⟨h.1,h.2 _ (ch_alloc w _)⟩) hr (h _ (Blk.new w T cs) (ch_alloc w _) (by simp))
theorem R1_alloc {z:Value} (hS:k = 2 ∨ k = 1∧∀ w',Ext w w'→S w w') (hz:ZeroTy P t z)
 (h:∀ w',Blk w' w.heap.size t z.cells→Ext w w'→w'.heap.size = w.heap.size + 1→K (upd f d (.pointer (some ⟨w.heap.size,0,none⟩))) w'):R1 P n S k ⟨some d,.alloc t,ty,pos,aft,gd⟩ K f w:=by
 refine R1_new (T:=t) (cs:=z.cells) (v:=.pointer (some ⟨w.heap.size,0,none⟩)) hS ?_ h
 unfold ZeroTy at hz
 cases hi:P.info? t with
 | none=>rw [hi] at hz; simp at hz
 | some i =>
  rw [hi] at hz
  simp at hz
  simp [execOp,Instr.alloc,zeroValue,typeInfo,hi,hz,newVar,newRow]
theorem R1_box {v:Value} (hS:k = 2 ∨ k = 1∧∀ w',Ext w w'→S w w') (hx:ev n f x = v)
 (h:∀ w',Blk w' w.heap.size t v.cells→Ext w w'→w'.heap.size = w.heap.size + 1→K (upd f d (.pointer (some ⟨w.heap.size,0,none⟩))) w'):R1 P n S k ⟨some d,.box t x,ty,pos,aft,gd⟩ K f w:=by
 refine R1_new (T:=t) (cs:=v.cells) (v:=.pointer (some ⟨w.heap.size,0,none⟩)) hS ?_ h
 simp [execOp,Instr.box,hx,newVar,newRow]
theorem R1_make {e sz bytes m c:Nat} {z:Value} (hT:SliceTy P t e sz bytes z) (hS:k = 2 ∨ k = 1∧∀ w',Ext w w'→S w w') (hx:ev n f x = .int .i64 ((m:Nat):Int)) (hy:ev n f y = .int .i64 ((c:Nat):Int)) (hmc:m≤c) (hb:bytes * c≤281474976710656) (hc:c≤9223372036854775807)
 (h:∀ w',Blk w' w.heap.size e (madeCells z.cells (c * sz))→Ext w w'→w'.heap.size = w.heap.size + 1→K (upd f d (.slice (some ⟨w.heap.size,0,none⟩) m c)) w'):R1 P n S k ⟨some d,.makeSlice t x y,ty,pos,aft,gd⟩ K f w:=by
 refine R1_new (T:=e) (cs:=madeCells z.cells (c * sz)) (v:=.slice (some ⟨w.heap.size,0,none⟩) m c) hS ?_ h
 obtain ⟨hu,hinfo⟩:=hT
 cases hi:P.info? e with
 | none=>rw [hi] at hinfo; simp at hinfo
 | some i =>
  rw [hi] at hinfo
  simp at hinfo
  obtain ⟨hz,hsz,hby⟩:=hinfo
  have hr:=run_make (P:=P) w t e i z hu hi hz .i64 .i64 (m:Int) (c:Int) (by omega) (by omega) (by rw [hby,← Int.natCast_mul]; exact Int.ofNat_le.2 hb) (by omega)
  simp only [Int.toNat_natCast,hsz] at hr
  simp only [execOp,hx,hy,Sem.run_bind,hr,Result.andThen_ok,Sem.run_pure]
theorem set_two (xs:Array Value) (h:xs.size = 2) {v0 v1:Value}:(xs.setIfInBounds 0 v0).setIfInBounds 1 v1 = #[v0,v1]:=by
 obtain ⟨l⟩:=xs
 match l,h with
 | [_,_],_=>rfl
theorem R1_build2 {e bytes:Nat} {z v0 v1:Value} {y0 y1:Operand} (hT:SliceTy P t e 1 bytes z) (hz:z.oneCell' = true) (hS:k = 2 ∨ k = 1∧∀ w',Ext w w'→S w w') (h0:ev n f y0 = v0) (h1:ev n f y1 = v1) (o0:v0.oneCell' = true) (o1:v1.oneCell' = true)
 (h:∀ w',Blk w' w.heap.size e #[v0,v1]→Ext w w'→w'.heap.size = w.heap.size + 1→K (upd f d (.slice (some ⟨w.heap.size,0,none⟩) 2 2)) w'):R1 P n S k ⟨some d,.buildSlice t 2 #[(0,y0),(1,y1)],ty,pos,aft,gd⟩ K f w:=by
 refine R1_new (T:=e) (cs:=#[v0,v1]) (v:=.slice (some ⟨w.heap.size,0,none⟩) 2 2) hS ?_ h
 obtain ⟨hu,hinfo⟩:=hT
 cases hi:P.info? e with
 | none=>rw [hi] at hinfo; simp at hinfo
 | some i =>
  rw [hi] at hinfo
  simp at hinfo
  obtain ⟨hz',hsz,hby⟩:=hinfo
  simp [execOp,Instr.buildSlice,run_underlying hu,sizeOf,typeInfo,hi,hsz,zeroValue,hz',h0,h1,Instr.fill,oneCell_cells o0,oneCell_cells o1,oneCell_cells hz,newRow,Array.range]
  rw [set_two _ (by simp [hsz])]
theorem R1_len {e sz bytes m c:Nat} {z:Value} {A:Option Addr} (hT:SliceTy P t e sz bytes z) (hx:ev n f x = .slice A m c) (h:K (upd f d (.int .i64 ((m:Nat):Int))) w) :
 R1 P n S k ⟨some d,.call { callee:=.builtin .len,args:=#[x],argTypes:=#[t] },ty,pos,aft,gd⟩ K f w:=by
 refine R1_pure (v:=.int .i64 ((m:Nat):Int)) (fun w=>?_) h
 simp [execOp,resolve,invoke,builtin,Builtin.len_,run_underlying hT.und,hx,goInt]
theorem size_info {e sz bytes:Nat} {z:Value} (hinfo:(P.info? e).map (fun i=>(i.zero,i.size,i.bytes)) = some (some z,sz,bytes)) (w:World):(sizeOf e).run P w = .ok sz w:=by
 cases hi:P.info? e with
 | none=>rw [hi] at hinfo; simp at hinfo
 | some i =>
  rw [hi] at hinfo
  simp at hinfo
  simp [sizeOf,typeInfo,hi,hinfo.2.1]
theorem R1_index {e sz bytes m c j:Nat} {z:Value} {ad:Addr} (hT:SliceTy P t e sz bytes z) (hx:ev n f x = .slice (some ad) m c) (hy:ev n f y = .int .i64 ((j:Nat):Int)) (hj:j < m)
 (h:K (upd f d (.pointer (some (ad.add (j * sz))))) w):R1 P n S k ⟨some d,.indexAddr t x y,ty,pos,aft,gd⟩ K f w:=by
 refine R1_pure (v:=.pointer (some (ad.add (j * sz)))) (fun w=>?_) h
 have h1:(0:Int)≤(j:Int)∧(j:Int) < (m:Int):=by omega
 simp only [execOp,hx,hy,Instr.indexAt,asIntOf,Sem.run_bind,Sem.run_pure,Result.andThen_ok,run_underlying hT.und,h1,and_self,if_true,size_info hT.info,Int.toNat_natCast]
theorem R1_indexB {e sz bytes m c j G o:Nat} {z:Value} (hT:SliceTy P t e sz bytes z) (hx:ev n f x = .slice (some ⟨G,o,none⟩) m c) (hy:ev n f y = .int .i64 ((j:Nat):Int)) (hj:j < m)
 (h:K (upd f d (.pointer (some ⟨G,o + j * sz,none⟩))) w):R1 P n S k ⟨some d,.indexAddr t x y,ty,pos,aft,gd⟩ K f w :=
 R1_index hT hx hy hj (by rw [add_lit]; exact h)
theorem R1_index0 {e sz bytes m c:Nat} {z:Value} {ad:Addr} (hT:SliceTy P t e sz bytes z) (hx:ev n f x = .slice (some ad) m c) (hj:0 < m)
 (h:K (upd f d (.pointer (some (ad.add (0 * sz))))) w):R1 P n S k ⟨some d,.indexAddr t x (.const (.int .i64 0)),ty,pos,aft,gd⟩ K f w :=
 R1_index hT hx (j:=0) rfl hj h
theorem R1_index0B {e sz bytes m c G o:Nat} {z:Value} (hT:SliceTy P t e sz bytes z) (hx:ev n f x = .slice (some ⟨G,o,none⟩) m c) (hj:0 < m)
 (h:K (upd f d (.pointer (some ⟨G,o + 0 * sz,none⟩))) w):R1 P n S k ⟨some d,.indexAddr t x (.const (.int .i64 0)),ty,pos,aft,gd⟩ K f w :=
 R1_indexB hT hx (j:=0) rfl hj h
theorem R1_sliceLH {e sz bytes m c l r:Nat} {z:Value} {A:Option Addr} {lo hi:Operand} (hT:SliceTy P t e sz bytes z) (hx:ev n f x = .slice A m c) (hl:ev n f lo = .int .i64 ((l:Nat):Int)) (hr:ev n f hi = .int .i64 ((r:Nat):Int)) (hlr:l≤r) (hrc:r≤c)
 (h:K (upd f d (.slice (if c = l then A else A.map (·.add (l * sz))) (r - l) (c - l))) w):R1 P n S k ⟨some d,.slice t x (some lo) (some hi) none,ty,pos,aft,gd⟩ K f w:=by
 refine R1_pure (v:=.slice (if c = l then A else A.map (·.add (l * sz))) (r - l) (c - l)) (fun w=>?_) h
 have h1:(0:Int)≤(r:Int)∧(r:Int)≤(c:Int):=by omega
 have h2:(0:Int)≤(l:Int)∧(l:Int)≤(r:Int):=by omega
 simp [execOp,hx,hl,hr,Instr.sliceAt,run_underlying hT.und,Instr.slice,Instr.sliceBounds,Instr.sliceBound,asIntOf,size_info hT.info,hlr,hrc]
theorem R1_sliceLHB {e sz bytes m c l r G o:Nat} {z:Value} {lo hi:Operand} (hT:SliceTy P t e sz bytes z) (hx:ev n f x = .slice (some ⟨G,o,none⟩) m c) (hl:ev n f lo = .int .i64 ((l:Nat):Int)) (hr:ev n f hi = .int .i64 ((r:Nat):Int)) (hlr:l≤r) (hrc:r≤c) (hlc:l < c)
 (h:K (upd f d (.slice (some ⟨G,o + l * sz,none⟩) (r - l) (c - l))) w):R1 P n S k ⟨some d,.slice t x (some lo) (some hi) none,ty,pos,aft,gd⟩ K f w :=
 R1_sliceLH hT hx hl hr hlr hrc (by rw [if_neg (by omega),Option.map_some,add_lit]; exact h)
theorem R1_sliceH {e sz bytes m c r:Nat} {z:Value} {A:Option Addr} {hi:Operand} (hT:SliceTy P t e sz bytes z) (hx:ev n f x = .slice A m c) (hr:ev n f hi = .int .i64 ((r:Nat):Int)) (hrc:r≤c)
 (h:K (upd f d (.slice A r c)) w):R1 P n S k ⟨some d,.slice t x none (some hi) none,ty,pos,aft,gd⟩ K f w:=by
 refine R1_pure (v:=.slice A r c) (fun w=>?_) h
 have e1:(if c = 0 then A else A.map (·.add (0 * sz))) = A:=by
  split
  · rfl
  · cases A <;> simp [add_zero]
 simp [execOp,hx,hr,Instr.sliceAt,run_underlying hT.und,Instr.slice,Instr.sliceBounds,Instr.sliceBound,asIntOf,size_info hT.info,hrc]
 simpa using e1
theorem R1_sliceL {e sz bytes m c l:Nat} {z:Value} {A:Option Addr} {lo:Operand} (hT:SliceTy P t e sz bytes z) (hx:ev n f x = .slice A m c) (hl:ev n f lo = .int .i64 ((l:Nat):Int)) (hlr:l≤m)
 (h:K (upd f d (.slice (if c = l then A else A.map (·.add (l * sz))) (m - l) (c - l))) w):R1 P n S k ⟨some d,.slice t x (some lo) none none,ty,pos,aft,gd⟩ K f w:=by
 refine R1_pure (v:=.slice (if c = l then A else A.map (·.add (l * sz))) (m - l) (c - l)) (fun w=>?_) h
 simp [execOp,hx,hl,Instr.sliceAt,run_underlying hT.und,Instr.slice,Instr.sliceBounds,Instr.sliceBound,asIntOf,size_info hT.info,hlr]
theorem R1_extract {vs:Array Value} {i:Nat} {v:Value} (hx:ev n f x = .tuple vs) (hi:vs[i]? = some v) (h:K (upd f d v) w):R1 P n S k ⟨some d,.extract x i,ty,pos,aft,gd⟩ K f w :=
 R1_pure (v:=v) (fun _=>by simp [execOp,hx,Instr.extract,hi]) h
theorem R1_pickT {c b:Operand} {i:Nat} (hc:ev n f c = .bool true) (hi:Nat.blt i n = true) (h:K (mv f d i) w):R1 P n S k ⟨some d,.pick c (.tmp i) b,ty,pos,aft,gd⟩ K f w:=by
 refine R1_pure (v:=ev n f (.tmp i)) (fun _=>by simp [execOp,hc,asBool]) ?_
 have e:updO f (some d) (ev n f (.tmp i)) = mv f d i:=by funext j; simp [ev,hi,updO,mv,upd]
 rw [e]; exact h
theorem R1_pickF {c a:Operand} {i:Nat} (hc:ev n f c = .bool false) (hi:Nat.blt i n = true) (h:K (mv f d i) w):R1 P n S k ⟨some d,.pick c a (.tmp i),ty,pos,aft,gd⟩ K f w:=by
 refine R1_pure (v:=ev n f (.tmp i)) (fun _=>by simp [execOp,hc,asBool]) ?_
 have e:updO f (some d) (ev n f (.tmp i)) = mv f d i:=by funext j; simp [ev,hi,updO,mv,upd]
 rw [e]; exact h
theorem R1_pickTC {c b:Operand} {v:Value} (hc:ev n f c = .bool true) (h:K (upd f d v) w):R1 P n S k ⟨some d,.pick c (.const v) b,ty,pos,aft,gd⟩ K f w :=
 R1_pure (v:=v) (fun _=>by simp [execOp,hc,asBool,show ev n f (.const v) = v from rfl]) h
theorem R1_pickFC {c a:Operand} {v:Value} (hc:ev n f c = .bool false) (h:K (upd f d v) w):R1 P n S k ⟨some d,.pick c a (.const v),ty,pos,aft,gd⟩ K f w :=
 R1_pure (v:=v) (fun _=>by simp [execOp,hc,asBool,show ev n f (.const v) = v from rfl]) h
theorem R1_pickTD {c b:Operand} {i:Nat} {p:Prop} {inst:Decidable p} (hc:ev n f c = .bool (@decide p inst)) (hp:p) (hi:Nat.blt i n = true) (h:K (mv f d i) w):R1 P n S k ⟨some d,.pick c (.tmp i) b,ty,pos,aft,gd⟩ K f w :=
 R1_pickT (by rw [hc,decide_eq_true hp]) hi h
theorem R1_pickFD {c a:Operand} {i:Nat} {p:Prop} {inst:Decidable p} (hc:ev n f c = .bool (@decide p inst)) (hp:¬ p) (hi:Nat.blt i n = true) (h:K (mv f d i) w):R1 P n S k ⟨some d,.pick c a (.tmp i),ty,pos,aft,gd⟩ K f w :=
 R1_pickF (by rw [hc,decide_eq_false hp]) hi h
theorem R1_pickTCD {c b:Operand} {v:Value} {p:Prop} {inst:Decidable p} (hc:ev n f c = .bool (@decide p inst)) (hp:p) (h:K (upd f d v) w):R1 P n S k ⟨some d,.pick c (.const v) b,ty,pos,aft,gd⟩ K f w :=
 R1_pickTC (by rw [hc,decide_eq_true hp]) h
theorem R1_pickFCD {c a:Operand} {v:Value} {p:Prop} {inst:Decidable p} (hc:ev n f c = .bool (@decide p inst)) (hp:¬ p) (h:K (upd f d v) w):R1 P n S k ⟨some d,.pick c a (.const v),ty,pos,aft,gd⟩ K f w :=
 R1_pickFC (by rw [hc,decide_eq_false hp]) h
theorem R1_not {b:Bool} (hx:ev n f x = .bool b) (h:K (upd f d (.bool !b)) w):R1 P n S k ⟨some d,.unOp .not t x,ty,pos,aft,gd⟩ K f w :=
 R1_pure (v:=.bool !b) (fun _=>by simp [execOp,hx,Op.unary]) h
theorem R1_neg_z {a:Int} (hx:ev n f x = .int .i64 a) (h1:-9223372036854775808≤0 - a) (h2:0 - a < 9223372036854775808) (h:K (upd f d (.int .i64 (0 - a))) w):R1 P n S k ⟨some d,.unOp .neg t x,ty,pos,aft,gd⟩ K f w :=
 R1_pure (v:=.int .i64 (0 - a)) (fun _=>by simp only [execOp,hx,Op.unary,Op.intArith,Sem.run_bind,Sem.run_pure,Result.andThen_ok,wrap_i64 h1 h2]) h
theorem R1_neg_u64 {a:Nat} (hx:ev n f x = .int .u64 (a:Int)) (ha:a≤18446744073709551616) (h:K (upd f d (.int .u64 (((18446744073709551616 - a) % 18446744073709551616:Nat):Int))) w):R1 P n S k ⟨some d,.unOp .neg t x,ty,pos,aft,gd⟩ K f w:=by
 refine R1_pure (v:=.int .u64 (((18446744073709551616 - a) % 18446744073709551616:Nat):Int)) (fun _=>?_) h
 have e:IntKind.u64.wrap (0 - (a:Int)) = (((18446744073709551616 - a) % 18446744073709551616:Nat):Int):=by rw [wrap_u64]; omega
 simp only [execOp,hx,Op.unary,Op.intArith,Sem.run_bind,Sem.run_pure,Result.andThen_ok,e]
theorem R1_conv {sd:TypeDesc} {k1 k2:IntKind} {a b:Int} (hs:TyD P t sd) (ht:TyD P t2 (.int k2)) (hx:ev n f x = .int k1 a) (hb:k2.wrap a = b) (h:K (upd f d (.int k2 b)) w):R1 P n S k ⟨some d,.convert t t2 x,ty,pos,aft,gd⟩ K f w:=by
 refine R1_pure (v:=.int k2 b) (fun _=>?_) h
 simp [execOp,hx,convert,run_underlying hs,run_underlying ht,Conv.intToInt,hb]
section
variable {a:Nat}
theorem R1_u32_u64 (hs:TyD P t (.int .u32)) (ht:TyD P t2 (.int .u64)) (hx:ev n f x = .int .u32 ((a:Nat):Int)) (ha:a < 4294967296) (h:K (upd f d (.int .u64 ((a:Nat):Int))) w):R1 P n S k ⟨some d,.convert t t2 x,ty,pos,aft,gd⟩ K f w :=
 R1_conv hs ht hx (wrap_u64n (Nat.lt_trans ha (by decide))) h
theorem R1_u64_u32 (hs:TyD P t (.int .u64)) (ht:TyD P t2 (.int .u32)) (hx:ev n f x = .int .u64 ((a:Nat):Int)) (h:K (upd f d (.int .u32 ((a % 4294967296:Nat):Int))) w):R1 P n S k ⟨some d,.convert t t2 x,ty,pos,aft,gd⟩ K f w :=
 R1_conv hs ht hx (wrap_u32m _) h
theorem R1_i64_u64 (hs:TyD P t (.int .i64)) (ht:TyD P t2 (.int .u64)) {z:Int} (hx:ev n f x = .int .i64 z) (h:K (upd f d (.int .u64 ((z % 18446744073709551616).toNat:Int))) w):R1 P n S k ⟨some d,.convert t t2 x,ty,pos,aft,gd⟩ K f w :=
 R1_conv hs ht hx (by rw [wrap_u64,Int.toNat_of_nonneg (Int.emod_nonneg _ (by decide))]) h
end
theorem R1_u32_u8 {a:Nat} (hs:TyD P t (.int .u32)) (ht:TyD P t2 (.int .u8)) (hx:ev n f x = .int .u32 ((a:Nat):Int)) (h:K (upd f d (.int .u8 ((a % 256:Nat):Int))) w):R1 P n S k ⟨some d,.convert t t2 x,ty,pos,aft,gd⟩ K f w :=
 R1_conv hs ht hx (by rw [IntKind.wrap_u8]; omega) h
theorem R1_u8_i64 {a:Nat} (hs:TyD P t (.int .u8)) (ht:TyD P t2 (.int .i64)) (hx:ev n f x = .int .u8 ((a:Nat):Int)) (ha:a < 256) (h:K (upd f d (.int .i64 ((a:Nat):Int))) w):R1 P n S k ⟨some d,.convert t t2 x,ty,pos,aft,gd⟩ K f w :=
 R1_conv hs ht hx (wrap_i64n (by omega)) h
theorem R1_indexStr {s:ByteArray} {b:UInt8} {kk:IntKind} {j:Nat} (hT:TyD P t .string) (hx:ev n f x = .string s) (hy:ev n f y = .int kk ((j:Nat):Int)) (hb:s[j]? = some b) (h:K (upd f d (.int .u8 ((b.toNat:Nat):Int))) w) :
 R1 P n S k ⟨some d,.index t x y,ty,pos,aft,gd⟩ K f w:=by
 unfold TyD at hT
 refine R1_pure (v:=.int .u8 ((b.toNat:Nat):Int)) (fun w=>?_) h
 simp [execOp,hx,hy,Instr.index,asIntOf,run_underlying hT,hb]
theorem R1_func {fn:Fn} {first captured:Array Operand} (h:K (upd f d (.func fn (first.map (ev n f)) (captured.map (ev n f)))) w):R1 P n S k ⟨some d,.makeFunc fn first captured,ty,pos,aft,gd⟩ K f w :=
 R1_pure (v:=.func fn (first.map (ev n f)) (captured.map (ev n f))) (fun _=>rfl) h
def FieldA (P:Program) (t i off:Nat):Prop:=∀ a w,(Instr.fieldAt t (.pointer (some a)) i).run P w = .ok (.pointer (some (a.add off))) w
theorem R1_fieldAddr {i off G o:Nat} (hF:FieldA P t i off) (hx:ev n f x = .pointer (some ⟨G,o,none⟩)) (h:K (upd f d (.pointer (some ⟨G,o + off,none⟩))) w):R1 P n S k ⟨some d,.fieldAddr t x i,ty,pos,aft,gd⟩ K f w:=by
 refine R1_pure (v:=.pointer (some ⟨G,o + off,none⟩)) (fun w=>?_) h
 simp only [execOp,hx,Sem.run_bind,hF _ w,Result.andThen_ok,Sem.run_pure,add_lit]
theorem R1_fieldAddrG {i off:Nat} {a:Addr} (hF:FieldA P t i off) (hx:ev n f x = .pointer (some a)) (h:K (upd f d (.pointer (some (a.add off)))) w):R1 P n S k ⟨some d,.fieldAddr t x i,ty,pos,aft,gd⟩ K f w:=by
 refine R1_pure (v:=.pointer (some (a.add off))) (fun w=>?_) h
 simp only [execOp,hx,Sem.run_bind,hF _ w,Result.andThen_ok,Sem.run_pure]
def Build0 (P:Program) (t:Nat) (z:Value):Prop:=∀ w,(Instr.build t #[]).run P w = .ok z w
def Build2 (P:Program) (t:Nat):Prop:=∀ v0 v1 w,v0.oneCell' = true→v1.oneCell' = true→(Instr.build t #[(0,v0),(1,v1)]).run P w = .ok (.agg #[v0,v1]) w
theorem R1_bld0 {z:Value} (hB:Build0 P t z) (h:K (upd f d z) w):R1 P n S k ⟨some d,.build t #[],ty,pos,aft,gd⟩ K f w:=by
 refine R1_pure (v:=z) (fun w=>?_) h
 have:(#[]:Array (Nat × Operand)).map (fun (i,x)=>(i,ev n f x)) = #[]:=by simp
 simp only [execOp,this,Sem.run_bind,hB w,Result.andThen_ok,Sem.run_pure]
theorem R1_bld2 {v0 v1:Value} {y0 y1:Operand} (hB:Build2 P t) (h0:ev n f y0 = v0) (h1:ev n f y1 = v1) (o0:v0.oneCell' = true) (o1:v1.oneCell' = true) (h:K (upd f d (.agg #[v0,v1])) w):R1 P n S k ⟨some d,.build t #[(0,y0),(1,y1)],ty,pos,aft,gd⟩ K f w:=by
 refine R1_pure (v:=.agg #[v0,v1]) (fun w=>?_) h
 have:(#[(0,y0),(1,y1)]:Array (Nat × Operand)).map (fun (i,x)=>(i,ev n f x)) = #[(0,v0),(1,v1)]:=by simp [h0,h1]
 simp only [execOp,this,Sem.run_bind,hB v0 v1 w o0 o1,Result.andThen_ok,Sem.run_pure]
def BoolTy (P:Program) (t:Nat):Prop:=∀ a b w,(binOp .eql t (.bool a) (.bool b)).run P w = .ok (.bool (a == b)) w∧(binOp .neq t (.bool a) (.bool b)).run P w = .ok (.bool (a != b)) w
theorem R1_eql_bool {a b:Bool} (hB:BoolTy P t) (hx:ev n f x = .bool a) (hy:ev n f y = .bool b) (h:K (upd f d (.bool (a == b))) w):R1 P n S k ⟨some d,.binOp .eql t x y t2,ty,pos,aft,gd⟩ K f w :=
 R1_bin hx hy (fun _=>by simp [eqGuard,go_sem]) (fun w=>(hB a b w).1) h
theorem R1_neq_bool {a b:Bool} (hB:BoolTy P t) (hx:ev n f x = .bool a) (hy:ev n f y = .bool b) (h:K (upd f d (.bool (a != b))) w):R1 P n S k ⟨some d,.binOp .neq t x y t2,ty,pos,aft,gd⟩ K f w :=
 R1_bin hx hy (fun _=>by simp [eqGuard,go_sem]) (fun w=>(hB a b w).2) h
theorem run_eq_bool (h:P.underlying t = some .bool) (dep:Nat) (a b:Bool) (w:World):(Op.equalIn (dep + 1) t (.bool a) (.bool b)).run P w = .ok (a == b) w:=by
 simp [Op.equalIn,run_underlying h]
theorem boolTy_of (h:TyD P t .bool):BoolTy P t:=by
 unfold TyD at h
 intro a b w
 constructor
 · simp only [binOp]
   simp [Op.equal,Op.maxDepth,run_eq_bool h 9999]
 · simp only [binOp]
   simp [Op.equal,Op.maxDepth,run_eq_bool h 9999]
   cases a <;> cases b <;> rfl
def Enters (P:Program) (g:FuncId):Prop:=∀ args w,(callFunc g args).run P w = .ok (.enter g args) w
def Ret (post:Value→World→Prop):Ending→World→Prop:=fun e w'=>∃ v,e = .returned v∧post v w'
structure Meets (P:Program) (g:FuncId) (args:Array Value) (w:World) (post:Value→World→Prop):Prop where
 enters:Enters P g
 calls:Calls P g args w (Ret post)
theorem Meets.mono {g:FuncId} {args:Array Value} {post post':Value→World→Prop} (h:Meets P g args w post) (hp:∀ v w',post v w'→post' v w'):Meets P g args w post' :=
 ⟨h.enters,h.calls.mono fun _ w' ⟨v,he,hq⟩=>⟨v,he,hp v w' hq⟩⟩
theorem enters_of {g : FuncId} {fn : Func} {c : Code} (hf : P.funcs[g]? = some fn) (hb : fn.body = some c) (hn : (fn.name == "runtime.NumGoroutine") = false) : Enters P g := by
 intro args w
 have hn' : ¬ fn.name = "runtime.NumGoroutine" := by simpa using hn
 simp [callFunc,program,Sem.run,hf,hb,hn']
theorem R1_call {g:FuncId} {args:Array Operand} {ats:Array TypeId} {vs:Array Value} {post:Value→World→Prop} (h0:k = 2 ∨ k = 1) (ha:args.map (ev n f) = vs) (hc:Meets P g vs w post)
 (h:∀ v w',post v w'→(k = 1→S w w')∧K (upd f d v) w'):R1 P n S k ⟨some d,.call { callee:=.value (.func g),args:=args,argTypes:=ats },ty,pos,aft,gd⟩ K f w:=by
 refine R1_enter h0 (g:=g) (args:=vs) ?_ hc.calls fun e w' ⟨v,he,hp⟩=>⟨v,he,h v w' hp⟩
 simp [execOp,resolve,ev,Deferred.ofValue,invoke,ha,hc.enters vs w]
theorem R1_call2 {g:FuncId} {l:List Operand} {ats:Array TypeId} {post:Value→World→Prop} (hc:Meets P g (l.map (ev n f)).toArray w post)
 (h:∀ v w',post v w'→K (upd f d v) w'):R1 P n S 2 ⟨some d,.call { callee:=.value (.func g),args:=l.toArray,argTypes:=ats },ty,pos,aft,gd⟩ K f w :=
 R1_call (.inl rfl) (by simp) hc fun v w' hp=>⟨(fun h=>absurd h (by decide)),h v w' hp⟩
theorem R1_call1 {g:FuncId} {l:List Operand} {ats:Array TypeId} {post:Value→World→Prop} (hc:Meets P g (l.map (ev n f)).toArray w post)
 (h:∀ v w',post v w'→Ext w w'∧K (upd f d v) w'):R1 P n Ext 1 ⟨some d,.call { callee:=.value (.func g),args:=l.toArray,argTypes:=ats },ty,pos,aft,gd⟩ K f w :=
 R1_call (.inr rfl) (by simp) hc fun v w' hp=>⟨fun _=>(h v w' hp).1,(h v w' hp).2⟩
theorem R1_callv {g:FuncId} {x:Operand} {args:Array Operand} {ats:Array TypeId} {first captured vs:Array Value} {post:Value→World→Prop} (h0:k = 2 ∨ k = 1) (hx:ev n f x = .func (.func g) first captured) (ha:first ++ args.map (ev n f) ++ captured = vs) (hc:Meets P g vs w post)
 (h:∀ v w',post v w'→(k = 1→S w w')∧K (upd f d v) w'):R1 P n S k ⟨some d,.call { callee:=.value x,args:=args,argTypes:=ats },ty,pos,aft,gd⟩ K f w:=by
 refine R1_enter h0 (g:=g) (args:=vs) ?_ hc.calls fun e w' ⟨v,he,hp⟩=>⟨v,he,h v w' hp⟩
 simp [execOp,resolve,hx,Deferred.ofValue,invoke,ha,hc.enters vs w]
theorem W_seqR {Q:Exit→Fr→World→Prop} {id:Nat} {l:List Oper} {c:Code} (h:Rl P n l.toArray (W P n c Q) l f w):W P n (.seq (.region id l.toArray false) c) Q f w :=
 W_seq (W_region (by rw [thenF_fun]; exact h))
theorem W_reg {Q:Exit→Fr→World→Prop} {id:Nat} {l:List Oper} (h:Rl P n l.toArray (Q .normal) l f w):W P n (.region id l.toArray false) Q f w:=W_region h
theorem Ext_trans:∀ a b c:World,Ext a b→Ext b c→Ext a c:=fun _ _ _ h k=>h.trans k
theorem W_seqD {Q:Exit→Fr→World→Prop} {id:Nat} {ops:Array Oper} {c:Code} (ord:List (Nat × Nat)) (hm:P.follows .mixedOrders = true)
 (hlen:(ord.length == ops.size && Region.noSelect ops && ordOk ops (hot ord) ord (Array.replicate ops.size false)) = true)
 (h:∀ w',Ext w w'→w'.heap = w.heap→Ro P n ops Ext (W P n c Q) ord f w'):W P n (.seq (.region id ops true) c) Q f w :=
 W_seq (W_draw Ext Ext_trans ord hm hlen (by rw [thenF_fun]; exact h _ (ch_drew w) rfl))
theorem W_regD {Q:Exit→Fr→World→Prop} {id:Nat} {ops:Array Oper} (ord:List (Nat × Nat)) (hm:P.follows .mixedOrders = true)
 (hlen:(ord.length == ops.size && Region.noSelect ops && ordOk ops (hot ord) ord (Array.replicate ops.size false)) = true)
 (h:∀ w',Ext w w'→w'.heap = w.heap→Ro P n ops Ext (Q .normal) ord f w'):W P n (.region id ops true) Q f w :=
 W_draw Ext Ext_trans ord hm hlen (h _ (ch_drew w) rfl)
theorem ret1 {fn:Func} {t:Tmp} {post:Value→World→Prop} {v:Value} (hr:fn.results = #[.tmp t]) (hv:ev n f (.tmp t) = v) (h:post v w):bodyPost P fn (Ret post) .ret (act n f) w:=by
 refine bodyPost_ret (results_tmp hr _ _ _) rfl ⟨v,?_,h⟩
 have:=congrFun (act_eval n f) (.tmp t)
 simp only [Act.eval] at this
 rw [this,hv]
theorem retC {fn:Func} {t:Tmp} {T G:Nat} {post:Value→World→Prop} {x y:Value} (hr:fn.results = #[.cell t T]) (hT:aggTy P T 2 = true) (hv:ev n f (.tmp t) = .pointer (some ⟨G,0,none⟩)) (hb:Blk w G T #[x,y]) (h:post (.agg #[x,y]) w):bodyPost P fn (Ret post) .ret (act n f) w:=by
 refine bodyPost_ret (v:=.agg #[x,y]) ?_ rfl ⟨_,rfl,h⟩
 have e:=congrFun (act_eval n f) (.tmp t)
 simp only [Act.eval] at e
 have h0:w.cell? ⟨G,0,none⟩ = some x:=by rw [hb.cell]; rfl
 have h1:w.cell? ((⟨G,0,none⟩ : Addr).add 1) = some y:=by rw [add_lit,hb.cell]; rfl
 have hl:=run_load_two (P:=P) hT h0 h1
 simp only [Instr.loadAt,Instr.sureAddr,Sem.run_bind,Sem.run_pure,Result.andThen_ok] at hl
 have e':(act n f).tmps[t]?.getD undef = .pointer (some ⟨G,0,none⟩):=by rw [← hv,← e]; simp
 simp [results,hr,e',asAddr,hl]
theorem ret0 {fn:Func} {post:Value→World→Prop} (hr:fn.results = #[]) (h:post (.tuple #[]) w):bodyPost P fn (Ret post) .normal (act n f) w :=
 bodyPost_end (results_none hr _ _ _) rfl ⟨_,rfl,h⟩
theorem ret2 {fn:Func} {t u:Tmp} {post:Value→World→Prop} {v v':Value} (hr:fn.results = #[.tmp t,.tmp u]) (hv:ev n f (.tmp t) = v) (hv':ev n f (.tmp u) = v') (h:post (.tuple #[v,v']) w):bodyPost P fn (Ret post) .ret (act n f) w:=by
 refine bodyPost_ret (results_tmp2 hr _ _ _) rfl ⟨_,?_,h⟩
 have e1:=congrFun (act_eval n f) (.tmp t)
 have e2:=congrFun (act_eval n f) (.tmp u)
 simp only [Act.eval] at e1 e2
 rw [e1,e2,hv,hv']
theorem fn_W {g : FuncId} {fn : Func} {c : Code} {args : Array Value} {post : Value → World → Prop} (hf : P.funcs[g]? = some fn) (hb : fn.body = some c) (hn : fn.ntmps = n) (hnm : (fn.name == "runtime.NumGoroutine") = false) (ha : args.size ≤ n)
 (h:W P n c (fun e f w=>bodyPost P fn (Ret post) e (act n f) w) (fun i=>args.getD i undef) w):Meets P g args w post :=
 ⟨enters_of hf hb hnm,calls_W hf hb hn ha h⟩
theorem R1_isR1 {o:Oper} (h:R1 P n S k o K f w):R1 P n S k o K f w:=h
theorem R1_isBin {op:BinOp} {dd:Option Nat} (h:R1 P n S k ⟨dd,.binOp op t x y t2,ty,pos,aft,gd⟩ K f w):R1 P n S k ⟨dd,.binOp op t x y t2,ty,pos,aft,gd⟩ K f w:=h
theorem R1_isLoad {dd:Option Nat} (h:R1 P n S k ⟨dd,.load t x,ty,pos,aft,gd⟩ K f w):R1 P n S k ⟨dd,.load t x,ty,pos,aft,gd⟩ K f w:=h
theorem R1_isIndex {dd:Option Nat} (h:R1 P n S k ⟨dd,.indexAddr t x y,ty,pos,aft,gd⟩ K f w):R1 P n S k ⟨dd,.indexAddr t x y,ty,pos,aft,gd⟩ K f w:=h
theorem R1_isFA {dd:Option Nat} {i:Nat} (h:R1 P n S k ⟨dd,.fieldAddr t x i,ty,pos,aft,gd⟩ K f w):R1 P n S k ⟨dd,.fieldAddr t x i,ty,pos,aft,gd⟩ K f w:=h
theorem R1_isConv {dd:Option Nat} (h:R1 P n S k ⟨dd,.convert t t2 x,ty,pos,aft,gd⟩ K f w):R1 P n S k ⟨dd,.convert t t2 x,ty,pos,aft,gd⟩ K f w:=h
theorem R1_isCall {dd:Option Nat} {c:Call} (h:R1 P n S k ⟨dd,.call c,ty,pos,aft,gd⟩ K f w):R1 P n S k ⟨dd,.call c,ty,pos,aft,gd⟩ K f w:=h
theorem isRl {ops:Array Oper} {l:List Oper} (h:Rl P n ops K l f w):Rl P n ops K l f w:=h
theorem isRo {ops:Array Oper} {l:List (Nat × Nat)} (h:Ro P n ops S K l f w):Ro P n ops S K l f w:=h
theorem isW {c:Code} {Q:Exit→Fr→World→Prop} (h:W P n c Q f w):W P n c Q f w:=h
end
attribute [irreducible] oneTy aggTy TyD ZeroTy FieldA Build0 Build2 BoolTy
end Go.Eng
namespace Go.Eng
open Go Go.RowKit
section
variable {P:Program} {n:Nat} {S:World→World→Prop} {k:Nat} {K:Fr→World→Prop} {f:Fr} {w:World}
 {d ty t t2:Nat} {x y:Operand} {pos:String} {aft:Array Edge} {gd:Option (Nat × Bool)}
theorem run_append_none (base:Nat) (t ty e:TypeId) (i:TypeInfo) (size:Nat) (ht:P.underlying t = some (.slice e)) (hi:P.info? e = some i)
 (v:Value) (m:Nat) (xs:List Value) (hown:w.ownsRow base e size v m xs) (c:Nat):(Builtin.append_ #[t,t] ty #[v,.slice none 0 c]).run P w = .ok v w:=by
 rcases hown.2 with ⟨rfl,rfl⟩ | ⟨g,cap,cur,rfl,_,_,hnc,_⟩
 · simp [Builtin.append_,run_underlying ht,sizeOf,typeInfo,hi,Builtin.lenOf,Builtin.firstCells]
 · simp [Builtin.append_,run_underlying ht,sizeOf,typeInfo,hi,Builtin.lenOf,Builtin.firstCells,hnc,storeCells]
theorem ch_grown {w w':World} {row:Option Nat} (h:w.grownBy w' row):Ch (fun b=>some b = row) w w':=⟨h.os,h.tape,h.output,h.size,fun b hb hn=>h.block b hb hn⟩
theorem R1_append {base e sz bytes m m0 c:Nat} {z v:Value} {xs news:List Value} {A:Option Addr} (hT:SliceTy P t e sz bytes z) (hzs:z.cells.size = sz) (hsz:0 < sz)
 (hk:k = 2 ∨ k = 1∧∀ w',Ch (fun b=>some b = v.ownBlock) w w'→S w w') (hx:ev n f x = v) (hown:w.ownsRow base e sz v m0 xs) (hy:ev n f y = .slice A m c)
 (hl:news.length = m * sz) (hnews:∀ j u,news[j]? = some u→∃ ad,A = some ad∧w.cell? (ad.add j) = some u) (h1:∀ u ∈ news,u.oneCell' = true)
 (h63:m0 + m≤9223372036854775807) (hbytes:(m0 + m) * bytes≤140737488355328) (hbase:base≤w.heap.size)
 (h:∀ v' w',w'.ownsRow base e sz v' (m0 + m) (xs ++ news)→Ch (fun b=>some b = v.ownBlock) w w'→(v'.ownBlock = v.ownBlock ∨ v'.ownBlock = some w.heap.size)→K (upd f d v') w') :
 R1 P n S k ⟨some d,.call { callee:=.builtin .append,args:=#[x,y],argTypes:=#[t,t] },ty,pos,aft,gd⟩ K f w:=by
 have key:∃ v' w',(Builtin.append_ #[t,t] ty #[v,.slice A m c]).run P w = .ok v' w'∧w'.ownsRow base e sz v' (m0 + m) (xs ++ news)∧Ch (fun b=>some b = v.ownBlock) w w'∧(v'.ownBlock = v.ownBlock ∨ v'.ownBlock = some w.heap.size):=by
  obtain ⟨hu,hinfo⟩:=hT
  cases hi:P.info? e with
  | none=>rw [hi] at hinfo; simp at hinfo
  | some i =>
   rw [hi] at hinfo
   simp at hinfo
   obtain ⟨hz,hs,hby⟩:=hinfo
   rcases A with _ | ad
   · have hn:news = []:=by
      rcases news with _ | ⟨u,r⟩
      · rfl
      · obtain ⟨ad,h,_⟩:=hnews 0 u rfl; cases h
     subst hn
     have hm:m = 0:=by
      rcases Nat.eq_zero_or_pos m with h0 | h0
      · exact h0
      · have:=Nat.mul_pos h0 hsz; simp at hl; omega
     subst hm
     exact ⟨v,w,run_append_none base t ty e i sz hu hi v m0 xs hown c,by simpa using hown,Ch.refl _ _,.inl rfl⟩
   · obtain ⟨v',w',hrun,h2,h3,_,h5⟩:=run_append_own_at (P:=P) w base t ty e i z sz bytes hu hi hz hs hby hzs hsz v m0 xs hown ad m c news hl
      (fun j u hj=>by obtain ⟨ad',e,hc⟩:=hnews j u hj; injection e with e; subst e; exact hc) h1 (by simp only [maxLen]; exact h63) hbytes hbase
     exact ⟨v',w',hrun,h2,ch_grown h3,h5⟩
 obtain ⟨v',w',hrun,h2,h3,h4⟩:=key
 refine R1_loud (w':=w') (v:=v') (hk.imp id fun h=>⟨h.1,h.2 _ h3⟩) ?_ (h v' w' h2 h3 h4)
 simp only [execOp,resolve,invoke,builtin,Sem.run_bind,Sem.run_pure,Result.andThen_ok,List.map_toArray,List.map_cons,List.map_nil,hx,hy,hrun]
theorem R1_build0 {e sz bytes:Nat} {z:Value} (hT:SliceTy P t e sz bytes z) (hS:k = 2 ∨ k = 1∧∀ w',Ext w w'→S w w')
 (h:∀ w',Blk w' w.heap.size e #[]→Ext w w'→w'.heap.size = w.heap.size + 1→K (upd f d (.slice (some ⟨w.heap.size,0,none⟩) 0 0)) w'):R1 P n S k ⟨some d,.buildSlice t 0 #[],ty,pos,aft,gd⟩ K f w:=by
 refine R1_new (T:=e) (cs:=#[]) (v:=.slice (some ⟨w.heap.size,0,none⟩) 0 0) hS ?_ h
 obtain ⟨hu,hinfo⟩:=hT
 cases hi:P.info? e with
 | none=>rw [hi] at hinfo; simp at hinfo
 | some i=>simp [execOp,Instr.buildSlice,run_underlying hu,sizeOf,typeInfo,hi,Instr.fill,newRow,Array.range]; congr 2; exact Array.eq_empty_of_size_eq_zero (by simp)
theorem set_one (xs:Array Value) (h:xs.size = 1) {v0:Value}:xs.setIfInBounds 0 v0 = #[v0]:=by
 obtain ⟨l⟩:=xs
 match l,h with
 | [_],_=>rfl
theorem R1_build1 {e bytes:Nat} {z v0:Value} {y0:Operand} (hT:SliceTy P t e 1 bytes z) (hz:z.oneCell' = true) (hS:k = 2 ∨ k = 1∧∀ w',Ext w w'→S w w') (h0:ev n f y0 = v0) (o0:v0.oneCell' = true)
 (h:∀ w',Blk w' w.heap.size e #[v0]→Ext w w'→w'.heap.size = w.heap.size + 1→K (upd f d (.slice (some ⟨w.heap.size,0,none⟩) 1 1)) w'):R1 P n S k ⟨some d,.buildSlice t 1 #[(0,y0)],ty,pos,aft,gd⟩ K f w:=by
 refine R1_new (T:=e) (cs:=#[v0]) (v:=.slice (some ⟨w.heap.size,0,none⟩) 1 1) hS ?_ h
 obtain ⟨hu,hinfo⟩:=hT
 cases hi:P.info? e with
 | none=>rw [hi] at hinfo; simp at hinfo
 | some i =>
  rw [hi] at hinfo
  simp at hinfo
  obtain ⟨hz',hsz,hby⟩:=hinfo
  simp [execOp,Instr.buildSlice,run_underlying hu,sizeOf,typeInfo,hi,hsz,zeroValue,hz',h0,Instr.fill,oneCell_cells o0,oneCell_cells hz,newRow,Array.range]
  rw [set_one _ (by simp [hsz])]
theorem R1_eqnil {e sz bytes m c:Nat} {z:Value} {A:Option Addr} (hT:SliceTy P t e sz bytes z) (hx:ev n f x = .slice A m c) (h:K (upd f d (.bool A.isNone)) w) :
 R1 P n S k ⟨some d,.binOp .eql t x (.const (.slice none 0 0)) t2,ty,pos,aft,gd⟩ K f w :=
 R1_bin hx rfl (fun _=>by simp [eqGuard,go_sem]) (fun w=>Lib.run_eql_slice_nil w t e A m c 0 0 hT.und) h
end
end Go.Eng
namespace Go.Proofs.YtncbjgblcofddaaGreatDoor
open Go Go.Eng Go.Proofs
theorem one_all:([3,2,4,5,26,107,108,109,39,46,22,23,85,79,155,133]:List Nat).all (oneTy Tryz.prog) = true:=by kernel_rfl
theorem one_of {t:Nat} (h:([3,2,4,5,26,107,108,109,39,46,22,23,85,79,155,133]:List Nat).contains t = true):oneTy Tryz.prog t = true :=
 List.all_eq_true.1 one_all t (by simpa using h)
theorem agg_Int:aggTy Tryz.prog 41 2 = true:=by kernel_rfl
theorem sl_u32:SliceTy Tryz.prog 39 107 1 4 (.int .u32 0):=⟨Tryz.underlying39,by kernel_rfl⟩
theorem sl_int:SliceTy Tryz.prog 155 3 1 8 (.int .i64 0):=⟨Tryz.underlying155,by kernel_rfl⟩
theorem sl_i64:SliceTy Tryz.prog 85 2 1 8 (.int .i64 0):=⟨Tryz.underlying85,by kernel_rfl⟩
theorem sl_i8:SliceTy Tryz.prog 23 26 1 1 (.int .i8 0):=⟨Tryz.underlying23,by kernel_rfl⟩
theorem sl_Int:SliceTy Tryz.prog 46 41 2 32 (.agg #[.bool false,.slice none 0 0]):=⟨Tryz.underlying46,by kernel_rfl⟩
theorem sl_sInt:SliceTy Tryz.prog 22 46 1 24 (.slice none 0 0):=⟨Tryz.underlying22,by kernel_rfl⟩
theorem sl_si64:SliceTy Tryz.prog 79 85 1 24 (.slice none 0 0):=⟨Tryz.underlying79,by kernel_rfl⟩
theorem z_Int:ZeroTy Tryz.prog 41 (.agg #[.bool false,.slice none 0 0]):=by unfold ZeroTy; kernel_rfl
theorem z_int:ZeroTy Tryz.prog 3 (.int .i64 0):=by unfold ZeroTy; kernel_rfl
theorem ty_u32:TyD Tryz.prog 107 (.int .u32):=by unfold TyD; exact Tryz.underlying107
theorem ty_u64:TyD Tryz.prog 108 (.int .u64):=by unfold TyD; exact Tryz.underlying108
theorem ty_int:TyD Tryz.prog 3 (.int .i64):=by unfold TyD; exact Tryz.underlying3
theorem ty_i64:TyD Tryz.prog 2 (.int .i64):=by unfold TyD; exact Tryz.underlying2
theorem ty_u8:TyD Tryz.prog 5 (.int .u8):=by unfold TyD; exact Tryz.underlying5
theorem ty_i8:TyD Tryz.prog 26 (.int .i8):=by unfold TyD; exact Tryz.underlying26
theorem ty_str:TyD Tryz.prog 9 .string:=by unfold TyD; exact Tryz.underlying9
theorem ty_bool:BoolTy Tryz.prog 4:=boolTy_of (by unfold TyD; exact Tryz.underlying4)
theorem R1_nilCheck {P:Program} {n:Nat} {S:World→World→Prop} {k:Nat} {K:Fr→World→Prop} {f:Fr} {w:World} {d ty:Nat} {x:Operand} {pos:String} {aft:Array Edge} {gd:Option (Nat × Bool)} {a:Addr} (hx:ev n f x = .pointer (some a)) (h:K (upd f d (.pointer (some a))) w) :
 R1 P n S k ⟨some d,.nilCheck x,ty,pos,aft,gd⟩ K f w :=
 R1_pure (v:=.pointer (some a)) (fun _=>by simp [execOp,hx]) h
theorem fa_Tape0:FieldA Tryz.prog 135 0 0:=by
 unfold FieldA
 intro a w
 simp [Instr.fieldAt,run_underlying Tryz.underlying135,Instr.sureAddr,fieldPlace,size_one (one_of (t:=23) rfl)]
theorem fa_Tape1:FieldA Tryz.prog 135 1 1:=by
 unfold FieldA
 intro a w
 simp [Instr.fieldAt,run_underlying Tryz.underlying135,Instr.sureAddr,fieldPlace,size_one (one_of (t:=3) rfl)]
theorem R1_bldTape {n:Nat} {S:World→World→Prop} {k:Nat} {K:Fr→World→Prop} {f:Fr} {w:World} {d ty:Nat} {x:Operand} {pos:String} {aft:Array Edge} {gd:Option (Nat × Bool)} {A:Option Addr} {m c:Nat} (hx:ev n f x = .slice A m c) (h:K (upd f d (.agg #[.slice A m c,.int .i64 ((0:Nat):Int)])) w) :
 R1 Tryz.prog n S k ⟨some d,.build 135 #[(0,x)],ty,pos,aft,gd⟩ K f w:=by
 refine R1_pure (v:=.agg #[.slice A m c,.int .i64 ((0:Nat):Int)]) (fun w=>?_) h
 have e:(#[(0,x)]:Array (Nat × Operand)).map (fun (i,x)=>(i,ev n f x)) = #[(0,.slice A m c)]:=by simp [hx]
 have hz:(Value.agg #[.slice none 0 0,.int .i64 0]).cells = #[.slice none 0 0,.int .i64 0]:=rfl
 have ho:(Value.slice A m c).cells = #[.slice A m c]:=rfl
 simp [execOp,e,Instr.build,run_underlying Tryz.underlying135,Instr.fill,hz,ho,size_one (one_of (t:=23) rfl),size_one (one_of (t:=3) rfl)]
theorem R1_magV {n:Nat} {S:World→World→Prop} {k:Nat} {K:Fr→World→Prop} {f:Fr} {w:World} {d ty:Nat} {x:Operand} {pos:String} {aft:Array Edge} {gd:Option (Nat × Bool)} {u v:Value} (hx:ev n f x = .agg #[u,v]) (h:K (upd f d v) w) :
 R1 Tryz.prog n S k ⟨some d,.field 41 x 1,ty,pos,aft,gd⟩ K f w:=by
 refine R1_pure (v:=v) (fun w=>?_) h
 simp [execOp,hx,Instr.field,run_underlying Tryz.underlying41,asAgg,part,run_isAgg_one (one_of (t:=39) rfl)]
theorem fa_Int0:FieldA Tryz.prog 41 0 0:=by
 unfold FieldA
 intro a w
 simp [Instr.fieldAt,run_underlying Tryz.underlying41,Instr.sureAddr,fieldPlace,size_one (one_of (t:=4) rfl)]
theorem fa_Int1:FieldA Tryz.prog 41 1 1:=by
 unfold FieldA
 intro a w
 simp [Instr.fieldAt,run_underlying Tryz.underlying41,Instr.sureAddr,fieldPlace,size_one (one_of (t:=39) rfl)]
theorem b0_Int:Build0 Tryz.prog 41 (.agg #[.bool false,.slice none 0 0]):=by
 unfold Build0
 intro w
 simp [Instr.build,run_underlying Tryz.underlying41,Instr.fill,Value.cells,size_one (one_of (t:=4) rfl),size_one (one_of (t:=39) rfl)]
theorem b2_Int:Build2 Tryz.prog 41:=by
 unfold Build2
 intro v0 v1 w o0 o1
 have hz:(Value.agg #[.bool false,.slice none 0 0]).cells = #[.bool false,.slice none 0 0]:=rfl
 simp [Instr.build,run_underlying Tryz.underlying41,Instr.fill,hz,size_one (one_of (t:=4) rfl),size_one (one_of (t:=39) rfl),oneCell_cells o0,oneCell_cells o1]
structure Gw (p:Prop):Prop where
 out:p
theorem gg {G G':Prop} (h:G') (t:Gw G'→G:=by intro hgg; (repeat (first | (refine R1_isR1 ?_; (first | refine R1_moveT rfl ?_ | refine R1_assignT rfl ?_ | refine R1_moveCi ?_ | refine R1_assignCi ?_ | refine R1_moveC ?_ | refine R1_assignC ?_ | (refine R1_isBin ?_; (first | refine R1_lss_i64_c rfl ?_ | refine R1_lss_i64 rfl rfl ?_ | refine R1_add_i64_c rfl (by omega) ?_ | refine R1_add_i64 rfl rfl (by omega) ?_ | refine R1_sub_i64_c rfl (by omega) (by omega) ?_ | refine R1_sub_i64 rfl rfl (by omega) (by omega) ?_ | refine R1_gtr_i64_c rfl ?_ | refine R1_gtr_i64 rfl rfl ?_ | refine R1_leq_i64_c rfl ?_ | refine R1_leq_i64 rfl rfl ?_ | refine R1_geq_i64_c rfl ?_ | refine R1_geq_i64 rfl rfl ?_ | refine R1_eql_i64_c rfl ?_ | refine R1_eql_i64 rfl rfl ?_ | refine R1_neq_i64_c rfl ?_ | refine R1_neq_i64 rfl rfl ?_ | refine R1_mul_i64_l rfl (by omega) ?_ | refine R1_mul_i64_c rfl (by omega) ?_ | refine R1_add_u64 rfl rfl (by omega) ?_ | refine R1_shr_u64_c rfl (by omega) ?_ | refine R1_shl_u64_c rfl (by omega) ?_ | refine R1_sub_u64_c rfl (by omega) (by omega) ?_ | refine R1_sub_i64_l rfl (by omega) (by omega) ?_ | refine R1_add_i64_l rfl (by omega) ?_ | refine R1_sub_z rfl rfl (by omega) (by omega) ?_ | refine R1_add_z rfl rfl (by omega) (by omega) ?_ | refine R1_geq_z rfl rfl ?_ | refine R1_lss_z rfl rfl ?_ | refine R1_gtr_z rfl rfl ?_ | refine R1_leq_z rfl rfl ?_ | refine R1_eql_z rfl rfl ?_ | refine R1_neq_z rfl rfl ?_ | refine R1_eql_bool ty_bool rfl rfl ?_ | refine R1_neq_bool ty_bool rfl rfl ?_ | refine R1_eql_u32_c rfl ?_ | refine R1_eql_u32 rfl rfl ?_ | refine R1_neq_u32_c rfl ?_ | refine R1_neq_u32 rfl rfl ?_ | refine R1_lss_u32 rfl rfl ?_ | refine R1_gtr_u32 rfl rfl ?_ | refine R1_eql_u64_c rfl ?_ | refine R1_eql_u64 rfl rfl ?_ | refine R1_neq_u64_c rfl ?_ | refine R1_neq_u64 rfl rfl ?_ | refine R1_lss_u64_c rfl ?_ | refine R1_lss_u64 rfl rfl ?_ | refine R1_gtr_u64_c rfl ?_ | refine R1_gtr_u64 rfl rfl ?_ | refine R1_leq_u64_c rfl ?_ | refine R1_leq_u64 rfl rfl ?_)) | (refine R1_isIndex ?_; (first | refine R1_index0B sl_sInt rfl (by omega) ?_ | refine R1_index0 sl_sInt rfl (by omega) ?_ | refine R1_index0B sl_si64 rfl (by omega) ?_ | refine R1_index0 sl_si64 rfl (by omega) ?_ | refine R1_indexB sl_u32 rfl rfl (by omega) ?_ | refine R1_indexB sl_Int rfl rfl (by omega) ?_ | refine R1_indexB sl_sInt rfl rfl (by omega) ?_ | refine R1_indexB sl_i64 rfl rfl (by omega) ?_ | refine R1_indexB sl_si64 rfl rfl (by omega) ?_ | refine R1_indexB sl_int rfl rfl (by omega) ?_ | refine R1_index sl_u32 rfl rfl (by omega) ?_ | refine R1_index sl_Int rfl rfl (by omega) ?_ | refine R1_index sl_sInt rfl rfl (by omega) ?_ | refine R1_index sl_i64 rfl rfl (by omega) ?_ | refine R1_index sl_si64 rfl rfl (by omega) ?_ | refine R1_index sl_int rfl rfl (by omega) ?_ | refine R1_index sl_i8 rfl rfl (by omega) ?_)) | (refine R1_isLoad ?_; (first | refine R1_load1F (by decide) (one_of rfl) rfl (by assumption) ?_ | refine R1_load1E (by decide) (one_of rfl) rfl (by assumption) ?_ | refine R1_load2F (by decide) agg_Int rfl (by assumption) (by assumption) ?_ | refine R1_load2E (by decide) agg_Int rfl (by assumption) (by assumption) ?_)) | (refine R1_isCall ?_; (first | refine R1_len sl_u32 rfl ?_ | refine R1_len sl_Int rfl ?_ | refine R1_len sl_sInt rfl ?_ | refine R1_len sl_i64 rfl ?_ | refine R1_len sl_si64 rfl ?_ | refine R1_len sl_int rfl ?_ | refine R1_len sl_i8 rfl ?_)) | (refine R1_isFA ?_; (first | refine R1_fieldAddr fa_Int0 rfl ?_ | refine R1_fieldAddr fa_Int1 rfl ?_ | refine R1_fieldAddr fa_Tape0 rfl ?_ | refine R1_fieldAddr fa_Tape1 rfl ?_ | refine R1_fieldAddr fa_Grid0 rfl ?_ | refine R1_fieldAddr fa_Grid1 rfl ?_ | refine R1_fieldAddr fa_Grid2 rfl ?_)) | refine R1_nilCheck rfl ?_ | (refine R1_isConv ?_; (first | refine R1_u32_u64 ty_u32 ty_u64 rfl (by omega) ?_ | refine R1_u64_u32 ty_u64 ty_u32 rfl ?_ | refine R1_u8_i64 ty_u8 ty_int rfl (by omega) ?_)) | refine R1_extract rfl rfl ?_ | refine R1_pickT rfl rfl ?_ | refine R1_pickF rfl rfl ?_ | refine R1_pickTC rfl ?_ | refine R1_pickFC rfl ?_ | refine R1_pickTD rfl (by omega) rfl ?_ | refine R1_pickFD rfl (by omega) rfl ?_ | refine R1_pickTCD rfl (by omega) ?_ | refine R1_pickFCD rfl (by omega) ?_ | refine R1_not rfl ?_ | refine R1_sliceH sl_u32 rfl rfl (by omega) ?_)) | (refine isRl ?_; (first | refine Rl_head rfl ?_ | refine Rl_nil ?_ | refine Rl_yes rfl rfl rfl rfl ?_ | refine Rl_no rfl rfl rfl rfl rfl ?_ | refine Rl_yesT rfl rfl rfl rfl (by omega) ?_ | refine Rl_noT rfl rfl rfl rfl (by omega) ?_ | refine Rl_yesF rfl rfl rfl rfl (by omega) ?_ | refine Rl_noF rfl rfl rfl rfl (by omega) ?_)) | (refine isRo ?_; (first | refine Ro_headL rfl rfl ?_ | refine Ro_nil ?_ | refine Ro_yesL rfl rfl rfl rfl rfl ?_ | refine Ro_noL rfl rfl rfl rfl rfl rfl ?_ | refine Ro_yesT rfl rfl rfl rfl rfl (by omega) ?_ | refine Ro_noT rfl rfl rfl rfl rfl (by omega) ?_ | refine Ro_yesF rfl rfl rfl rfl rfl (by omega) ?_ | refine Ro_noF rfl rfl rfl rfl rfl (by omega) ?_)) | (refine isW ?_; (first | refine W_seqR ?_ | refine W_seqB1 ?_ | refine W_seqB2 ?_ | refine W_seqB3 ?_ | refine W_reg ?_ | refine W_block ?_ | refine W_skip ?_ | refine W_exit ?_ | refine W_ret ?_ | refine W_testT rfl (by omega) ?_ | refine W_testF rfl (by omega) ?_ | refine W_decT rfl (by omega) ?_ | refine W_decF rfl (by omega) ?_ | refine W_true rfl ?_ | refine W_false rfl ?_)) | refine T_normal ?_ | refine T_exit ?_ | refine T_ret ?_ | refine B_normal ?_ | refine B_ret ?_ | refine B_same ?_ | refine B_other rfl ?_)); exact hgg.out):G:=t ⟨h⟩
theorem mixed:Tryz.prog.follows .mixedOrders = true:=by kernel_rfl
end Go.Proofs.YtncbjgblcofddaaGreatDoor
