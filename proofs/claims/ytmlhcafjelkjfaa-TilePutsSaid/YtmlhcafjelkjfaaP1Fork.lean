import Derived.WalkKit
import Derived.Deep.Quiet
import Derived.KernelRfl
import Derived.Laws.BytesString
import Derived.Laws.Shifts
import Derived.Laws.IdiomStrings
import Derived.Test.YtmlhcafjelkjfaaP1Walk
namespace Go.E
open Go.RowKit
inductive Plan where
  |fin
  |st (i:Nat) (s:Plan)
  |ef (i:Nat) (s:Plan)
  |fk (i j:Nat) (s t:Plan)
  |f3 (i j k:Nat) (s t u:Plan)
def Plan.sts:List Nat->Plan->Plan
  |[],s=>s
  |i::l,s=> .st i (Plan.sts l s)
def Plan.size:Plan->Nat
  | .fin=>0
  | .st _ s=>s.size+1
  | .ef _ s=>s.size+1
  | .fk _ _ s _=>s.size+1
  | .f3 _ _ _ s _ _=>s.size+1
def planB (ops:Array Oper) (E:List Nat):Plan->Array Bool->Bool
  | .fin,listed=>(Region.ready .any ops listed).isEmpty
  | .st i s,listed=>(Region.ready .any ops listed).contains i&&Region.free .any ops listed i&&!E.contains i&&planB ops E s (listed.setIfInBounds i true)
  | .ef i s,listed=>decide (Region.ready .any ops listed=[i])&&planB ops E s (listed.setIfInBounds i true)
  | .fk i j s t,listed=>decide (Region.ready .any ops listed=[i,j])&&decide (s.size=t.size)&&planB ops E s (listed.setIfInBounds i true)&&planB ops E t (listed.setIfInBounds j true)
  | .f3 i j k s t u,listed=>decide (Region.ready .any ops listed=[i,j,k])&&decide (s.size=t.size)&&decide (s.size=u.size)&&planB ops E s (listed.setIfInBounds i true)&&planB ops E t (listed.setIfInBounds j true)&&planB ops E u (listed.setIfInBounds k true)
section
variable {P:Program} {ops:Array Oper} {E:List Nat}
def walkP (P:Program) (n:Nat) (ops:Array Oper) (E:List Nat) (L:Facts) (N:Env->World->Prop):Plan->Array Bool->Env->World->Prop
  | .fin,_,ρ,w=>N ρ w
  | .st i s,listed,ρ,w=>∃o v,ops[i]?=some o/\dstOK n o.dst=true/\SteadyE P n ops (factOf L i) o v ρ/\walkP P n ops E L N s (listed.setIfInBounds i true) (put ρ o.dst v) w
  | .ef i s,listed,ρ,w=>∃o,ops[i]?=some o/\OpsE P n ops [o] (fun ρ' w'=>held ops E (listed.setIfInBounds i true) w' L/\walkP P n ops E L N s (listed.setIfInBounds i true) ρ' w') ρ w
  | .fk i j s t,listed,ρ,w=>(∃o,ops[i]?=some o/\OpsE P n ops [o] (fun ρ' w'=>held ops E (listed.setIfInBounds i true) w' L/\walkP P n ops E L N s (listed.setIfInBounds i true) ρ' w') ρ w)/\
      ∃o,ops[j]?=some o/\OpsE P n ops [o] (fun ρ' w'=>held ops E (listed.setIfInBounds j true) w' L/\walkP P n ops E L N t (listed.setIfInBounds j true) ρ' w') ρ w
  | .f3 i j k s t u,listed,ρ,w=>(∃o,ops[i]?=some o/\OpsE P n ops [o] (fun ρ' w'=>held ops E (listed.setIfInBounds i true) w' L/\walkP P n ops E L N s (listed.setIfInBounds i true) ρ' w') ρ w)/\(∃o,ops[j]?=some o/\OpsE P n ops [o] (fun ρ' w'=>held ops E (listed.setIfInBounds j true) w' L/\walkP P n ops E L N t (listed.setIfInBounds j true) ρ' w') ρ w)/\(∃o,ops[k]?=some o/\OpsE P n ops [o] (fun ρ' w'=>held ops E (listed.setIfInBounds k true) w' L/\walkP P n ops E L N u (listed.setIfInBounds k true) ρ' w') ρ w)
theorem eff_any {n:Nat} {L:Facts} {N:Env->World->Prop} {i f:Nat} {o:Oper} {s:Plan} {listed:Array Bool} {ρ:Env} {w:World} {a:Act} (ha:Rep n ρ a) (ho:ops[i]?=some o)
    (ih:∀ρ' w' a',Rep n ρ' a'->held ops E (listed.setIfInBounds i true) w' L->walkP P n ops E L N s (listed.setIfInBounds i true) ρ' w'->wpAnyC P ops E L (fun a' w'=>∃ρ',Rep n ρ' a'/\N ρ' w') f (listed.setIfInBounds i true) a' w')
    (hw:OpsE P n ops [o] (fun ρ' w'=>held ops E (listed.setIfInBounds i true) w' L/\walkP P n ops E L N s (listed.setIfInBounds i true) ρ' w') ρ w):
    wpOp P ops (only (fun a' w'=>∃ρ',Rep n ρ' a'/\N ρ' w')) i (wpAnyC P ops E L (fun a' w'=>∃ρ',Rep n ρ' a'/\N ρ' w') f (listed.setIfInBounds i true)) a w:=by
  have h1:=hw a ha (fun e a' w'=>e= .normal/\∃ρ',Rep n ρ' a'/\held ops E (listed.setIfInBounds i true) w' L/\walkP P n ops E L N s (listed.setIfInBounds i true) ρ' w') (fun ρ' a' w' hr hk=>⟨rfl,ρ',hr,hk⟩)
  unfold wpList at h1
  unfold wpOp
  simp only [ho]
  have fin:∀a' w',wpList P ops (fun e a' w'=>e= .normal/\∃ρ',Rep n ρ' a'/\held ops E (listed.setIfInBounds i true) w' L/\walkP P n ops E L N s (listed.setIfInBounds i true) ρ' w') [] a' w'->
      wpAnyC P ops E L (fun a' w'=>∃ρ',Rep n ρ' a'/\N ρ' w') f (listed.setIfInBounds i true) a' w':=fun a' w' hh=>by
    obtain ⟨_,ρ',hr,hc',hk⟩:=hh
    exact ih ρ' w' a' hr hc' hk
  split
  · rename_i hwant
    simp only [hwant,if_true] at h1
    rcases h1 with h1|⟨_,a0,w0,h1,_⟩
    case inr=>cases h1
    left
    unfold Oper.wp at*
    generalize (execOp a.eval o).run P w=r at*
    cases r with
    |ok nx w'=>
      cases nx<;>simp only [Oper.upon] at h1⊢
      case value u=>exact fin _ _ h1
      case skip=>exact fin _ _ h1
      case defer d=>exact fin _ _ h1
      case enter f args=>
        refine h1.mono fun e w'' he=>?_
        cases e with
        |returned u=>exact fin _ _ he
        |panicked c=>exact absurd he.1 (by simp)
        |outgrown=>obtain ⟨_,_,h,_⟩:=he;cases h
      case row row args=>exact h1.mono fun u w'' he=>fin _ _ he
    |halt x w'=>cases x<;>simp only [Oper.upon] at h1<;>first|exact h1.elim|exact absurd h1.1 (by simp)
  · rename_i hwant
    simp only [hwant] at h1
    exact fin _ _ h1
theorem walk_plan {n:Nat} {L:Facts} {N:Env->World->Prop} (hsel:Region.noSelect ops=true):∀(s:Plan) (listed:Array Bool) (ρ:Env) (w:World) (a:Act),Rep n ρ a->Closed ops listed->held ops E listed w L->
    planB ops E s listed=true->walkP P n ops E L N s listed ρ w->wpAnyC P ops E L (fun a' w'=>∃ρ',Rep n ρ' a'/\N ρ' w') s.size listed a w
  | .fin,listed,ρ,w,a,ha,_,hc,hB,h=>⟨hc,by simpa [planB] using hB,ρ,ha,h⟩
  | .st i s,listed,ρ,w,a,ha,hcl,hc,hB,h=>by
    simp only [planB,Bool.and_eq_true,Bool.not_eq_true'] at hB
    obtain ⟨o,v,ho,hd,hs,hw⟩:=h
    have hr:i∈Region.ready .any ops listed:=by simpa using hB.1.1.1
    have hh2:held ops E (listed.setIfInBounds i true) w L:=by
      have hrl:∀x,rel ops E x listed=true->rel ops E x (listed.setIfInBounds i true)=true:=fun x hx=>by
        unfold rel at*
        obtain ⟨s,hs1,h⟩:=List.any_eq_true.1 hx
        simp only [Bool.and_eq_true] at h
        exact List.any_eq_true.2 ⟨s,hs1,by simp only [Bool.and_eq_true];exact ⟨getD_set_true h.1,h.2⟩⟩
      have key:∀M:Facts,held ops E listed w M->held ops E (listed.setIfInBounds i true) w M:=by
        intro M
        induction M with
        |nil=>intro _;trivial
        |cons x M ihM=>
          obtain ⟨i',p,v⟩:=x
          intro hM
          exact ⟨hM.1.imp (hrl _) id,ihM hM.2⟩
      exact key L hc
    exact wpAnyC_first hB.1.2 ho (Region.noSelect_spec hsel) s.size listed a w hcl (Region.free_spec ho hB.1.1.2) hr (hs.at ha) (factOf_held (rel_ready hcl hr) hc) hc
      (walk_plan hsel s _ _ w _ (ha.put hd v) (hcl.set hr) hh2 hB.2 hw)
  | .ef i s,listed,ρ,w,a,ha,hcl,hc,hB,h=>by
    simp only [planB,Bool.and_eq_true,decide_eq_true_eq] at hB
    obtain ⟨o,ho,hw⟩:=h
    refine ⟨hc,fun h=>(by rw [hB.1] at h;cases h),fun j hj=>?_⟩
    have hj2:=hj
    rw [hB.1] at hj
    have hji:j=i:=by simpa using hj
    subst hji
    exact eff_any ha ho (fun ρ' w' a' hr hc' hk=>walk_plan hsel s _ ρ' w' a' hr (hcl.set hj2) hc' hB.2 hk) hw
  | .fk i j s t,listed,ρ,w,a,ha,hcl,hc,hB,h=>by
    simp only [planB,Bool.and_eq_true,decide_eq_true_eq] at hB
    obtain ⟨⟨o,ho,hw⟩,o',ho',hw'⟩:=h
    obtain ⟨⟨⟨hr,hst⟩,hB1⟩,hB2⟩:=hB
    refine ⟨hc,fun h=>(by rw [hr] at h;cases h),fun k hk=>?_⟩
    have hk2:=hk
    rw [hr] at hk
    rcases List.mem_cons.1 hk with rfl|hk
    · exact eff_any ha ho (fun ρ' w' a' hr hc' hk=>walk_plan hsel s _ ρ' w' a' hr (hcl.set hk2) hc' hB1 hk) hw
    · have hkj:k=j:=by simpa using hk
      subst hkj
      exact eff_any ha ho' (fun ρ' w' a' hr hc' hk=>hst▸walk_plan hsel t _ ρ' w' a' hr (hcl.set hk2) hc' hB2 hk) hw'
  | .f3 i j m s t u,listed,ρ,w,a,ha,hcl,hc,hB,h=>by
    simp only [planB,Bool.and_eq_true,decide_eq_true_eq] at hB
    obtain ⟨⟨o,ho,hw⟩,⟨o',ho',hw'⟩,o'',ho'',hw''⟩:=h
    obtain ⟨⟨⟨⟨⟨hr,hst⟩,hsu⟩,hB1⟩,hB2⟩,hB3⟩:=hB
    refine ⟨hc,fun h=>(by rw [hr] at h;cases h),fun k hk=>?_⟩
    have hk2:=hk
    rw [hr] at hk
    rcases List.mem_cons.1 hk with rfl|hk
    · exact eff_any ha ho (fun ρ' w' a' hr hc' hk=>walk_plan hsel s _ ρ' w' a' hr (hcl.set hk2) hc' hB1 hk) hw
    · rcases List.mem_cons.1 hk with rfl|hk
      · exact eff_any ha ho' (fun ρ' w' a' hr hc' hk=>hst▸walk_plan hsel t _ ρ' w' a' hr (hcl.set hk2) hc' hB2 hk) hw'
      · have hkj:k=m:=by simpa using hk
        subst hkj
        exact eff_any ha ho'' (fun ρ' w' a' hr hc' hk=>hsu▸walk_plan hsel u _ ρ' w' a' hr (hcl.set hk2) hc' hB3 hk) hw''
theorem drawP {n:Nat} {K:Exit->Env->World->Prop} {ρ:Env} {w:World} {id:Nat} (E:List Nat) (L:Facts) (s:Plan) (hm:P.follows .mixedOrders=true)
    (hB:(Region.noSelect ops&&decide (s.size=ops.size)&&planB ops E s (Array.replicate ops.size false))=true) (hC:held ops E (Array.replicate ops.size false) w L)
    (h:walkP P n ops E L (K .normal) s (Array.replicate ops.size false) ρ {w with drawn:=w.drawn+1}):CodeE P n (.region id ops true) K ρ w:=by
  intro a ha
  simp only [Bool.and_eq_true,decide_eq_true_eq] at hB
  have hcl:Closed ops (Array.replicate ops.size false):=fun j oj _ hl=>by rw [none_listed] at hl;cases hl
  have hC2:held ops E (Array.replicate ops.size false) {w with drawn:=w.drawn+1} L:=by
    clear hB h
    induction L with
    |nil=>trivial
    |cons x L ih=>obtain ⟨i,p,v⟩:=x;exact ⟨hC.1,ih hC.2⟩
  have h1:=walk_plan hB.1.1 s _ ρ _ a ha hcl hC2 hB.2 h
  rw [hB.1.2] at h1
  refine wp_mono (wp_region_any hm (wpAny_of_C _ _ _ _ h1)) fun e a' w' hq=>?_
  obtain ⟨rfl,ρ',hr,hk⟩:=hq
  exact ⟨ρ',hr,hk⟩
variable {n:Nat} {L:Facts} {N:Env->World->Prop} {ρ:Env} {w:World} {s t:Plan} {listed:Array Bool}
theorem qN (h:N ρ w):walkP P n ops E L N .fin listed ρ w:=h
theorem qO {i:Nat} {o:Oper} (ho:ops[i]?=some o) (h:OpsE P n ops [o] (fun ρ' w'=>held ops E (listed.setIfInBounds i true) w' L/\walkP P n ops E L N s (listed.setIfInBounds i true) ρ' w') ρ w):
    walkP P n ops E L N (.ef i s) listed ρ w:=⟨o,ho,h⟩
theorem qF {i j:Nat} (h1:walkP P n ops E L N (.ef i s) listed ρ w) (h2:walkP P n ops E L N (.ef j t) listed ρ w):walkP P n ops E L N (.fk i j s t) listed ρ w:=⟨h1,h2⟩
theorem qF3 {i j k:Nat} {u:Plan} (h1:walkP P n ops E L N (.ef i s) listed ρ w) (h2:walkP P n ops E L N (.ef j t) listed ρ w) (h3:walkP P n ops E L N (.ef k u) listed ρ w):walkP P n ops E L N (.f3 i j k s t u) listed ρ w:=⟨h1,h2,h3⟩
theorem qP {s:Plan} {listed:Array Bool} (is:List Nat) (hl:(is.all fun i=>Nat.blt i ops.size)=true) (hk:pureB P n ops (sel ops is) ρ=true)
    (h:walkP P n ops E L N s (listAll is listed) (envP P n ops (sel ops is) ρ) w):walkP P n ops E L N (Plan.sts is s) listed ρ w:=by
  induction is generalizing ρ listed with
  |nil=>exact h
  |cons i is ih=>
    simp only [List.all_cons,Bool.and_eq_true] at hl
    simp only [sel,List.map_cons,pureB,Bool.and_eq_true] at hk
    have hi:i<ops.size:=by simpa using hl.1
    refine ⟨ops.getD i default,_,by simp [Array.getD,hi],hk.1.1,steadyP hk.1.2,ih hl.2 hk.2 h⟩
theorem qFix {s:Plan} {listed:Array Bool} (d:Nat) (t b:Bool) (hb:t=b) (h:walkP P n ops E L N s listed (upd ρ d (.bool b)) w) (hd:ρ d= .bool t:=by kernel_rfl):walkP P n ops E L N s listed ρ w:=by
  rwa [upd_self (hb▸hd)] at h
theorem qU {s:Plan} {listed:Array Bool} (is:List Nat) (h:walkP P n ops E L N s (listAll is listed) (envP P n ops (sel ops is) ρ) w) (hl:(is.all fun i=>Nat.blt i ops.size)=true:=by rfl) (hk:pureB P n ops (sel ops is) ρ=true:=by kernel_rfl):walkP P n ops E L N (Plan.sts is s) listed ρ w:=qP is hl hk h
end
end Go.E
