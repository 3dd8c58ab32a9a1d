import Derived.WalkKit
import Derived.Deep.Quiet
import Derived.KernelRfl
import Derived.Test.YtmlhcafjelkjfaaP1Base
namespace Go.E
section
variable {P:Program} {ops:Array Oper} {C:World->Prop} {E:List Nat}
theorem both_false {listed:Array Bool} {i:Nat} (h:listed.getD i true=false):listed.getD i false=false:=by
  rcases Nat.lt_or_ge i listed.size with h'|h'
  · simp [h'] at h⊢;exact h
  · simp [Array.getElem?_eq_none h'] at h
theorem none_listed (m j:Nat):(Array.replicate m false).getD j false=false:=by
  rcases Nat.lt_or_ge j m with h|h<;>simp [h]
def only (N:Act->World->Prop):Exit->Act->World->Prop:=fun e a w=>e= .normal/\N a w
theorem only_out (N:Act->World->Prop):¬LetsOut (only N):=fun ⟨_,_,h,_⟩=>by cases h
def rel (ops:Array Oper) (E:List Nat) (i:Nat) (listed:Array Bool):Bool:=
  E.any fun s=>listed.getD s false&&(match ops[s]? with|some o=>o.after.any fun e=>Region.binds .any e&&e.on==i|none=>false)
abbrev Facts:=List (Nat×Addr×Value)
def held (ops:Array Oper) (E:List Nat) (listed:Array Bool) (w:World):Facts->Prop
  |[]=>True
  |(i,p,v)::L=>(rel ops E i listed=true\/w.cell? p=some v)/\held ops E listed w L
def factOf (L:Facts) (i:Nat) (w:World):Prop:=∀(k:Nat) (p:Addr) (v:Value),L[k]?=some (i,p,v)->w.cell? p=some v
theorem factOf_held {listed:Array Bool} {w:World} {i:Nat} (hr:rel ops E i listed=false):∀{L:Facts},held ops E listed w L->factOf L i w
  |[],_=>fun k p v h=>by simp at h
  |(i',p',v')::L,h=>fun k p v hk=>by
    cases k with
    |zero=>
      simp only [List.getElem?_cons_zero,Option.some.injEq,Prod.mk.injEq] at hk
      obtain ⟨rfl,rfl,rfl⟩:=hk
      rcases h.1 with h|h
      · rw [hr] at h;cases h
      · exact h
    |succ k=>exact factOf_held hr h.2 k p v (by simpa using hk)
def wpAnyC (P:Program) (ops:Array Oper) (E:List Nat) (L:Facts) (N:Act->World->Prop):Nat->Array Bool->Act->World->Prop
  |0,listed,a,w=>held ops E listed w L/\Region.ready .any ops listed=[]/\N a w
  |f+1,listed,a,w=>held ops E listed w L/\(Region.ready .any ops listed=[]->N a w)/\∀i∈Region.ready .any ops listed,wpOp P ops (only N) i (wpAnyC P ops E L N f (listed.setIfInBounds i true)) a w
theorem wpAnyC.cls {L:Facts} {N:Act->World->Prop} {f:Nat} {listed:Array Bool} {a:Act} {w:World} (h:wpAnyC P ops E L N f listed a w):held ops E listed w L:=by
  cases f<;>exact h.1
theorem wpAny_of_C {L:Facts} {N:Act->World->Prop}:∀(f:Nat) (listed:Array Bool) (a:Act) (w:World),wpAnyC P ops E L N f listed a w->wpAny P .any ops (only N) f listed a w
  |0,_,_,_,h=>⟨h.2.1,rfl,h.2.2⟩
  |f+1,_,_,_,h=>⟨fun h0=>⟨rfl,h.2.1 h0⟩,fun i hi=>wpOp_mono (fun a' w'=>wpAny_of_C f _ a' w') (h.2.2 i hi)⟩
def Steady (P:Program) (ops:Array Oper) (C:World->Prop) (o:Oper) (v:Value) (a:Act):Prop:=
  (Region.wanted o (yielded ops a.tmps)=true/\∀w,C w->(execOp a.eval o).run P w= .ok (.value v) w)\/(Region.wanted o (yielded ops a.tmps)=false/\v=undef)
theorem Steady.op {N:Act->World->Prop} {i:Nat} {o:Oper} {v:Value} {a:Act} {w:World} (hi:ops[i]?=some o) (hy:Steady P ops C o v a) (hc:C w) {K:Act->World->Prop} (h:K (a.put o.dst v) w):
    wpOp P ops (only N) i K a w:=by
  unfold wpOp
  simp only [hi]
  rcases hy with ⟨hw,hr⟩|⟨hw,rfl⟩
  · simp only [hw,if_true,Oper.wp,hr w hc,Oper.upon]
    exact .inl h
  · simp only [hw,Bool.false_eq_true,if_false]
    exact h
theorem Steady.of_same {o:Oper} {v:Value} {a a':Act} (hy:Steady P ops C o v a) (he:execOp a'.eval o=execOp a.eval o)
    (hw:Region.wanted o (yielded ops a'.tmps)=Region.wanted o (yielded ops a.tmps)):Steady P ops C o v a':=by
  unfold Steady at*
  rw [he,hw]
  exact hy
theorem wpOp_put {N:Act->World->Prop} {j:Nat} {oi oj:Oper} {v:Value} (hj:ops[j]?=some oj) (hap:oi.apart ops oj=true)
    (hsi:∀cs b,oi.op≠ .select cs b) (hsj:∀cs b,oj.op≠ .select cs b) {K:Act->World->Prop} {a:Act} {w:World}
    (hy:Steady P ops C oi v a) (h:wpOp P ops (only N) j K (a.put oi.dst v) w):
    wpOp P ops (only N) j (fun a' w'=>Steady P ops C oi v a'/\K (a'.put oi.dst v) w') a w:=by
  obtain ⟨h1,h2,h3⟩:=Oper.apart_spec hap
  have keep:∀(a:Act),Steady P ops C oi v a->∀u,Steady P ops C oi v (a.put oj.dst u):=fun a hy u=>
    hy.of_same (execOp_put oi hsi a oj.dst u h3) (wanted_put oi a oj.dst u h3)
  have keepd:∀(d:Deferred),∀u,Steady P ops C oi v ({a with defers:=d::a.defers}.put oj.dst u):=fun d u=>by
    have h0:=keep a hy u
    refine h0.of_same ?_ ?_
    · congr 1
      funext x
      cases x<;>cases hd:oj.dst<;>simp [Act.eval,Act.put]
    · congr 2
      cases hd:oj.dst<;>simp [Act.put]
  unfold wpOp at*
  simp only [hj] at*
  rw [wanted_put oj a oi.dst v h1] at h
  split
  · rename_i hw
    simp only [hw,if_true] at h
    rcases h with h|⟨_,h⟩
    case inr=>exact absurd h (only_out N)
    left
    unfold Oper.wp at*
    rw [execOp_put oj hsj a oi.dst v h1] at h
    generalize (execOp a.eval oj).run P w=r at*
    cases r with
    |ok nx w'=>
      cases nx<;>simp only [Oper.upon] at h⊢
      case value u=>exact ⟨keep a hy u,by rw [<-Act.put_comm a v u h2];exact h⟩
      case skip=>exact ⟨keep a hy _,by rw [<-Act.put_comm a v undef h2];exact h⟩
      case defer d=>
        refine ⟨keepd d _,?_⟩
        have e:({a with defers:=d::a.defers}.put oj.dst undef).put oi.dst v=({a.put oi.dst v with defers:=d::(a.put oi.dst v).defers}:Act).put oj.dst undef:=by
          have:=Act.put_comm {a with defers:=d::a.defers} v undef h2
          rw [<-this]
          congr 1
          cases hd:oi.dst<;>simp [Act.put]
        rw [e]
        exact h
      case enter f args=>
        refine h.mono fun e w'' he=>?_
        cases e with
        |returned u=>exact ⟨keep a hy u,by rw [<-Act.put_comm a v u h2];exact he⟩
        |panicked c=>exact absurd he.1 (by simp)
        |outgrown=>exact absurd he (only_out N)
      case row row args=>
        exact h.mono fun u w'' he=>⟨keep a hy u,by rw [<-Act.put_comm a v u h2];exact he⟩
    |halt x w'=>cases x<;>simp only [Oper.upon] at h<;>first|exact h.elim|exact absurd h.1 (by simp)
  · rename_i hw
    simp only [hw] at h
    exact ⟨keep a hy _,by rw [<-Act.put_comm a v undef h2];exact h⟩
def Closed (ops:Array Oper) (listed:Array Bool):Prop:=∀j oj,ops[j]?=some oj->listed.getD j false=true->∀e∈oj.after,Region.binds .any e=true->listed.getD e.on false=true
theorem Closed.set {listed:Array Bool} {i:Nat} (h:Closed ops listed) (hi:i∈Region.ready .any ops listed):Closed ops (listed.setIfInBounds i true):=by
  obtain ⟨_,oi,hoi,hall⟩:=mem_ready.1 hi
  intro j oj hj hl e he hb
  by_cases hij:i=j
  · subst hij
    have:oj=oi:=Option.some.inj (hj.symm.trans hoi)
    subst this
    exact getD_set_true (hall e he hb)
  · rw [getD_set_ne false hij] at hl
    exact getD_set_true (h j oj hj hl e he hb)
theorem rel_false {listed:Array Bool} {i j:Nat} (hc:Closed ops listed) (hi:i∈Region.ready .any ops listed) (hj:j∈Region.ready .any ops listed):
    rel ops E i ((listed.setIfInBounds i true).setIfInBounds j true)=false:=by
  obtain ⟨hui,oi,hoi,halli⟩:=mem_ready.1 hi
  obtain ⟨huj,oj,hoj,hallj⟩:=mem_ready.1 hj
  have hun:listed.getD i false=false:=both_false hui
  cases hr:rel ops E i ((listed.setIfInBounds i true).setIfInBounds j true) with
  |false=>rfl
  |true=>
    exfalso
    unfold rel at hr
    obtain ⟨s,_,h2⟩:=List.any_eq_true.1 hr
    simp only [Bool.and_eq_true] at h2
    obtain ⟨hl,h3⟩:=h2
    split at h3
    · rename_i os hos
      obtain ⟨e,he,hb⟩:=Array.any_eq_true'.1 h3
      simp only [Bool.and_eq_true,beq_iff_eq] at hb
      by_cases hsj:j=s
      · subst hsj
        have:os=oj:=Option.some.inj (hos.symm.trans hoj)
        subst this
        have:=hallj e he hb.1
        rw [hb.2,hun] at this
        cases this
      · rw [getD_set_ne false hsj] at hl
        by_cases hsi:i=s
        · subst hsi
          have:os=oi:=Option.some.inj (hos.symm.trans hoi)
          subst this
          have:=halli e he hb.1
          rw [hb.2,hun] at this
          cases this
        · rw [getD_set_ne false hsi] at hl
          have:=hc s os hos hl e he hb.1
          rw [hb.2,hun] at this
          cases this
    · cases h3
theorem wpAnyC_first {L:Facts} {N:Act->World->Prop} {i:Nat} {oi:Oper} {v:Value} (hE:E.contains i=false) (hi:ops[i]?=some oi) (hsel:∀(j:Nat) (o:Oper) cs b,ops[j]?=some o->o.op≠ .select cs b):
    ∀(fuel:Nat) (listed:Array Bool) (a:Act) (w:World),Closed ops listed->
      (∀j oj,ops[j]?=some oj->j≠i->listed.getD j true=false->(∀e∈oj.after,Region.binds .any e=true->e.on≠i)->oi.apart ops oj=true)->
      i∈Region.ready .any ops listed->Steady P ops (factOf L i) oi v a->factOf L i w->held ops E listed w L->
      wpAnyC P ops E L N fuel (listed.setIfInBounds i true) (a.put oi.dst v) w->wpAnyC P ops E L N (fuel+1) listed a w:=by
  intro fuel
  induction fuel with
  |zero=>
    intro listed a w _ _ hr hy hc hh H
    refine ⟨hh,fun h=>(by rw [h] at hr;cases hr),fun j hj=>?_⟩
    by_cases hji:j=i
    · subst hji;exact hy.op hi hc H
    · have:=ready_mono hj hji
      rw [H.2.1] at this
      cases this
  |succ fuel ih=>
    intro listed a w hcl hfree hr hy hc hh H
    refine ⟨hh,fun h=>(by rw [h] at hr;cases hr),fun j hj=>?_⟩
    by_cases hji:j=i
    · subst hji;exact hy.op hi hc H
    · have h1:=H.2.2 j (ready_mono hj hji)
      obtain ⟨hjun,oj,hoj,hall⟩:=mem_ready.1 hj
      have hnot:∀e∈oj.after,Region.binds .any e=true->e.on≠i:=fun e he hb heq=>by
        have h1:=hall e he hb
        have h0:=(mem_ready.1 hr).1
        rw [heq,both_false h0] at h1
        cases h1
      have h2:=wpOp_put hoj (hfree j oj hoj hji hjun hnot) (fun cs b=>hsel i oi cs b hi) (fun cs b=>hsel j oj cs b hoj) hy h1
      have hfree':∀k ok,ops[k]?=some ok->k≠i->(listed.setIfInBounds j true).getD k true=false->
          (∀e∈ok.after,Region.binds .any e=true->e.on≠i)->oi.apart ops ok=true:=fun k ok hk hki hun hno=>by
        refine hfree k ok hk hki ?_ hno
        by_cases hjk:j=k
        · subst hjk;exact hjun
        · rw [getD_set_ne true hjk] at hun;exact hun
      refine wpOp_mono (fun a' w' h3=>?_) h2
      have hrel:=rel_false (E:=E) hcl hr hj
      have hheld:=h3.2.cls
      have hfi:=factOf_held hrel hheld
      have hh2:held ops E (listed.setIfInBounds j true) w' L:=by
        have same:∀x,rel ops E x ((listed.setIfInBounds i true).setIfInBounds j true)=rel ops E x (listed.setIfInBounds j true):=fun x=>by
          unfold rel
          rw [Bool.eq_iff_iff,List.any_eq_true,List.any_eq_true]
          have hs:∀s∈E,((listed.setIfInBounds i true).setIfInBounds j true).getD s false=(listed.setIfInBounds j true).getD s false:=fun s hs=>by
            have hsi:i≠s:=fun e=>by
              subst e
              have:E.contains i=true:=by simpa using hs
              rw [hE] at this
              cases this
            rw [Array.setIfInBounds_comm _ _ (Ne.symm hji),getD_set_ne false hsi]
          constructor
          · rintro ⟨s,hs1,h⟩;exact ⟨s,hs1,by rw [<-hs s hs1];exact h⟩
          · rintro ⟨s,hs1,h⟩;exact ⟨s,hs1,by rw [hs s hs1];exact h⟩
        have key:∀M:Facts,held ops E ((listed.setIfInBounds i true).setIfInBounds j true) w' M->held ops E (listed.setIfInBounds j true) w' M:=by
          intro M
          induction M with
          |nil=>intro _;trivial
          |cons x M ihM=>
            obtain ⟨i',p,v⟩:=x
            intro hM
            exact ⟨by rw [<-same];exact hM.1,ihM hM.2⟩
        exact key L hheld
      refine ih (listed.setIfInBounds j true) a' w' (hcl.set hj) hfree' (ready_mono hr (Ne.symm hji)) h3.1 hfi hh2 ?_
      rw [Array.setIfInBounds_comm _ _ hji]
      exact h3.2
abbrev Sched:=List (Bool×List Nat)
def schedB (ops:Array Oper) (E:List Nat):List (Bool×Nat)->Array Bool->Bool
  |[],listed=>(Region.ready .any ops listed).isEmpty
  |(true,i)::s,listed=>(Region.ready .any ops listed).contains i&&Region.free .any ops listed i&&!E.contains i&&schedB ops E s (listed.setIfInBounds i true)
  |(false,i)::s,listed=>decide (Region.ready .any ops listed=[i])&&schedB ops E s (listed.setIfInBounds i true)
def flat (s:Sched):List (Bool×Nat):=s.flatMap fun x=>x.2.map fun i=>(x.1,i)
def SteadyE (P:Program) (n:Nat) (ops:Array Oper) (C:World->Prop) (o:Oper) (v:Value) (ρ:Env):Prop:=
  (o.guard=none/\∀w,C w->Yields P ρ o v w)\/(∃j b,o.guard=some (j,b)/\yieldsAs ops ρ j n b/\∀w,C w->Yields P ρ o v w)\/(∃j b,o.guard=some (j,b)/\noY ops ρ j n b/\v=undef)
def walkE (P:Program) (n:Nat) (ops:Array Oper) (E:List Nat) (L:Facts) (N:Env->World->Prop):List (Bool×Nat)->Array Bool->Env->World->Prop
  |[],_,ρ,w=>N ρ w
  |(true,i)::s,listed,ρ,w=>∃o v,ops[i]?=some o/\dstOK n o.dst=true/\SteadyE P n ops (factOf L i) o v ρ/\walkE P n ops E L N s (listed.setIfInBounds i true) (put ρ o.dst v) w
  |(false,i)::s,listed,ρ,w=>∃o,ops[i]?=some o/\OpsE P n ops [o] (fun ρ' w'=>held ops E (listed.setIfInBounds i true) w' L/\walkE P n ops E L N s (listed.setIfInBounds i true) ρ' w') ρ w
theorem SteadyE.at {n:Nat} {o:Oper} {v:Value} {ρ:Env} {a:Act} (ha:Rep n ρ a) (h:SteadyE P n ops C o v ρ):Steady P ops C o v a:=by
  rcases h with ⟨hg,hy⟩|⟨j,b,hg,hj,hy⟩|⟨j,b,hg,hj,rfl⟩
  · exact .inl ⟨by simp [Region.wanted,hg],fun w hw=>by rw [ha.eval];exact hy w hw⟩
  · exact .inl ⟨by simp [Region.wanted,hg,yielded_of ha hj],fun w hw=>by rw [ha.eval];exact hy w hw⟩
  · exact .inr ⟨by simp [Region.wanted,hg,not_yielded ha hj],rfl⟩
theorem rel_ready {listed:Array Bool} {i:Nat} (hc:Closed ops listed) (hi:i∈Region.ready .any ops listed):rel ops E i listed=false:=by
  obtain ⟨hui,_⟩:=mem_ready.1 hi
  have hun:listed.getD i false=false:=both_false hui
  cases hr:rel ops E i listed with
  |false=>rfl
  |true=>
    exfalso
    unfold rel at hr
    obtain ⟨s,_,h2⟩:=List.any_eq_true.1 hr
    simp only [Bool.and_eq_true] at h2
    obtain ⟨hl,h3⟩:=h2
    split at h3
    · rename_i os hos
      obtain ⟨e,he,hb⟩:=Array.any_eq_true'.1 h3
      simp only [Bool.and_eq_true,beq_iff_eq] at hb
      have:=hc s os hos hl e he hb.1
      rw [hb.2,hun] at this
      cases this
    · cases h3
theorem walk_any {n:Nat} {L:Facts} {N:Env->World->Prop} (hsel:Region.noSelect ops=true):∀(s:List (Bool×Nat)) (listed:Array Bool) (ρ:Env) (w:World) (a:Act),Rep n ρ a->Closed ops listed->held ops E listed w L->
    schedB ops E s listed=true->walkE P n ops E L N s listed ρ w->wpAnyC P ops E L (fun a' w'=>∃ρ',Rep n ρ' a'/\N ρ' w') s.length listed a w
  |[],listed,ρ,w,a,ha,_,hc,hB,h=>⟨hc,by simpa [schedB] using hB,ρ,ha,h⟩
  |(true,i)::s,listed,ρ,w,a,ha,hcl,hc,hB,h=>by
    simp only [schedB,Bool.and_eq_true,Bool.not_eq_true'] at hB
    obtain ⟨o,v,ho,hd,hs,hw⟩:=h
    have hr:i∈Region.ready .any ops listed:=by simpa using hB.1.1.1
    have hh2:held ops E (listed.setIfInBounds i true) w L:=by
      have hrl:∀x,rel ops E x listed=true->rel ops E x (listed.setIfInBounds i true)=true:=fun x hx=>by
        unfold rel at*
        obtain ⟨s,hs1,h⟩:=List.any_eq_true.1 hx
        simp only [Bool.and_eq_true] at h
        exact List.any_eq_true.2 ⟨s,hs1,by simp only [Bool.and_eq_true];exact ⟨getD_set_true h.1,h.2⟩⟩
      have key:∀M:Facts,held ops E listed w M->held ops E (listed.setIfInBounds i true) w M:=by
        intro M
        induction M with
        |nil=>intro _;trivial
        |cons x M ihM=>
          obtain ⟨i',p,v⟩:=x
          intro hM
          exact ⟨hM.1.imp (hrl _) id,ihM hM.2⟩
      exact key L hc
    exact wpAnyC_first hB.1.2 ho (Region.noSelect_spec hsel) s.length listed a w hcl (Region.free_spec ho hB.1.1.2) hr (hs.at ha) (factOf_held (rel_ready hcl hr) hc) hc
      (walk_any hsel s _ _ w _ (ha.put hd v) (hcl.set hr) hh2 hB.2 hw)
  |(false,i)::s,listed,ρ,w,a,ha,hcl,hc,hB,h=>by
    simp only [schedB,Bool.and_eq_true,decide_eq_true_eq] at hB
    obtain ⟨o,ho,hw⟩:=h
    refine ⟨hc,fun h=>(by rw [hB.1] at h;cases h),fun j hj=>?_⟩
    have hj2:=hj
    rw [hB.1] at hj
    have hji:j=i:=by simpa using hj
    subst hji
    have h1:=hw a ha (fun e a' w'=>e= .normal/\∃ρ',Rep n ρ' a'/\held ops E (listed.setIfInBounds j true) w' L/\walkE P n ops E L N s (listed.setIfInBounds j true) ρ' w') (fun ρ' a' w' hr hk=>⟨rfl,ρ',hr,hk⟩)
    unfold wpList at h1
    unfold wpOp
    simp only [ho]
    have fin:∀a' w',wpList P ops (fun e a' w'=>e= .normal/\∃ρ',Rep n ρ' a'/\held ops E (listed.setIfInBounds j true) w' L/\walkE P n ops E L N s (listed.setIfInBounds j true) ρ' w') [] a' w'->
        wpAnyC P ops E L (fun a' w'=>∃ρ',Rep n ρ' a'/\N ρ' w') s.length (listed.setIfInBounds j true) a' w':=fun a' w' hh=>by
      obtain ⟨_,ρ',hr,hc',hk⟩:=hh
      exact walk_any hsel s _ ρ' w' a' hr (hcl.set hj2) hc' hB.2 hk
    split
    · rename_i hwant
      simp only [hwant,if_true] at h1
      rcases h1 with h1|⟨_,a0,w0,h1,_⟩
      case inr=>cases h1
      left
      unfold Oper.wp at*
      generalize (execOp a.eval o).run P w=r at*
      cases r with
      |ok nx w'=>
        cases nx<;>simp only [Oper.upon] at h1⊢
        case value u=>exact fin _ _ h1
        case skip=>exact fin _ _ h1
        case defer d=>exact fin _ _ h1
        case enter f args=>
          refine h1.mono fun e w'' he=>?_
          cases e with
          |returned u=>exact fin _ _ he
          |panicked c=>exact absurd he.1 (by simp)
          |outgrown=>obtain ⟨_,_,h,_⟩:=he;cases h
        case row row args=>exact h1.mono fun u w'' he=>fin _ _ he
      |halt x w'=>cases x<;>simp only [Oper.upon] at h1<;>first|exact h1.elim|exact absurd h1.1 (by simp)
    · rename_i hwant
      simp only [hwant] at h1
      exact fin _ _ h1
theorem drawE {n:Nat} {K:Exit->Env->World->Prop} {ρ:Env} {w:World} {id:Nat} (E:List Nat) (L:Facts) (s:Sched) (hm:P.follows .mixedOrders=true)
    (hB:(Region.noSelect ops&&decide ((flat s).length=ops.size)&&schedB ops E (flat s) (Array.replicate ops.size false))=true) (hC:held ops E (Array.replicate ops.size false) w L)
    (h:walkE P n ops E L (K .normal) (flat s) (Array.replicate ops.size false) ρ {w with drawn:=w.drawn+1}):CodeE P n (.region id ops true) K ρ w:=by
  intro a ha
  simp only [Bool.and_eq_true,decide_eq_true_eq] at hB
  have hcl:Closed ops (Array.replicate ops.size false):=fun j oj _ hl=>by rw [none_listed] at hl;cases hl
  have hC2:held ops E (Array.replicate ops.size false) {w with drawn:=w.drawn+1} L:=by
    clear hB h
    induction L with
    |nil=>trivial
    |cons x L ih=>obtain ⟨i,p,v⟩:=x;exact ⟨hC.1,ih hC.2⟩
  have h1:=walk_any hB.1.1 (flat s) _ ρ _ a ha hcl hC2 hB.2 h
  rw [hB.1.2] at h1
  refine wp_mono (wp_region_any hm (wpAny_of_C _ _ _ _ h1)) fun e a' w' hq=>?_
  obtain ⟨rfl,ρ',hr,hk⟩:=hq
  exact ⟨ρ',hr,hk⟩
variable {n:Nat} {L:Facts} {N:Env->World->Prop} {ρ:Env} {w:World} {s:Sched} {listed:Array Bool}
theorem wN (h:N ρ w):walkE P n ops E L N (flat []) listed ρ w:=h
theorem wO {i:Nat} {o:Oper} (ho:ops[i]?=some o) (h:OpsE P n ops [o] (fun ρ' w'=>held ops E (listed.setIfInBounds i true) w' L/\walkE P n ops E L N (flat s) (listed.setIfInBounds i true) ρ' w') ρ w):
    walkE P n ops E L N (flat ((false,[i])::s)) listed ρ w:=⟨o,ho,h⟩
end
end Go.E
namespace Go.E
section
variable {P:Program} {n:Nat} {ρ:Env} {w:World} {ops:Array Oper} {rest:List Oper} {N:Env->World->Prop}
def pureRun {α:Type} (P:Program):Sem α->Option α
  | .pure a=>some a
  | .program k=>pureRun P (k P)
  |_=>none
theorem pureRun_run {α:Type} (P:Program):∀(s:Sem α) (a:α),pureRun P s=some a->∀w,s.run P w= .ok a w:=by
  intro s
  induction s with
  |pure b=>intro a h w;simp only [pureRun,Option.some.injEq] at h;subst h;rfl
  |program k ih=>intro a h w;exact ih P a h w
  |_=>intro a h;cases h
def valP:Option Next->Value
  |some (.value v)=>v
  |_=>undef
def isV:Option Next->Bool
  |some (.value _)=>true
  |_=>false
def guardP (ops:Array Oper) (n:Nat) (ρ:Env):Option (Nat×Bool)->Option Bool
  |none=>some true
  |some (j,b)=>match (ops[j]?).bind (·.dst) with
    |some d=>bif Nat.blt d n then (match ρ d with| .bool b'=>some (b'==b)| .tuple _=>some false|_=>none) else none
    |none=>none
def goP (P:Program) (ρ:Env) (o:Oper):Option Bool->Value
  |some true=>valP (pureRun P (execOp (ev ρ) o))
  |_=>undef
def envP (P:Program) (n:Nat) (ops:Array Oper):List Oper->Env->Env
  |[],ρ=>ρ
  |o::l,ρ=>envP P n ops l (put ρ o.dst (goP P ρ o (guardP ops n ρ o.guard)))
def okP (P:Program) (ρ:Env) (o:Oper):Option Bool->Bool
  |some true=>isV (pureRun P (execOp (ev ρ) o))
  |some false=>true
  |none=>false
def pureB (P:Program) (n:Nat) (ops:Array Oper):List Oper->Env->Bool
  |[],_=>true
  |o::l,ρ=>dstOK n o.dst&&okP P ρ o (guardP ops n ρ o.guard)&&pureB P n ops l (put ρ o.dst (goP P ρ o (guardP ops n ρ o.guard)))
theorem guardP_yes {j:Nat} {b:Bool} (h:guardP ops n ρ (some (j,b))=some true):yieldsAs ops ρ j n b:=by
  simp only [guardP] at h
  split at h
  · rename_i d hd
    cases hb:Nat.blt d n with
    |false=>simp [hb] at h
    |true=>
      simp only [hb,cond_true] at h
      split at h
      · rename_i b' hv
        simp only [Option.some.injEq,beq_iff_eq] at h
        subst h
        exact ⟨d,hd,hb,hv⟩
      · cases h
      · cases h
  · cases h
theorem guardP_no {j:Nat} {b:Bool} (h:guardP ops n ρ (some (j,b))=some false):noY ops ρ j n b:=by
  simp only [guardP] at h
  split at h
  · rename_i d hd
    cases hb:Nat.blt d n with
    |false=>simp [hb] at h
    |true=>
      simp only [hb,cond_true] at h
      split at h
      · rename_i b' hv
        simp only [Option.some.injEq] at h
        exact ⟨d,hd,hb, .inl ⟨b',hv,h⟩⟩
      · rename_i l hv
        exact ⟨d,hd,hb, .inr ⟨l,hv⟩⟩
      · cases h
  · cases h
theorem steadyP {C:World->Prop} {o:Oper} (h:okP P ρ o (guardP ops n ρ o.guard)=true):SteadyE P n ops C o (goP P ρ o (guardP ops n ρ o.guard)) ρ:=by
  have run:∀r,pureRun P (execOp (ev ρ) o)=r->isV r=true->∀w,Yields P ρ o (valP r) w:=by
    intro r hr hi w
    cases r with
    |none=>cases hi
    |some x=>
      cases x<;>simp only [isV] at hi<;>first|contradiction|exact pureRun_run P _ _ hr w
  cases hg:o.guard with
  |none=>
    rw [hg] at h
    simp only [guardP,okP] at h
    exact .inl ⟨hg,fun w _=>run _ rfl h w⟩
  |some g=>
    obtain ⟨j,b⟩:=g
    rw [hg] at h
    cases hgp:guardP ops n ρ (some (j,b)) with
    |none=>rw [hgp] at h;cases h
    |some x=>
      rw [hgp] at h
      cases x with
      |true=>
        simp only [okP] at h
        exact .inr (.inl ⟨j,b,hg,guardP_yes hgp,fun w _=>run _ rfl h w⟩)
      |false=>exact .inr (.inr ⟨j,b,hg,guardP_no hgp,rfl⟩)
theorem ops_steady {o:Oper} {v:Value} (hd:dstOK n o.dst=true) (hs:SteadyE P n ops (fun _=>True) o v ρ) (h:OpsE P n ops rest N (put ρ o.dst v) w):OpsE P n ops (o::rest) N ρ w:=by
  rcases hs with ⟨hg,hy⟩|⟨j,b,hg,hj,hy⟩|⟨j,b,hg,hj,rfl⟩
  · exact stepY v hg hd (hy w trivial) h
  · exact guardYes hg hj (stepY v rfl hd (hy w trivial) h)
  · exact guardNo hg hd hj h
theorem sP (l1 l2:List Oper) (hl:l1++l2=rest) (hk:pureB P n ops l1 ρ=true) (h:OpsE P n ops l2 N (envP P n ops l1 ρ) w):OpsE P n ops rest N ρ w:=by
  subst hl
  induction l1 generalizing ρ with
  |nil=>exact h
  |cons o l1 ih=>
    simp only [pureB,Bool.and_eq_true] at hk
    exact ops_steady hk.1.1 (steadyP hk.1.2) (ih hk.2 h)
theorem sp (k:Nat) (hk:pureB P n ops (rest.take k) ρ=true) (h:OpsE P n ops (rest.drop k) N (envP P n ops (rest.take k) ρ) w):OpsE P n ops rest N ρ w:=
  sP _ _ (List.take_append_drop k rest) hk h
def sel (ops:Array Oper) (is:List Nat):List Oper:=is.map fun i=>ops.getD i default
def listAll (is:List Nat) (listed:Array Bool):Array Bool:=is.foldl (fun l i=>l.setIfInBounds i true) listed
theorem wP {E:List Nat} {L:Facts} {s:Sched} {listed:Array Bool} (is:List Nat) (hl:(is.all fun i=>Nat.blt i ops.size)=true) (hk:pureB P n ops (sel ops is) ρ=true)
    (h:walkE P n ops E L N (flat s) (listAll is listed) (envP P n ops (sel ops is) ρ) w):walkE P n ops E L N (flat ((true,is)::s)) listed ρ w:=by
  show walkE P n ops E L N (is.map (fun i=>(true,i))++flat s) listed ρ w
  induction is generalizing ρ listed with
  |nil=>exact h
  |cons i is ih=>
    simp only [List.all_cons,Bool.and_eq_true] at hl
    simp only [sel,List.map_cons,pureB,Bool.and_eq_true] at hk
    have hi:i<ops.size:=by simpa using hl.1
    refine ⟨ops.getD i default,_,by simp [Array.getD,hi],hk.1.1,steadyP hk.1.2,ih hl.2 hk.2 h⟩
theorem p1 {o0:Oper} (hk:pureB P n ops [o0] ρ=true) (h:OpsE P n ops rest N (envP P n ops [o0] ρ) w):OpsE P n ops (o0::rest) N ρ w:=sP [o0] rest rfl hk h
theorem p2 {o0 o1:Oper} (hk:pureB P n ops [o0,o1] ρ=true) (h:OpsE P n ops rest N (envP P n ops [o0,o1] ρ) w):OpsE P n ops (o0::o1::rest) N ρ w:=sP [o0,o1] rest rfl hk h
theorem pu1 {o0:Oper} (h:OpsE P n ops rest N (envP P n ops [o0] ρ) w) (hk:pureB P n ops [o0] ρ=true:=by kernel_rfl):OpsE P n ops (o0::rest) N ρ w:=sP [o0] rest rfl hk h
theorem pu2 {o0 o1:Oper} (h:OpsE P n ops rest N (envP P n ops [o0,o1] ρ) w) (hk:pureB P n ops [o0,o1] ρ=true:=by kernel_rfl):OpsE P n ops (o0::o1::rest) N ρ w:=sP [o0,o1] rest rfl hk h
theorem pu3 {o0 o1 o2:Oper} (h:OpsE P n ops rest N (envP P n ops [o0,o1,o2] ρ) w) (hk:pureB P n ops [o0,o1,o2] ρ=true:=by kernel_rfl):OpsE P n ops (o0::o1::o2::rest) N ρ w:=sP [o0,o1,o2] rest rfl hk h
theorem pu4 {o0 o1 o2 o3:Oper} (h:OpsE P n ops rest N (envP P n ops [o0,o1,o2,o3] ρ) w) (hk:pureB P n ops [o0,o1,o2,o3] ρ=true:=by kernel_rfl):OpsE P n ops (o0::o1::o2::o3::rest) N ρ w:=sP [o0,o1,o2,o3] rest rfl hk h
theorem pu5 {o0 o1 o2 o3 o4:Oper} (h:OpsE P n ops rest N (envP P n ops [o0,o1,o2,o3,o4] ρ) w) (hk:pureB P n ops [o0,o1,o2,o3,o4] ρ=true:=by kernel_rfl):OpsE P n ops (o0::o1::o2::o3::o4::rest) N ρ w:=sP [o0,o1,o2,o3,o4] rest rfl hk h
theorem pu6 {o0 o1 o2 o3 o4 o5:Oper} (h:OpsE P n ops rest N (envP P n ops [o0,o1,o2,o3,o4,o5] ρ) w) (hk:pureB P n ops [o0,o1,o2,o3,o4,o5] ρ=true:=by kernel_rfl):OpsE P n ops (o0::o1::o2::o3::o4::o5::rest) N ρ w:=sP [o0,o1,o2,o3,o4,o5] rest rfl hk h
theorem pu7 {o0 o1 o2 o3 o4 o5 o6:Oper} (h:OpsE P n ops rest N (envP P n ops [o0,o1,o2,o3,o4,o5,o6] ρ) w) (hk:pureB P n ops [o0,o1,o2,o3,o4,o5,o6] ρ=true:=by kernel_rfl):OpsE P n ops (o0::o1::o2::o3::o4::o5::o6::rest) N ρ w:=sP [o0,o1,o2,o3,o4,o5,o6] rest rfl hk h
theorem pu8 {o0 o1 o2 o3 o4 o5 o6 o7:Oper} (h:OpsE P n ops rest N (envP P n ops [o0,o1,o2,o3,o4,o5,o6,o7] ρ) w) (hk:pureB P n ops [o0,o1,o2,o3,o4,o5,o6,o7] ρ=true:=by kernel_rfl):OpsE P n ops (o0::o1::o2::o3::o4::o5::o6::o7::rest) N ρ w:=sP [o0,o1,o2,o3,o4,o5,o6,o7] rest rfl hk h
theorem pu9 {o0 o1 o2 o3 o4 o5 o6 o7 o8:Oper} (h:OpsE P n ops rest N (envP P n ops [o0,o1,o2,o3,o4,o5,o6,o7,o8] ρ) w) (hk:pureB P n ops [o0,o1,o2,o3,o4,o5,o6,o7,o8] ρ=true:=by kernel_rfl):OpsE P n ops (o0::o1::o2::o3::o4::o5::o6::o7::o8::rest) N ρ w:=sP [o0,o1,o2,o3,o4,o5,o6,o7,o8] rest rfl hk h
theorem pu10 {o0 o1 o2 o3 o4 o5 o6 o7 o8 o9:Oper} (h:OpsE P n ops rest N (envP P n ops [o0,o1,o2,o3,o4,o5,o6,o7,o8,o9] ρ) w) (hk:pureB P n ops [o0,o1,o2,o3,o4,o5,o6,o7,o8,o9] ρ=true:=by kernel_rfl):OpsE P n ops (o0::o1::o2::o3::o4::o5::o6::o7::o8::o9::rest) N ρ w:=sP [o0,o1,o2,o3,o4,o5,o6,o7,o8,o9] rest rfl hk h
theorem pu11 {o0 o1 o2 o3 o4 o5 o6 o7 o8 o9 o10:Oper} (h:OpsE P n ops rest N (envP P n ops [o0,o1,o2,o3,o4,o5,o6,o7,o8,o9,o10] ρ) w) (hk:pureB P n ops [o0,o1,o2,o3,o4,o5,o6,o7,o8,o9,o10] ρ=true:=by kernel_rfl):OpsE P n ops (o0::o1::o2::o3::o4::o5::o6::o7::o8::o9::o10::rest) N ρ w:=sP [o0,o1,o2,o3,o4,o5,o6,o7,o8,o9,o10] rest rfl hk h
theorem pu12 {o0 o1 o2 o3 o4 o5 o6 o7 o8 o9 o10 o11:Oper} (h:OpsE P n ops rest N (envP P n ops [o0,o1,o2,o3,o4,o5,o6,o7,o8,o9,o10,o11] ρ) w) (hk:pureB P n ops [o0,o1,o2,o3,o4,o5,o6,o7,o8,o9,o10,o11] ρ=true:=by kernel_rfl):OpsE P n ops (o0::o1::o2::o3::o4::o5::o6::o7::o8::o9::o10::o11::rest) N ρ w:=sP [o0,o1,o2,o3,o4,o5,o6,o7,o8,o9,o10,o11] rest rfl hk h
theorem pu13 {o0 o1 o2 o3 o4 o5 o6 o7 o8 o9 o10 o11 o12:Oper} (h:OpsE P n ops rest N (envP P n ops [o0,o1,o2,o3,o4,o5,o6,o7,o8,o9,o10,o11,o12] ρ) w) (hk:pureB P n ops [o0,o1,o2,o3,o4,o5,o6,o7,o8,o9,o10,o11,o12] ρ=true:=by kernel_rfl):OpsE P n ops (o0::o1::o2::o3::o4::o5::o6::o7::o8::o9::o10::o11::o12::rest) N ρ w:=sP [o0,o1,o2,o3,o4,o5,o6,o7,o8,o9,o10,o11,o12] rest rfl hk h
theorem pu14 {o0 o1 o2 o3 o4 o5 o6 o7 o8 o9 o10 o11 o12 o13:Oper} (h:OpsE P n ops rest N (envP P n ops [o0,o1,o2,o3,o4,o5,o6,o7,o8,o9,o10,o11,o12,o13] ρ) w) (hk:pureB P n ops [o0,o1,o2,o3,o4,o5,o6,o7,o8,o9,o10,o11,o12,o13] ρ=true:=by kernel_rfl):OpsE P n ops (o0::o1::o2::o3::o4::o5::o6::o7::o8::o9::o10::o11::o12::o13::rest) N ρ w:=sP [o0,o1,o2,o3,o4,o5,o6,o7,o8,o9,o10,o11,o12,o13] rest rfl hk h
theorem pu15 {o0 o1 o2 o3 o4 o5 o6 o7 o8 o9 o10 o11 o12 o13 o14:Oper} (h:OpsE P n ops rest N (envP P n ops [o0,o1,o2,o3,o4,o5,o6,o7,o8,o9,o10,o11,o12,o13,o14] ρ) w) (hk:pureB P n ops [o0,o1,o2,o3,o4,o5,o6,o7,o8,o9,o10,o11,o12,o13,o14] ρ=true:=by kernel_rfl):OpsE P n ops (o0::o1::o2::o3::o4::o5::o6::o7::o8::o9::o10::o11::o12::o13::o14::rest) N ρ w:=sP [o0,o1,o2,o3,o4,o5,o6,o7,o8,o9,o10,o11,o12,o13,o14] rest rfl hk h
theorem pu16 {o0 o1 o2 o3 o4 o5 o6 o7 o8 o9 o10 o11 o12 o13 o14 o15:Oper} (h:OpsE P n ops rest N (envP P n ops [o0,o1,o2,o3,o4,o5,o6,o7,o8,o9,o10,o11,o12,o13,o14,o15] ρ) w) (hk:pureB P n ops [o0,o1,o2,o3,o4,o5,o6,o7,o8,o9,o10,o11,o12,o13,o14,o15] ρ=true:=by kernel_rfl):OpsE P n ops (o0::o1::o2::o3::o4::o5::o6::o7::o8::o9::o10::o11::o12::o13::o14::o15::rest) N ρ w:=sP [o0,o1,o2,o3,o4,o5,o6,o7,o8,o9,o10,o11,o12,o13,o14,o15] rest rfl hk h
theorem wU {E:List Nat} {L:Facts} {s:Sched} {listed:Array Bool} (is:List Nat) (h:walkE P n ops E L N (flat s) (listAll is listed) (envP P n ops (sel ops is) ρ) w) (hl:(is.all fun i=>Nat.blt i ops.size)=true:=by rfl) (hk:pureB P n ops (sel ops is) ρ=true:=by kernel_rfl):walkE P n ops E L N (flat ((true,is)::s)) listed ρ w:=wP is hl hk h
end
end Go.E
