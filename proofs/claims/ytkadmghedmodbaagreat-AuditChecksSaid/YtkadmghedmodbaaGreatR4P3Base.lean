import Derived.WalkKit
import Derived.Deep.Quiet
import Derived.KernelRfl
set_option linter.all false
namespace Go.E
abbrev Env:=Nat->Value
def upd (ρ:Env) (d:Nat) (v:Value):Env:=fun t=>bif Nat.beq t d then v else ρ t
def put (ρ:Env):Option Tmp->Value->Env
  |some d,v=>upd ρ d v
  |none,_=>ρ
def upds (ρ:Env):List (Nat×Value)->Env
  |[]=>ρ
  |(d,v)::us=>upds (upd ρ d v) us
def ev (ρ:Env):Operand->Value
  | .tmp t=>ρ t
  | .const v=>v
  | .global g=> .pointer (some ⟨g,0,none⟩)
  | .func f=> .func (.func f) #[] #[]
def rho0 (args:Array Value):Env:=fun t=>args.getD t undef
structure Rep (n:Nat) (ρ:Env) (a:Act):Prop where
  size:a.tmps.size=n
  dfr:a.defers=[]
  val:∀t,a.tmps.getD t undef=ρ t
theorem Rep.eval {n:Nat} {ρ:Env} {a:Act} (h:Rep n ρ a):a.eval=ev ρ:=funext fun x=>by cases x<;>simp [Act.eval,ev,h.val]
def dstOK (n:Nat):Option Tmp->Bool
  |none=>true
  |some d=>Nat.blt d n
theorem Rep.put {n:Nat} {ρ:Env} {a:Act} (h:Rep n ρ a) {d:Option Tmp} (hd:dstOK n d=true) (v:Value):Rep n (put ρ d v) (a.put d v):=by
  cases d with
  |none=>exact h
  |some d=>
    have hd':d<n:=by simpa [dstOK] using hd
    refine ⟨by simp [Act.put,h.size],by simp [Act.put,h.dfr],fun t=>?_⟩
    have hv:=h.val t
    have hs:=h.size
    simp only [Act.put,E.put,upd,Bool.cond_eq_ite]
    by_cases htd:t=d
    · subst htd
      simp [hs,hd']
    · have:Nat.beq t d=false:=by cases hb:Nat.beq t d with|false=>rfl|true=>exact absurd (Nat.eq_of_beq_eq_true hb) htd
      rw [if_neg (by simp [this]),<-hv]
      simp only [Array.getD_eq_getD_getElem?,Array.getElem?_setIfInBounds]
      rw [if_neg (fun e=>htd e.symm)]
def lift (n:Nat) (K:Exit->Env->World->Prop):Exit->Act->World->Prop:=fun e a w=>∃ρ,Rep n ρ a/\K e ρ w
def CodeE (P:Program) (n:Nat) (c:Code) (K:Exit->Env->World->Prop) (ρ:Env) (w:World):Prop:=∀a,Rep n ρ a->c.wp P (lift n K) a w
def OpsE (P:Program) (n:Nat) (ops:Array Oper) (l:List Oper) (K:Env->World->Prop) (ρ:Env) (w:World):Prop:=
  ∀a,Rep n ρ a->∀Q:Exit->Act->World->Prop,(∀ρ a w,Rep n ρ a->K ρ w->Q .normal a w)->wpList P ops Q l a w
def thenK (N:Env->World->Prop) (K:Exit->Env->World->Prop):Exit->Env->World->Prop
  | .normal,ρ,w=>N ρ w
  |e,ρ,w=>K e ρ w
def blockK (id:Nat) (K:Exit->Env->World->Prop):Exit->Env->World->Prop
  | .exit id',ρ,w=>if id'=id then K .normal ρ w else K (.exit id') ρ w
  |e,ρ,w=>K e ρ w
section
variable {P:Program} {n:Nat} {K:Exit->Env->World->Prop} {ρ:Env} {w:World}
theorem CodeE.mono {c:Code} {K':Exit->Env->World->Prop} (h:CodeE P n c K ρ w) (hk:∀e ρ w,K e ρ w->K' e ρ w):CodeE P n c K' ρ w:=
  fun a ha=>wp_mono (h a ha) fun _ _ _ ⟨ρ',hr,hK⟩=>⟨ρ',hr,hk _ _ _ hK⟩
theorem seqE {x y:Code} (h:CodeE P n x (thenK (CodeE P n y K) K) ρ w):CodeE P n (.seq x y) K ρ w:=by
  intro a ha
  refine wp_seq (wp_mono (h a ha) fun e a' w' hq=>?_)
  obtain ⟨ρ',hr,hK⟩:=hq
  cases e with
  |normal=>exact hK a' hr
  |exit id=>exact ⟨ρ',hr,hK⟩
  |goto l=>exact ⟨ρ',hr,hK⟩
  |ret=>exact ⟨ρ',hr,hK⟩
  |panic c=>exact ⟨ρ',hr,hK⟩
  |outgrown=>exact ⟨ρ',hr,hK⟩
theorem cutE {x y:Code} (I:Env->World->Prop) (h:CodeE P n x (thenK I K) ρ w) (h2:∀ρ w,I ρ w->CodeE P n y K ρ w):CodeE P n (.seq x y) K ρ w:=
  seqE (h.mono fun e ρ w hk=>by
    cases e with
    |normal=>exact h2 _ _ hk
    |exit id=>exact hk
    |goto l=>exact hk
    |ret=>exact hk
    |panic c=>exact hk
    |outgrown=>exact hk)
theorem skipE (h:K .normal ρ w):CodeE P n .skip K ρ w:=fun _ ha=>wp_skip ⟨ρ,ha,h⟩
theorem exitE {id:Nat} (h:K (.exit id) ρ w):CodeE P n (.exit id) K ρ w:=fun _ ha=>wp_exit ⟨ρ,ha,h⟩
theorem retE (h:K .ret ρ w):CodeE P n .ret K ρ w:=fun _ ha=>wp_ret ⟨ρ,ha,h⟩
theorem condE {c:Operand} {x y:Code} {b:Bool} (hc:ev ρ c= .bool b) (ht:b=true->CodeE P n x K ρ w) (hf:b=false->CodeE P n y K ρ w):
    CodeE P n (.cond c x y) K ρ w:=fun a ha=>wp_cond_split (by rw [ha.eval];exact hc) (fun h=>ht h a ha) (fun h=>hf h a ha)
theorem condE_true {c:Operand} {x y:Code} (hc:ev ρ c= .bool true) (h:CodeE P n x K ρ w):CodeE P n (.cond c x y) K ρ w:=
  fun a ha=>wp_cond_true (by rw [ha.eval];exact hc) (h a ha)
theorem condE_false {c:Operand} {x y:Code} (hc:ev ρ c= .bool false) (h:CodeE P n y K ρ w):CodeE P n (.cond c x y) K ρ w:=
  fun a ha=>wp_cond_false (by rw [ha.eval];exact hc) (h a ha)
theorem blockE {id:Nat} {c:Code} (h:CodeE P n c (blockK id K) ρ w):CodeE P n (.block id c) K ρ w:=by
  intro a ha
  refine wp_block (wp_mono (h a ha) fun e a' w' hq=>?_)
  obtain ⟨ρ',hr,hK⟩:=hq
  cases e with
  |normal=>exact ⟨ρ',hr,hK⟩
  |exit id'=>
    simp only [blockK] at hK
    simp only [Exit.inBlock]
    split
    · rename_i h;rw [if_pos h] at hK;exact ⟨ρ',hr,hK⟩
    · rename_i h;rw [if_neg h] at hK;exact ⟨ρ',hr,hK⟩
  |goto l=>exact ⟨ρ',hr,hK⟩
  |ret=>exact ⟨ρ',hr,hK⟩
  |panic c=>exact ⟨ρ',hr,hK⟩
  |outgrown=>exact ⟨ρ',hr,hK⟩
theorem loopE {c:Code} {γ:Type} (I:γ->Env->World->Prop) (μ:γ->Nat) (g0:γ) (h0:I g0 ρ w)
    (h:∀g ρ w,I g ρ w->CodeE P n c (thenK (fun ρ' w'=>∃g',μ g'<μ g/\I g' ρ' w') K) ρ w):CodeE P n (.loop c) K ρ w:=by
  classical
  intro a ha
  let J:Nat->Act->World->Prop:=fun m a w=>∃g ρ,μ g=m/\Rep n ρ a/\I g ρ w
  let least:Act->World->Nat:=fun a w=>if hx:∃m,J m a w then Classical.choose (show ∃m,J m a w/\∀k,J k a w->m<=k from by
    obtain ⟨m,hm⟩:=hx
    induction m using Nat.strongRecOn with
    |_ m ih=>
      by_cases hy:∃k,k<m/\J k a w
      · obtain ⟨k,hk,hj⟩:=hy;exact ih k hk hj
      · exact ⟨m,hm,fun k hk=>Nat.le_of_not_lt fun hlt=>hy ⟨k,hlt,hk⟩⟩) else 0
  have hleast:∀a w,(∃m,J m a w)->J (least a w) a w/\∀k,J k a w->least a w<=k:=by
    intro a w hx
    simp only [least,dif_pos hx]
    exact Classical.choose_spec (p:=fun m=>J m a w/\∀k,J k a w->m<=k) _
  refine wp_loop (fun a w=>∃m,J m a w) least ⟨_,g0,ρ,rfl,ha,h0⟩ fun a w hx=>?_
  obtain ⟨⟨g,ρ',hm,hr,hI⟩,_⟩:=hleast a w hx
  refine wp_mono (h g ρ' w hI a hr) fun e a' w' hq=>?_
  obtain ⟨ρ'',hr',hK⟩:=hq
  cases e with
  |normal=>
    obtain ⟨g',hlt,hI'⟩:=hK
    have hj:J (μ g') a' w':=⟨g',ρ'',rfl,hr',hI'⟩
    exact ⟨⟨_,hj⟩,Nat.lt_of_le_of_lt ((hleast a' w' ⟨_,hj⟩).2 _ hj) (hm▸hlt)⟩
  |exit id=>exact ⟨ρ'',hr',hK⟩
  |goto l=>exact ⟨ρ'',hr',hK⟩
  |ret=>exact ⟨ρ'',hr',hK⟩
  |panic c=>exact ⟨ρ'',hr',hK⟩
  |outgrown=>exact ⟨ρ'',hr',hK⟩
def roundsE (P:Program) (n:Nat) (c:Code) (K:Exit->Env->World->Prop):Nat->Env->World->Prop
  |0,_,_=>False
  |m+1,ρ,w=>CodeE P n c (thenK (roundsE P n c K m) K) ρ w
theorem roundS {c:Code} {m:Nat} (h:CodeE P n c (thenK (roundsE P n c K m) K) ρ w):roundsE P n c K (m+1) ρ w:=h
theorem loopN {c:Code} (m:Nat) (h:roundsE P n c K m ρ w):CodeE P n (.loop c) K ρ w:=by
  have key:∀m ρ w,roundsE P n c K m ρ w->∀a,Rep n ρ a->Code.rounds P c (lift n K) m a w:=by
    intro m
    induction m with
    |zero=>intro ρ w h a _;exact h.elim
    |succ m ih=>
      intro ρ w h a ha
      refine wp_mono (h a ha) fun e a' w' hq=>?_
      obtain ⟨ρ',hr,hK⟩:=hq
      cases e with
      |normal=>exact ih _ _ hK a' hr
      |exit id=>exact ⟨ρ',hr,hK⟩
      |goto l=>exact ⟨ρ',hr,hK⟩
      |ret=>exact ⟨ρ',hr,hK⟩
      |panic c=>exact ⟨ρ',hr,hK⟩
      |outgrown=>exact ⟨ρ',hr,hK⟩
  exact fun a ha=>wp_loop_rounds m (key m ρ w h a ha)
theorem regionE {id:Nat} {l:List Oper} (h:OpsE P n l.toArray l (K .normal) ρ w):CodeE P n (.region id l.toArray false) K ρ w:=
  fun a ha=>wp_region_lit (h a ha _ fun ρ _ _ hr hk=>⟨ρ,hr,hk⟩)
theorem thenK_n {N:Env->World->Prop} (h:N ρ w):thenK N K .normal ρ w:=h
theorem thenK_r {N:Env->World->Prop} (h:K .ret ρ w):thenK N K .ret ρ w:=h
theorem thenK_x {N:Env->World->Prop} {id:Nat} (h:K (.exit id) ρ w):thenK N K (.exit id) ρ w:=h
theorem blockK_n {id:Nat} (h:K .normal ρ w):blockK id K .normal ρ w:=h
theorem blockK_r {id:Nat} (h:K .ret ρ w):blockK id K .ret ρ w:=h
theorem blockK_x {id:Nat} (h:K .normal ρ w):blockK id K (.exit id) ρ w:=by simp only [blockK,if_true];exact h
theorem blockK_y {id id':Nat} (hn:Nat.beq id' id=false) (h:K (.exit id') ρ w):blockK id K (.exit id') ρ w:=by
  have:¬id'=id:=fun e=>by simp [e] at hn
  simp only [blockK,if_neg this];exact h
inductive Res1 (P:Program) (ρ:Env) (w:World):ResultVar->Value->Prop
  |tmp (t:Tmp) (v:Value) (h:ρ t=v):Res1 P ρ w (.tmp t) v
  |cell (t:Tmp) (ty:TypeId) (a:Addr) (v:Value) (h:ρ t= .pointer (some a)) (hv:(loadVar ty a).run P w= .ok v w):Res1 P ρ w (.cell t ty) v
inductive ResN (P:Program) (ρ:Env) (w:World):List ResultVar->List Value->Prop
  |nil:ResN P ρ w [] []
  |cons {r:ResultVar} {v:Value} {rs:List ResultVar} {vs:List Value} (h:Res1 P ρ w r v) (t:ResN P ρ w rs vs):ResN P ρ w (r::rs) (v::vs)
def packed:List Value->Value
  |[v]=>v
  |vs=> .tuple vs.toArray
theorem packed_eq (vs:List Value):(if h:vs.toArray.size=1 then vs.toArray[0] else .tuple vs.toArray)=packed vs:=by
  match vs with
  |[]=>rfl
  |[v]=>rfl
  |a::b::t=>simp [packed]
def retK (P:Program) (fn:Func) (R:Ending->World->Prop):Exit->Env->World->Prop
  | .ret,ρ,w| .normal,ρ,w=>∃vs,ResN P ρ w fn.results.toList vs/\R (.returned (packed vs)) w
  |_,_,_=>False
def resG (ρ:Env):ResultVar->Sem Value
  | .tmp t=>pure (ρ t)
  | .cell a t=>do loadVar t (<-asAddr (ρ a))
theorem asAddr_ptr (a:Addr):asAddr (.pointer (some a))=pure a:=rfl
theorem results_run {fn:Func} {tmps:Array Value} {vs:List Value} (hv:∀t,tmps.getD t undef=ρ t) (h:ResN P ρ w fn.results.toList vs):
    (results fn tmps).run P w= .ok (packed vs) w:=by
  have key:∀(rs:List ResultVar) (vs:List Value),ResN P ρ w rs vs->(rs.mapM (resG ρ)).run P w= .ok vs w:=by
    intro rs vs h
    induction h with
    |nil=>simp
    |cons h1 _ ih=>
      cases h1 with
      |tmp t v h=>simp [List.mapM_cons,resG,h,ih]
      |cell t ty a v h hl=>simp [List.mapM_cons,resG,h,asAddr_ptr,hl,ih]
  have hk:=key _ _ h
  have e:fn.results=fn.results.toList.toArray:=by simp
  have e2:results fn tmps=(do let vs<-fn.results.mapM (resG ρ);pure (if h:vs.size=1 then vs[0] else .tuple vs)):=by
    unfold results
    congr 2
    funext r
    cases r with
    |tmp t=>simp [resG,hv]
    |cell t ty=>simp only [resG,hv]
  rw [e2,e,List.mapM_toArray]
  simp only [Sem.run_bind,Sem.run_map,hk]
  simpa using packed_eq vs
theorem callsE {f:FuncId} {fn:Func} {c:Code} {args:Array Value} {R:Ending->World->Prop} (hf:P.funcs[f]?=some fn) (hb:fn.body=some c) (hn:fn.ntmps=n)
    (hs:args.size<=n) (h:CodeE P n c (retK P fn R) (rho0 args) w):Calls P f args w R:=by
  refine calls_of_wp hf hb ?_
  have hrep:Rep n (rho0 args) {tmps:=args++Array.replicate (fn.ntmps-args.size) undef,defers:=[]}:=by
    refine ⟨by simp [hn];omega,rfl,fun t=>?_⟩
    simp only [rho0,Array.getD_eq_getD_getElem?,Array.getElem?_append]
    by_cases ht:t<args.size
    · simp [ht]
    · simp only [ht,if_false,Array.getElem?_replicate]
      split<;>simp [ht]
  refine wp_mono (h _ hrep) fun e a' w' hq=>?_
  obtain ⟨ρ',hr,hK⟩:=hq
  cases e with
  |normal=>obtain ⟨vs,h1,h2⟩:=hK;exact ⟨hr.dfr,_,results_run hr.val h1,h2⟩
  |ret=>obtain ⟨vs,h1,h2⟩:=hK;exact ⟨hr.dfr,_,results_run hr.val h1,h2⟩
  |exit id=>exact hK.elim
  |goto l=>exact hK.elim
  |panic c=>exact hK.elim
  |outgrown=>exact hK.elim
theorem ret0n {fn:Func} {R:Ending->World->Prop} (hr:fn.results=#[]) (h:R (.returned (.tuple #[])) w):retK P fn R .normal ρ w:=⟨[],by rw [hr];exact .nil,h⟩
theorem retN {fn:Func} {R:Ending->World->Prop} {rs:List ResultVar} {vs:List Value} (hr:fn.results=rs.toArray) (hv:ResN P ρ w rs vs) (h:R (.returned (packed vs)) w):
    retK P fn R .ret ρ w:=⟨vs,by rw [hr];exact hv,h⟩
variable {ops:Array Oper} {rest:List Oper} {N:Env->World->Prop}
def Yields (P:Program) (ρ:Env) (o:Oper) (v:Value) (w:World):Prop:=(execOp (ev ρ) o).run P w= .ok (.value v) w
theorem nilO (h:N ρ w):OpsE P n ops [] N ρ w:=fun _ ha _ hq=>hq _ _ _ ha h
theorem stepRun {o:Oper} {v:Value} {w':World} (hg:o.guard=none) (hd:dstOK n o.dst=true) (hy:(execOp (ev ρ) o).run P w= .ok (.value v) w')
    (h:OpsE P n ops rest N (put ρ o.dst v) w'):OpsE P n ops (o::rest) N ρ w:=by
  intro a ha Q hq
  unfold wpList
  rw [if_pos (by simp [Region.wanted,hg])]
  refine .inl ?_
  unfold Oper.wp
  rw [ha.eval,hy]
  exact h _ (ha.put hd v) Q hq
theorem stepY {o:Oper} (v:Value) (hg:o.guard=none) (hd:dstOK n o.dst=true) (hy:Yields P ρ o v w)
    (h:OpsE P n ops rest N (put ρ o.dst v) w):OpsE P n ops (o::rest) N ρ w:=stepRun hg hd hy h
theorem stepSkip {o:Oper} {w':World} (hg:o.guard=none) (hd:dstOK n o.dst=true) (hy:(execOp (ev ρ) o).run P w= .ok .skip w')
    (h:OpsE P n ops rest N (put ρ o.dst undef) w'):OpsE P n ops (o::rest) N ρ w:=by
  intro a ha Q hq
  unfold wpList
  rw [if_pos (by simp [Region.wanted,hg])]
  refine .inl ?_
  unfold Oper.wp
  rw [ha.eval,hy]
  exact h _ (ha.put hd _) Q hq
theorem stepCall {o:Oper} {f:FuncId} {args:Array Value} (hg:o.guard=none) (hd:dstOK n o.dst=true) (hy:(execOp (ev ρ) o).run P w= .ok (.enter f args) w)
    (h:Calls P f args w fun e w'=>∃v,e= .returned v/\OpsE P n ops rest N (put ρ o.dst v) w'):OpsE P n ops (o::rest) N ρ w:=by
  intro a ha Q hq
  unfold wpList
  rw [if_pos (by simp [Region.wanted,hg])]
  refine .inl ?_
  unfold Oper.wp
  rw [ha.eval,hy]
  refine h.mono fun e w' ⟨v,he,hv⟩=>?_
  subst he
  exact hv _ (ha.put hd v) Q hq
def yieldsAs (ops:Array Oper) (ρ:Env) (j:Nat) (n:Nat) (b:Bool):Prop:=∃d,(ops[j]?).bind (·.dst)=some d/\Nat.blt d n=true/\ρ d= .bool b
theorem yielded_of {a:Act} (ha:Rep n ρ a) {j:Nat} {b:Bool} (h:yieldsAs ops ρ j n b):yielded ops a.tmps j=some b:=by
  obtain ⟨d,h1,h2,h3⟩:=h
  have hd:d<a.tmps.size:=by rw [ha.size];simpa using h2
  have hv:=ha.val d
  rw [h3] at hv
  have:a.tmps[d]?=some (.bool b):=by
    rw [Array.getD_eq_getD_getElem?] at hv
    rw [Array.getElem?_eq_getElem hd] at hv⊢
    simpa using hv
  simp [yielded,h1,this]
theorem guardYes {o:Oper} {j:Nat} {b:Bool} (hg:o.guard=some (j,b)) (hy:yieldsAs ops ρ j n b) (h:OpsE P n ops ({o with guard:=none}::rest) N ρ w):OpsE P n ops (o::rest) N ρ w:=by
  intro a ha Q hq
  have h1:=h a ha Q hq
  have hyd:=yielded_of ha hy
  unfold wpList at h1⊢
  rw [if_pos (by simp [Region.wanted])] at h1
  rw [if_pos (by simp [Region.wanted,hg,hyd])]
  rcases h1 with h1|h1
  · exact .inl h1
  · exact .inr h1
def noY (ops:Array Oper) (ρ:Env) (j:Nat) (n:Nat) (b:Bool):Prop:=∃d,(ops[j]?).bind (·.dst)=some d/\Nat.blt d n=true/\((∃c,ρ d= .bool c/\(c==b)=false)\/∃l,ρ d= .tuple l)
theorem not_yielded {a:Act} (ha:Rep n ρ a) {j:Nat} {b:Bool} (h:noY ops ρ j n b):yielded ops a.tmps j≠some b:=by
  obtain ⟨d,h1,h2,h3⟩:=h
  have hd:d<a.tmps.size:=by rw [ha.size];simpa using h2
  have hv:=ha.val d
  have hq:a.tmps[d]?=some (ρ d):=by
    rw [Array.getD_eq_getD_getElem?] at hv
    rw [Array.getElem?_eq_getElem hd] at hv⊢
    simpa using hv
  rcases h3 with ⟨c,h3,hc⟩|⟨l,h3⟩
  · rw [h3] at hq
    intro e
    simp [yielded,h1,hq] at e
    simp [e] at hc
  · rw [h3] at hq
    simp [yielded,h1,hq]
theorem guardNo {o:Oper} {j:Nat} {b:Bool} (hg:o.guard=some (j,b)) (hd:dstOK n o.dst=true) (hy:noY ops ρ j n b) (h:OpsE P n ops rest N (put ρ o.dst undef) w):
    OpsE P n ops (o::rest) N ρ w:=by
  intro a ha Q hq
  have hyd:=not_yielded ha hy
  unfold wpList
  rw [if_neg (by simp [Region.wanted,hg,hyd])]
  exact h _ (ha.put hd _) Q hq
end
end Go.E
namespace Go.E
abbrev Chunk:=List (Nat×Obj)
structure Sat (W w:World) (cs:List Chunk):Prop where
  os:w.os=W.os
  tape:w.tape=W.tape
  output:w.output=W.output
  nd:(cs.flatten.map (·.1)).Nodup
  all:∀p∈cs.flatten,w.heap[p.1]?=some p.2
section
variable {W w:World} {cs:List Chunk}
theorem Sat.perm {cs':List Chunk} (h:Sat W w cs) (hp:cs.flatten.Perm cs'.flatten):Sat W w cs':=
  ⟨h.os,h.tape,h.output,(hp.map _).nodup_iff.1 h.nd,fun p hm=>h.all p (hp.mem_iff.2 hm)⟩
theorem flatten_pick:∀(cs:List Chunk) (i:Nat) (c:Chunk),cs[i]?=some c->cs.flatten.Perm (c++(cs.eraseIdx i).flatten)
  |[],i,c,h=>by simp at h
  |d::ds,0,c,h=>by simp at h;subst h;simp
  |d::ds,i+1,c,h=>by
    have ih:=flatten_pick ds i c (by simpa using h)
    simp only [List.flatten_cons,List.eraseIdx_cons_succ]
    refine (List.Perm.append_left d ih).trans ?_
    rw [<-List.append_assoc,<-List.append_assoc]
    exact List.Perm.append_right _ List.perm_append_comm
theorem Sat.pick0 {c:Chunk} (h:Sat W w cs) (i:Nat) (hi:cs[i]?=some c):Sat W w (c::cs.eraseIdx i):=h.perm (by simpa using flatten_pick cs i c hi)
theorem Sat.tail {c:Chunk} {F:List Chunk} (h:Sat W w (c::F)):Sat W w F:=by
  refine ⟨h.os,h.tape,h.output,?_,fun p hm=>h.all p (by simp only [List.flatten_cons,List.mem_append];exact .inr hm)⟩
  have:=h.nd
  simp only [List.flatten_cons,List.map_append] at this
  exact (List.nodup_append.1 this).2.1
theorem Sat.merge2 {c0 c1:Chunk} {F:List Chunk} (h:Sat W w (c0::c1::F)):Sat W w ((c0++c1)::F):=h.perm (by simp)
theorem Sat.merge8 {c0 c1 c2 c3 c4 c5 c6 c7:Chunk} {F:List Chunk} (h:Sat W w (c0::c1::c2::c3::c4::c5::c6::c7::F)):Sat W w ((c0++(c1++(c2++(c3++(c4++(c5++(c6++c7)))))))::F):=h.perm (by simp)
theorem Sat.pick {c:Chunk} {cs':List Chunk} (h:Sat W w cs) (i:Nat) (hi:cs[i]?=some c) (he:c::cs.eraseIdx i=cs':=by first|(dsimp only [List.eraseIdx_cons_succ,List.eraseIdx_cons_zero]<;>rfl)|rfl):Sat W w cs':=he▸h.pick0 i hi
theorem Sat.dropAt {c:Chunk} {cs':List Chunk} (h:Sat W w cs) (i:Nat) (hi:cs[i]?=some c) (he:cs.eraseIdx i=cs':=by first|(dsimp only [List.eraseIdx_cons_succ,List.eraseIdx_cons_zero]<;>rfl)|rfl):Sat W w cs':=he▸(h.pick0 i hi).tail
theorem Sat.nilc {F:List Chunk} (h:Sat W w F):Sat W w ([]::F):=h.perm (by simp)
@[simp] def pickL : List Nat -> List Chunk -> List Chunk
  |[],cs=>cs
  |i::is,cs=>pickL is (cs.getD i []::cs.eraseIdx i)
@[simp] def dropL : List Nat -> List Chunk -> List Chunk
  |[],cs=>cs
  |i::is,cs=>dropL is (cs.eraseIdx i)
theorem Sat.pickD (h:Sat W w cs) (i:Nat):Sat W w (cs.getD i []::cs.eraseIdx i):=by
  rw [List.getD_eq_getElem?_getD]
  cases hi:cs[i]? with
  |none=>rw [List.eraseIdx_of_length_le (List.getElem?_eq_none_iff.1 hi)];exact h.nilc
  |some c=>exact h.pick0 i hi
theorem Sat.picks0 (is:List Nat) {cs:List Chunk} (h:Sat W w cs):Sat W w (pickL is cs):=by
  induction is generalizing cs with
  |nil=>exact h
  |cons i is ih=>exact ih (h.pickD i)
theorem Sat.drops0 (is:List Nat) {cs:List Chunk} (h:Sat W w cs):Sat W w (dropL is cs):=by
  induction is generalizing cs with
  |nil=>exact h
  |cons i is ih=>exact ih (h.pickD i).tail
theorem Sat.picks (is:List Nat) {cs cs':List Chunk} (h:Sat W w cs) (he:pickL is cs=cs':=by first|(dsimp only [pickL,List.getD_cons_succ,List.getD_cons_zero,List.eraseIdx_cons_succ,List.eraseIdx_cons_zero]<;>rfl)|rfl):Sat W w cs':=he▸h.picks0 is
theorem Sat.drops (is:List Nat) {cs cs':List Chunk} (h:Sat W w cs) (he:dropL is cs=cs':=by first|(dsimp only [dropL,List.eraseIdx_cons_succ,List.eraseIdx_cons_zero]<;>rfl)|rfl):Sat W w cs':=he▸h.drops0 is
theorem Sat.drew (h:Sat W w cs):Sat W {w with drawn:=w.drawn+1} cs:=⟨h.os,h.tape,h.output,h.nd,h.all⟩
theorem Sat.heap {b:Nat} {o:Obj} (h:Sat W w cs) (hm:(b,o)∈cs.flatten):w.heap[b]?=some o:=h.all _ hm
theorem mem_at {cs:List Chunk} {p:Nat×Obj} (i:Nat) (h:cs[i]?=some [p]):p∈cs.flatten:=by
  have:=List.mem_of_getElem? h
  exact List.mem_flatten.2 ⟨_,this,by simp⟩
theorem mem_in {cs:List Chunk} {c:Chunk} {p:Nat×Obj} (i:Nat) (h:cs[i]?=some c) (hp:p∈c):p∈cs.flatten:=
  List.mem_flatten.2 ⟨_,List.mem_of_getElem? h,hp⟩
theorem Sat.at {b:Nat} {o:Obj} (h:Sat W w cs) (i:Nat) (hi:cs[i]?=some [(b,o)]):w.heap[b]?=some o:=h.heap (mem_at i hi)
theorem Sat.lt {b:Nat} {o:Obj} (h:Sat W w cs) (hm:(b,o)∈cs.flatten):b<w.heap.size:=(Array.getElem?_eq_some_iff.1 (h.heap hm)).1
theorem Sat.alloc (h:Sat W w cs) (o:Obj):Sat W (w.alloc o) ([(w.heap.size,o)]::cs):=by
  refine ⟨h.os,h.tape,h.output,?_,?_⟩
  · simp only [List.flatten_cons,List.singleton_append,List.map_cons,List.nodup_cons]
    refine ⟨fun hm=>?_,h.nd⟩
    obtain ⟨p,hp,he⟩:=List.mem_map.1 hm
    have:=h.lt (b:=p.1) (o:=p.2) hp
    omega
  · intro p hp
    simp only [List.flatten_cons,List.singleton_append,List.mem_cons] at hp
    rcases hp with rfl|hp
    · show (w.heap.push o)[w.heap.size]?=some o
      simp
    · have hl:=h.lt (b:=p.1) (o:=p.2) hp
      rw [Below.heap_alloc w o p.1 hl]
      exact h.all p hp
where
  Below.heap_alloc (w:World) (o:Obj) (k:Nat) (h:k<w.heap.size):(w.alloc o).heap[k]?=w.heap[k]?:=by
    show (w.heap.push o)[k]?=_
    rw [Array.getElem?_push,if_neg (by omega)]
theorem Sat.row {b:Nat} {c:Array Value} {E:TypeId} {f:Nat×Nat} {F:List Chunk} (h:Sat W w ([(b, .cells c E f)]::F)) (c':Array Value):Sat W (w.setRow b c') ([(b, .cells c' E f)]::F):=by
  refine ⟨h.os,h.tape,h.output,h.nd,?_⟩
  intro p hp
  simp only [List.flatten_cons,List.singleton_append,List.mem_cons] at hp
  rcases hp with rfl|hp
  · exact setRow_heap w b c c' E f (h.heap (by simp))
  · have hn:=h.nd
    simp only [List.flatten_cons,List.singleton_append,List.map_cons,List.nodup_cons] at hn
    have hne:p.1≠b:=fun e=>hn.1 (List.mem_map.2 ⟨p,hp,e⟩)
    rw [setRow_other w b p.1 c' hne]
    exact h.all p (by simp only [List.flatten_cons,List.singleton_append,List.mem_cons];exact .inr hp)
theorem flatten_set (cs:List Chunk) (i:Nat) (c d:Chunk) (h:cs[i]?=some c):(cs.set i d).flatten.Perm (d++(cs.eraseIdx i).flatten):=by
  have hl:i<cs.length:=(List.getElem?_eq_some_iff.1 h).1
  have:=flatten_pick (cs.set i d) i d (by simp [hl])
  rwa [List.eraseIdx_set_eq] at this
theorem Sat.set {c d:Chunk} {w':World} (h:Sat W w cs) (i:Nat) (hi:cs[i]?=some c) (hn:Sat W w (c::cs.eraseIdx i)->Sat W w' (d::cs.eraseIdx i)):Sat W w' (cs.set i d):=
  (hn (h.pick0 i hi)).perm (by simpa using (flatten_set cs i c d hi).symm)
theorem Sat.rowAt {b:Nat} {c:Array Value} {E:TypeId} {f:Nat×Nat} (h:Sat W w cs) (i:Nat) (hi:cs[i]?=some [(b, .cells c E f)]) (c':Array Value):
    Sat W (w.setRow b c') (cs.set i [(b, .cells c' E f)]):=h.set i hi fun h=>h.row c'
theorem cell_of {b off:Nat} {c:Array Value} {E:TypeId} {f:Nat×Nat} {v:Value} (h:w.heap[b]?=some (.cells c E f)) (hv:c[off]?=some v):w.cell? ⟨b,off,none⟩=some v:=by
  simp [World.cell?,h,hv]
theorem Sat.cell {b off:Nat} {c:Array Value} {E:TypeId} {f:Nat×Nat} {v:Value} (h:Sat W w cs) (i:Nat) (hi:cs[i]?=some [(b, .cells c E f)]) (hv:c[off]?=some v):
    w.cell? ⟨b,off,none⟩=some v:=cell_of (h.at i hi) hv
def PtR (cs:List Chunk) (b off:Nat) (l:List Value):Prop:=∃c E f,(b,Obj.cells c E f)∈cs.flatten/\(c.toList.drop off).take l.length=l
theorem PtR.cell {b off:Nat} {l:List Value} (hp:PtR cs b off l) (h:Sat W w cs) {k:Nat} {v:Value} (hk:l[k]?=some v):w.cell? ⟨b,off+k,none⟩=some v:=by
  obtain ⟨c,E,f,hm,ht⟩:=hp
  refine cell_of (h.heap hm) ?_
  have hkl:k<l.length:=(List.getElem?_eq_some_iff.1 hk).1
  rw [<-ht,List.getElem?_take,if_pos hkl,List.getElem?_drop] at hk
  simpa using hk
theorem PtR.sub {b off:Nat} {l:List Value} (hp:PtR cs b off l) (i k:Nat) (h:i+k<=l.length):PtR cs b (off+i) ((l.drop i).take k):=by
  obtain ⟨c,E,f,hm,ht⟩:=hp
  refine ⟨c,E,f,hm,?_⟩
  have e:((l.drop i).take k).length=k:=by simp;omega
  rw [e,<-ht]
  rw [List.drop_take,List.take_take,List.drop_drop]
  congr 1
  omega
theorem PtR.of_mem {cs':List Chunk} {b off:Nat} {l:List Value} (hp:PtR cs b off l) (h:∀p∈cs.flatten,p∈cs'.flatten):PtR cs' b off l:=by
  obtain ⟨c,E,f,hm,ht⟩:=hp
  exact ⟨c,E,f,h _ hm,ht⟩
def RdS (cs:List Chunk) (sz:Nat) (a:Option Addr) (n cap:Nat) (l:List Value):Prop:=
  l.length=n*sz/\n<=cap/\cap<=maxLen/\(n=0\/∃b off,a=some ⟨b,off,none⟩/\PtR cs b off l)
theorem RdS.of_mem {cs':List Chunk} {sz:Nat} {a:Option Addr} {n cap:Nat} {l:List Value} (hp:RdS cs sz a n cap l) (h:∀p∈cs.flatten,p∈cs'.flatten):RdS cs' sz a n cap l:=by
  obtain ⟨h1,h2,h3,h4⟩:=hp
  refine ⟨h1,h2,h3,?_⟩
  rcases h4 with h4|⟨b,off,h4,h5⟩
  · exact .inl h4
  · exact .inr ⟨b,off,h4,h5.of_mem h⟩
theorem RdS.nil (cs:List Chunk) (sz:Nat) (a:Option Addr) (cap:Nat) (hc:cap<=maxLen):RdS cs sz a 0 cap []:=⟨by simp,by simp,hc, .inl rfl⟩
def OwnS (E:TypeId) (sz:Nat) (a:Option Addr) (n cap:Nat) (l:List Value) (c:Chunk):Prop:=
  l.length=n*sz/\((a=none/\n=0/\cap=0/\c=[])\/
    ∃b off cur,a=some ⟨b,off,none⟩/\c=[(b, .cells cur E (0,0))]/\n<=cap/\cap<=maxLen/\off+cap*sz<=cur.size/\(cur.toList.drop off).take (n*sz)=l)
theorem OwnS.nil (E:TypeId) (sz:Nat):OwnS E sz none 0 0 [] []:=⟨by simp, .inl ⟨rfl,rfl,rfl,rfl⟩⟩
theorem OwnS.cap_le {E:TypeId} {sz:Nat} {a:Option Addr} {n cap:Nat} {l:List Value} {c:Chunk} (h:OwnS E sz a n cap l c):n<=cap/\cap<=maxLen:=by
  rcases h.2 with ⟨_,rfl,rfl,_⟩|⟨b,off,cur,_,_,h1,h2,_⟩
  · exact ⟨Nat.le_refl _,by simp [maxLen]⟩
  · exact ⟨h1,h2⟩
theorem OwnS.rd {E:TypeId} {sz:Nat} {a:Option Addr} {n cap:Nat} {l:List Value} {c:Chunk} (h:OwnS E sz a n cap l c) (hm:∀p∈c,p∈cs.flatten):RdS cs sz a n cap l:=by
  have hc:=h.cap_le
  refine ⟨h.1,hc.1,hc.2,?_⟩
  rcases h.2 with ⟨_,rfl,_⟩|⟨b,off,cur,rfl,rfl,h1,_,h3,h4⟩
  · exact .inl rfl
  · exact .inr ⟨b,off,rfl,cur,E,(0,0),hm _ (by simp),by rw [h.1];exact h4⟩
end
end Go.E
namespace Go.E
section
variable {P:Program} {n:Nat} {ρ:Env} {W w:World} {cs:List Chunk} {ops:Array Oper} {rest:List Oper} {N:Env->World->Prop} {o:Oper}
theorem add_off (b off k:Nat):(⟨b,off,none⟩:Addr).add k=⟨b,off+k,none⟩:=by unfold Addr.add;split<;>simp_all
theorem Y_load {t:TypeId} {x:Operand} {p:Addr} {v:Value} (ho:o.op= .load t x) (hag:(isAgg t).run P w= .ok false w) (hx:ev ρ x= .pointer (some p)) (hc:w.cell? p=some v):
    Yields P ρ o v w:=by
  unfold Yields execOp
  rw [ho]
  simp [Instr.loadAt,hx,Instr.sureAddr,loadVar,hag,hc]
theorem Y_loadA {t:TypeId} {x:Operand} {b off k:Nat} {vs:List Value} (ho:o.op= .load t x) (hag:(isAgg t).run P w= .ok true w) (hsz:(sizeOf t).run P w= .ok k w)
    (hx:ev ρ x= .pointer (some ⟨b,off,none⟩)) (hl:vs.length=k) (hS:Sat W w cs) (hp:PtR cs b off vs):Yields P ρ o (.agg vs.toArray) w:=by
  subst hl
  have hc:∀j v,vs[j]?=some v->w.cell? ((⟨b,off,none⟩:Addr).add j)=some v:=fun j v hv=>by rw [add_off];exact hp.cell hS hv
  have hr:=run_loadCells_list (P:=P) w ⟨b,off,none⟩ vs hc
  unfold Yields execOp
  rw [ho]
  simp [Instr.loadAt,hx,Instr.sureAddr,loadVar,hag,hsz,hr]
theorem PtR.blk {b off:Nat} {c:Array Value} {E:TypeId} {f:Nat×Nat} (i:Nat) (hi:cs[i]?=some [(b, .cells c E f)]) {l:List Value} (hl:(c.toList.drop off).take l.length=l):PtR cs b off l:=
  ⟨c,E,f,mem_at i hi,hl⟩
theorem RdS.blk {b sz k:Nat} {c:Array Value} {E:TypeId} {f:Nat×Nat} (i:Nat) (hi:cs[i]?=some [(b, .cells c E f)]) {l:List Value} (hl:c.toList=l) (hk:l.length=k*sz) (hm:k<=maxLen):
    RdS cs sz (some ⟨b,0,none⟩) k k l:=⟨hk,Nat.le_refl _,hm, .inr ⟨b,0,rfl,c,E,f,mem_at i hi,by simp [hl]⟩⟩
def wr (c:Array Value) (off:Nat) (vs:List Value):Array Value:=(c.toList.take off++vs++c.toList.drop (off+vs.length)).toArray
theorem run_store {t:TypeId} {b off k:Nat} {v:Value} {vs:List Value} {c:Array Value} {E:TypeId} (hsz:∀w,(sizeOf t).run P w= .ok k w) (hv:v.cells.toList=vs) (hk:vs.length=k)
    (h1:∀u∈vs,u.oneCell'=true) (hb:w.heap[b]?=some (.cells c E (0,0))) (hfit:off+vs.length<=c.size):
    (Instr.storeAt t (.pointer (some ⟨b,off,none⟩)) v).run P w= .ok () (w.setRow b (wr c off vs)):=by
  have hst:=run_storeCells_at P b off E vs 0 c w hb (by simpa using hfit) h1
  have hc:v.cells.size=k:=by rw [<-hk,<-hv];simp
  simp only [Nat.add_zero] at hst
  simp [Instr.storeAt,Instr.sureAddr,storeVar,hsz,hc,hv,wr,hst]
theorem stepStore {t:TypeId} {x y:Operand} {b off k:Nat} {v:Value} {vs:List Value} {c:Array Value} {E:TypeId} (ho:o.op= .store t x y) (hg:o.guard=none) (hd:o.dst=none)
    (hsz:∀w,(sizeOf t).run P w= .ok k w) (hx:ev ρ x= .pointer (some ⟨b,off,none⟩)) (hy:ev ρ y=v) (hv:v.cells.toList=vs) (hk:vs.length=k)
    (h1:∀u∈vs,u.oneCell'=true) (hS:Sat W w cs) (i:Nat) (hi:cs[i]?=some [(b, .cells c E (0,0))]) (hfit:off+vs.length<=c.size) (c':Array Value) (hc':wr c off vs=c')
    (h:∀w',Sat W w' (cs.set i [(b, .cells c' E (0,0))])->OpsE P n ops rest N ρ w'):OpsE P n ops (o::rest) N ρ w:=by
  subst hc'
  have hr:=run_store (P:=P) (w:=w) hsz hv hk h1 (hS.at i hi) hfit
  refine stepSkip (w':=w.setRow b (wr c off vs)) hg (by rw [hd];rfl) ?_ ?_
  · unfold execOp
    rw [ho]
    simp [hx,hy,hr]
  · rw [hd]
    exact h _ (hS.rowAt i hi _)
def wrL (l:List Value) (off:Nat) (vs:List Value):List Value:=l.take off++vs++l.drop (off+vs.length)
theorem wr_own {cur:Array Value} {off m i:Nat} {vs:List Value} (hm:off+m<=cur.size) (hi:i+vs.length<=m):
    ((wr cur (off+i) vs).toList.drop off).take m=wrL ((cur.toList.drop off).take m) i vs:=by
  have hlen:cur.toList.length=cur.size:=by simp
  apply List.ext_getElem?
  intro j
  simp only [wr,wrL,List.getElem?_take,List.getElem?_drop,List.getElem?_append,List.length_take,List.length_drop,List.length_append,hlen]
  by_cases hj:j<m
  · simp only [hj,if_true]
    by_cases h1:j<i
    · rw [if_pos (by omega),if_pos (by omega),if_pos (by omega),if_pos (by omega),if_pos (by omega),if_pos (by omega)]
      try rw [if_pos (by omega)]
    · by_cases h2:j<i+vs.length
      · rw [if_pos (by omega),if_neg (by omega),if_pos (by omega),if_neg (by omega)]
        congr 1
        omega
      · rw [if_neg (by omega),if_neg (by omega),if_pos (by omega)]
        congr 1
        omega
  · simp only [hj,if_false]
    rw [if_neg (by omega),if_neg (by omega)]
theorem size_wr {c:Array Value} {off:Nat} {vs:List Value} (h:off+vs.length<=c.size):(wr c off vs).size=c.size:=by
  simp [wr]
  omega
theorem stepStoreS {t:TypeId} {x y:Operand} {b off i k sz m cap:Nat} {v:Value} {vs l:List Value} {c:Chunk} {E:TypeId} (ho:o.op= .store t x y) (hg:o.guard=none) (hd:o.dst=none)
    (hsz:∀w,(sizeOf t).run P w= .ok k w) (hO:OwnS E sz (some ⟨b,off,none⟩) m cap l c) (hx:ev ρ x= .pointer (some ⟨b,off+i,none⟩)) (hy:ev ρ y=v) (hv:v.cells.toList=vs) (hk:vs.length=k)
    (h1:∀u∈vs,u.oneCell'=true) (hS:Sat W w cs) (j:Nat) (hj:cs[j]?=some c) (hfit:i+vs.length<=m*sz)
    (h:∀w' c',OwnS E sz (some ⟨b,off,none⟩) m cap (wrL l i vs) c'->Sat W w' (cs.set j c')->OpsE P n ops rest N ρ w'):OpsE P n ops (o::rest) N ρ w:=by
  rcases hO with ⟨hl,⟨h0,_⟩|⟨b',off',cur,he,rfl,hn,hcm,hf,ht⟩⟩
  · cases h0
  · simp only [Option.some.injEq,Addr.mk.injEq,and_true] at he
    obtain ⟨rfl,rfl⟩:=he
    have hms:m*sz<=cap*sz:=Nat.mul_le_mul_right _ hn
    refine stepStore ho hg hd hsz hx hy hv hk h1 hS j hj (by omega) _ rfl fun w' hS'=>h w' _ ⟨?_, .inr ⟨b,off,_,rfl,rfl,hn,hcm,?_,?_⟩⟩ hS'
    · simp [wrL];omega
    · rw [size_wr (by omega)];exact hf
    · rw [wr_own (by omega) hfit,ht]
theorem run_newRow (E:TypeId) (c:Array Value):(newRow E c).run P w= .ok ⟨w.heap.size,0,none⟩ (w.alloc (.cells c E)):=by
  rfl
theorem stepAlloc {t:TypeId} {z:Value} (ho:o.op= .alloc t) (hg:o.guard=none) (hd:dstOK n o.dst=true) (hz:∀w,(zeroValue t).run P w= .ok z w) (hS:Sat W w cs)
    (h:∀b w',Sat W w' ([(b, .cells z.cells t (0,0))]::cs)->OpsE P n ops rest N (put ρ o.dst (.pointer (some ⟨b,0,none⟩))) w'):OpsE P n ops (o::rest) N ρ w:=by
  refine stepRun (v:= .pointer (some ⟨w.heap.size,0,none⟩)) (w':=w.alloc (.cells z.cells t)) hg hd ?_ (h _ _ (hS.alloc _))
  unfold execOp
  rw [ho]
  simp [Instr.alloc,hz,newVar,run_newRow]
theorem stepBox {t:TypeId} {x:Operand} {v:Value} (c:Array Value) (ho:o.op= .box t x) (hg:o.guard=none) (hd:dstOK n o.dst=true) (hx:ev ρ x=v) (hc:v.cells=c) (hS:Sat W w cs)
    (h:∀b w',Sat W w' ([(b, .cells c t (0,0))]::cs)->OpsE P n ops rest N (put ρ o.dst (.pointer (some ⟨b,0,none⟩))) w'):OpsE P n ops (o::rest) N ρ w:=by
  subst hc
  refine stepRun (v:= .pointer (some ⟨w.heap.size,0,none⟩)) (w':=w.alloc (.cells v.cells t)) hg hd ?_ (h _ _ (hS.alloc _))
  unfold execOp
  rw [ho]
  simp [Instr.box,hx,newVar,run_newRow]
theorem stepBuildSlice {t E:TypeId} {len sz:Nat} {parts:Array (Nat×Operand)} {z:Value} (c:Array Value) (ho:o.op= .buildSlice t len parts) (hg:o.guard=none) (hd:dstOK n o.dst=true)
    (hu:∀w,(underlying t).run P w= .ok (.slice E) w) (hsz:∀w,(sizeOf E).run P w= .ok sz w) (hz:∀w,(zeroValue E).run P w= .ok z w) (hlim:Nat.ble (len*sz) (2^24)=true)
    (hf:Instr.fill (fun i=>some (i*sz,sz)) ((Array.range (len*sz)).map ((if len*sz=0 then #[] else z.cells)[·%(if len*sz=0 then #[] else z.cells).size]!)) (parts.map fun (i,x)=>(i,ev ρ x)).toList=some c) (hS:Sat W w cs)
    (h:∀b w',Sat W w' ([(b, .cells c E (0,0))]::cs)->OpsE P n ops rest N (put ρ o.dst (.slice (some ⟨b,0,none⟩) len len)) w'):OpsE P n ops (o::rest) N ρ w:=by
  refine stepRun (v:= .slice (some ⟨w.heap.size,0,none⟩) len len) (w':=w.alloc (.cells c E)) hg hd ?_ (h _ _ (hS.alloc _))
  have hlim':¬(len*sz>2^24):=by have:=Nat.le_of_ble_eq_true hlim;omega
  unfold execOp
  rw [ho]
  by_cases h0:len*sz=0
  · simp only [h0,if_true] at hf
    simp [Instr.buildSlice,hu,hsz,h0]
    simp at hf
    simp [hf,run_newRow]
  · simp only [h0,if_false] at hf
    simp [Instr.buildSlice,hu,hsz,hlim',h0,hz]
    simp at hf
    simp [hf,run_newRow]
theorem stepF {f:FuncId} {xs:Array Operand} {ats:Array TypeId} {args:Array Value} (ho:o.op= .call {callee:= .value (.func f),args:=xs,argTypes:=ats}) (hg:o.guard=none) (hd:dstOK n o.dst=true)
    (hc:∀args w,(callFunc f args).run P w= .ok (.enter f args) w) (hargs:xs.map (ev ρ)=args) (h:Calls P f args w fun e w'=>∃v,e= .returned v/\OpsE P n ops rest N (put ρ o.dst v) w'):
    OpsE P n ops (o::rest) N ρ w:=by
  refine stepCall (f:=f) (args:=args) hg hd ?_ h
  unfold execOp
  rw [ho]
  simp [resolve,ev,Deferred.ofValue,invoke,hargs,hc]
end
end Go.E
namespace Go.E
section
variable {P:Program} {n:Nat} {ρ:Env} {W w:World} {cs:List Chunk} {ops:Array Oper} {rest:List Oper} {N:Env->World->Prop} {o:Oper}
theorem wrap_i64 {x:Int} (h:-9223372036854775808<=x/\x<=9223372036854775807):IntKind.i64.wrap x=x:=IntWalk.i64_in x h
theorem Y_arith {op:BinOp} {t u:TypeId} {x y:Operand} {a b:Int} {v:Value} (ho:o.op= .binOp op t x y u) (hx:ev ρ x= .int .i64 a) (hy:ev ρ y= .int .i64 b)
    (hr:(binOp op t (.int .i64 a) (.int .i64 b)).run P w= .ok v w):Yields P ρ o v w:=by
  unfold Yields execOp
  rw [ho]
  simp [hx,hy,eqGuard,hr]
theorem Y_add {t u:TypeId} {x y:Operand} {a b:Int} (ho:o.op= .binOp .add t x y u) (hx:ev ρ x= .int .i64 a) (hy:ev ρ y= .int .i64 b)
    (hr:-9223372036854775808<=a+b/\a+b<=9223372036854775807):Yields P ρ o (.int .i64 (a+b)) w:=
  Y_arith ho hx hy (by simp [binOp,Op.intArith,wrap_i64 hr])
theorem Y_sub {t u:TypeId} {x y:Operand} {a b:Int} (ho:o.op= .binOp .sub t x y u) (hx:ev ρ x= .int .i64 a) (hy:ev ρ y= .int .i64 b)
    (hr:-9223372036854775808<=a-b/\a-b<=9223372036854775807):Yields P ρ o (.int .i64 (a-b)) w:=
  Y_arith ho hx hy (by simp [binOp,Op.intArith,wrap_i64 hr])
theorem Y_mul {t u:TypeId} {x y:Operand} {a b:Int} (ho:o.op= .binOp .mul t x y u) (hx:ev ρ x= .int .i64 a) (hy:ev ρ y= .int .i64 b)
    (hr:-9223372036854775808<=a*b/\a*b<=9223372036854775807):Yields P ρ o (.int .i64 (a*b)) w:=
  Y_arith ho hx hy (by simp [binOp,Op.intArith,wrap_i64 hr])
theorem Y_rem {t u:TypeId} {x y:Operand} {a b:Int} (ho:o.op= .binOp .rem t x y u) (hx:ev ρ x= .int .i64 a) (hy:ev ρ y= .int .i64 b) (hb:b≠0):Yields P ρ o (.int .i64 (a.tmod b)) w:=
  Y_arith ho hx hy (by simp [binOp,Op.intDiv,hb])
theorem Y_quo {t u:TypeId} {x y:Operand} {a b:Int} (ho:o.op= .binOp .quo t x y u) (hx:ev ρ x= .int .i64 a) (hy:ev ρ y= .int .i64 b) (hb:0<b)
    (hr:-9223372036854775808<=a/\a<=9223372036854775807):Yields P ρ o (.int .i64 (a.tdiv b)) w:=by
  have hq:-9223372036854775808<=a.tdiv b/\a.tdiv b<=9223372036854775807:=by
    rcases Int.le_total 0 a with ha|ha
    · have h1:=Int.tdiv_nonneg ha (Int.le_of_lt hb)
      have h2:=Int.tdiv_le_self (b:=b) (a:=a) ha
      omega
    · obtain ⟨c,rfl⟩:∃c,a=-c:=⟨-a,by omega⟩
      have hc:0<=c:=by omega
      have h1:=Int.tdiv_nonneg hc (Int.le_of_lt hb)
      have h2:=Int.tdiv_le_self (b:=b) (a:=c) hc
      rw [Int.neg_tdiv]
      omega
  exact Y_arith ho hx hy (by simp [binOp,Op.intDiv,Int.ne_of_gt hb,wrap_i64 hq])
theorem run_sliceBounds {len cap lo hi:Nat} {low high:Option Value} (hlo:(low=none/\lo=0)\/∃k i,low=some (.int k i)/\i.toNat=lo/\0<=i) (hhi:(high=none/\hi=len)\/∃k i,high=some (.int k i)/\i.toNat=hi/\0<=i)
    (h1:lo<=hi) (h2:hi<=cap):(Instr.sliceBounds true len cap low high none).run P w= .ok (lo,hi,cap) w:=by
  have e1:∀(i:Int) (y:Nat),0<=i->i.toNat<=y->(0<=i/\i<=(y:Int)):=fun i y h h'=>⟨h,by omega⟩
  rcases hlo with ⟨rfl,rfl⟩|⟨k,i,rfl,rfl,hi0⟩<;>rcases hhi with ⟨rfl,rfl⟩|⟨k',i',rfl,rfl,hi0'⟩
  · simp [Instr.sliceBounds]
  · simp [Instr.sliceBounds,Instr.sliceBound,asIntOf,e1 _ _ hi0' h2]
  · simp [Instr.sliceBounds,Instr.sliceBound,asIntOf,e1 _ _ hi0 h1]
  · have e2:=e1 i i'.toNat hi0 h1
    have e3:=e1 i' cap hi0' h2
    simp only [Instr.sliceBounds,Instr.sliceBound,asIntOf]
    simp only [Sem.run_bind,Sem.run_pure,Result.andThen,if_pos e3,if_pos e2]
def partAddr (a:Option Addr) (cap lo sz:Nat):Option Addr:=if cap=lo then a else a.map (·.add (lo*sz))
theorem Y_slice {t E:TypeId} {x:Operand} {lo hi mx:Option Operand} {a:Option Addr} {len cap l h sz:Nat} (ho:o.op= .slice t x lo hi mx) (hmx:mx=none) (hu:∀w,(underlying t).run P w= .ok (.slice E) w)
    (hsz:∀w,(sizeOf E).run P w= .ok sz w) (hx:ev ρ x= .slice a len cap)
    (hlo:(lo.map (ev ρ)=none/\l=0)\/∃k i,lo.map (ev ρ)=some (.int k i)/\i.toNat=l/\0<=i) (hhi:(hi.map (ev ρ)=none/\h=len)\/∃k i,hi.map (ev ρ)=some (.int k i)/\i.toNat=h/\0<=i)
    (h1:l<=h) (h2:h<=cap):Yields P ρ o (.slice (partAddr a cap l sz) (h-l) (cap-l)) w:=by
  unfold Yields execOp
  rw [ho,hmx]
  simp [Instr.sliceAt,hu,Instr.slice,hx,run_sliceBounds hlo hhi h1 h2,hsz,partAddr]
theorem RdS.part {a:Option Addr} {len cap lo hi sz:Nat} {l:List Value} (h:RdS cs sz a len cap l) (h1:lo<=hi) (h2:hi<=len):
    RdS cs sz (partAddr a cap lo sz) (hi-lo) (cap-lo) ((l.drop (lo*sz)).take ((hi-lo)*sz)):=by
  obtain ⟨hl,hc,hm,hr⟩:=h
  have hms:hi*sz<=len*sz:=Nat.mul_le_mul_right _ h2
  have hms2:lo*sz<=hi*sz:=Nat.mul_le_mul_right _ h1
  have hsub:(hi-lo)*sz=hi*sz-lo*sz:=Nat.sub_mul ..
  refine ⟨by simp;omega,by omega,by omega,?_⟩
  by_cases he:hi-lo=0
  · exact .inl he
  · rcases hr with hr|⟨b,off,rfl,hp⟩
    · omega
    · have hne:¬cap=lo:=by omega
      refine .inr ⟨b,off+lo*sz,by simp [partAddr,hne,add_off],?_⟩
      exact hp.sub _ _ (by omega)
theorem OwnS.part {E:TypeId} {a:Option Addr} {len cap lo hi sz:Nat} {l:List Value} {c:Chunk} (h:OwnS E sz a len cap l c) (h1:lo<=hi) (h2:hi<=len):
    OwnS E sz (partAddr a cap lo sz) (hi-lo) (cap-lo) ((l.drop (lo*sz)).take ((hi-lo)*sz)) c:=by
  obtain ⟨hl,hr⟩:=h
  have hms:hi*sz<=len*sz:=Nat.mul_le_mul_right _ h2
  have hms2:lo*sz<=hi*sz:=Nat.mul_le_mul_right _ h1
  have hsub:(hi-lo)*sz=hi*sz-lo*sz:=Nat.sub_mul ..
  refine ⟨by simp;omega,?_⟩
  rcases hr with ⟨rfl,rfl,rfl,rfl⟩|⟨b,off,cur,rfl,rfl,hn,hcm,hf,ht⟩
  · have:lo=0:=by omega
    have:hi=0:=by omega
    subst_vars
    exact .inl ⟨by simp [partAddr],by simp,by simp,rfl⟩
  · right
    by_cases hne:cap=lo
    · have h0:hi=lo:=by omega
      subst h0
      exact ⟨b,off,cur,by simp [partAddr,hne],rfl,by omega,by omega,by rw [hne];simp;omega,by simp⟩
    · refine ⟨b,off+lo*sz,cur,by simp [partAddr,hne,add_off],rfl,by omega,by omega,?_,?_⟩
      · have:(cap-lo)*sz=cap*sz-lo*sz:=Nat.sub_mul ..
        have:lo*sz<=cap*sz:=Nat.mul_le_mul_right _ (by omega)
        omega
      · rw [<-ht,List.drop_take,List.take_take,List.drop_drop]
        congr 1
        omega
theorem Y_indexAddr {t E:TypeId} {x y:Operand} {p:Addr} {k:IntKind} {i:Int} {len cap sz:Nat} (ho:o.op= .indexAddr t x y) (hu:∀w,(underlying t).run P w= .ok (.slice E) w) (hsz:∀w,(sizeOf E).run P w= .ok sz w)
    (hx:ev ρ x= .slice (some p) len cap) (hy:ev ρ y= .int k i) (h0:0<=i) (h1:i<len):Yields P ρ o (.pointer (some (p.add (i.toNat*sz)))) w:=by
  unfold Yields execOp
  rw [ho]
  simp [Instr.indexAt,hx,hy,asIntOf,hu,hsz,h0,h1]
theorem stepIdx {t E:TypeId} {x y:Operand} {a:Option Addr} {k:IntKind} {i:Int} {len cap sz:Nat} {l:List Value} (ho:o.op= .indexAddr t x y) (hg:o.guard=none) (hd:dstOK n o.dst=true)
    (hu:∀w,(underlying t).run P w= .ok (.slice E) w) (hsz:∀w,(sizeOf E).run P w= .ok sz w)
    (hx:ev ρ x= .slice a len cap) (hy:ev ρ y= .int k i) (hR:RdS cs sz a len cap l) (h0:0<=i) (h1:i<len)
    (h:∀b off,PtR cs b off ((l.drop (i.toNat*sz)).take sz)->OpsE P n ops rest N (put ρ o.dst (.pointer (some ⟨b,off,none⟩))) w):OpsE P n ops (o::rest) N ρ w:=by
  obtain ⟨hl,hc,hm,hr⟩:=hR
  rcases hr with hr|⟨b,off,rfl,hp⟩
  · omega
  · have hlt:i.toNat+1<=len:=by omega
    have hms:(i.toNat+1)*sz<=len*sz:=Nat.mul_le_mul_right _ hlt
    rw [Nat.add_mul,Nat.one_mul] at hms
    refine stepY _ hg hd (Y_indexAddr ho hu hsz hx hy h0 h1) ?_
    rw [add_off]
    exact h b _ (hp.sub _ _ (by omega))
theorem stepIdxOwn {t E:TypeId} {x y:Operand} {a:Option Addr} {k:IntKind} {i:Int} {len cap sz:Nat} {l:List Value} {c:Chunk} (ho:o.op= .indexAddr t x y) (hg:o.guard=none) (hd:dstOK n o.dst=true)
    (hu:∀w,(underlying t).run P w= .ok (.slice E) w) (hsz:∀w,(sizeOf E).run P w= .ok sz w)
    (hx:ev ρ x= .slice a len cap) (hy:ev ρ y= .int k i) (hO:OwnS E sz a len cap l c) (h0:0<=i) (h1:i<len)
    (h:∀b off,a=some ⟨b,off,none⟩->OpsE P n ops rest N (put ρ o.dst (.pointer (some ⟨b,off+i.toNat*sz,none⟩))) w):OpsE P n ops (o::rest) N ρ w:=by
  rcases hO with ⟨hl,⟨_,rfl,_⟩|⟨b,off,cur,rfl,rfl,hn,hcm,hf,ht⟩⟩
  · omega
  · refine stepY _ hg hd (Y_indexAddr ho hu hsz hx hy h0 h1) ?_
    rw [add_off]
    exact h b off rfl
theorem run_append_room' (t ty e:TypeId) (i:TypeInfo) (ht:P.underlying t=some (.slice e)) (hi:P.info? e=some i)
    (g off sLen sCap:Nat) (cur:Array Value) (hg:w.heap[g]?=some (.cells cur e (0,0)))
    (a:Option Addr) (m c:Nat) (news:List Value) (hf:(Builtin.firstCells i.size m (.slice a m c)).run P w= .ok news.toArray w) (h1:∀u∈news,u.oneCell'=true)
    (hroom:sLen+m<=sCap) (hfit:off+sLen*i.size+news.length<=cur.size):
    (Builtin.append_ #[t,t] ty #[.slice (some ⟨g,off,none⟩) sLen sCap, .slice a m c]).run P w=
      .ok (.slice (some ⟨g,off,none⟩) (sLen+m) sCap) (w.setRow g (wr cur (off+sLen*i.size) news)):=by
  have hst:=run_storeCells_at P g (off+sLen*i.size) e news 0 cur w hg (by simpa using hfit) h1
  simp only [Nat.add_zero] at hst
  simp [Builtin.append_,run_underlying ht,sizeOf,typeInfo,hi,Builtin.lenOf,hroom,hf,add_off,hst,wr]
theorem run_firstCells_rd {sz m c:Nat} {a:Option Addr} {l:List Value} (hS:Sat W w cs) (hR:RdS cs sz a m c l):(Builtin.firstCells sz m (.slice a m c)).run P w= .ok l.toArray w:=by
  obtain ⟨hl,hc,hm,hr⟩:=hR
  rcases hr with rfl|⟨b,off,rfl,hp⟩
  · have:l=[]:=List.eq_nil_of_length_eq_zero (by simpa using hl)
    subst this
    cases a with
    |none=>exact run_firstCells_none w _ _ _ _
    |some p=>exact run_firstCells_some (P:=P) w sz 0 p 0 c [] (by simp) (by simp)
  · exact run_firstCells_some (P:=P) w sz m ⟨b,off,none⟩ m c l hl (fun j v hv=>by rw [add_off];exact hp.cell hS hv)
theorem run_append_grow' (t ty e:TypeId) (i:TypeInfo) (z:Value) (ht:P.underlying t=some (.slice e)) (hi:P.info? e=some i) (hz:i.zero=some z)
    (b:Option Addr) (sLen sCap:Nat) (olds:List Value) (hfo:∀w':World,w'.heap=w.heap->(Builtin.firstCells i.size sLen (.slice b sLen sCap)).run P w'= .ok olds.toArray w')
    (a:Option Addr) (m c:Nat) (news:List Value) (hf:∀w':World,w'.heap=w.heap->(Builtin.firstCells i.size m (.slice a m c)).run P w'= .ok news.toArray w')
    (hg:sCap<sLen+m) (h63:((sLen+m:Nat):Int)<=9223372036854775807) (hfit:Builtin.nextslicecap (sLen+m) sCap*i.bytes<=281474976710656):
    (Builtin.append_ #[t,t] ty #[.slice b sLen sCap, .slice a m c]).run P w=
      .ok (.slice (some ⟨w.heap.size,0,none⟩) (sLen+m) (grownCap w (sLen+m) sCap e))
        (w.drew.alloc (.cells ((olds++news).toArray++Builtin.zeroCells z.cells (grownCap w (sLen+m) sCap e-(sLen+m))) e)):=by
  have hn:¬(sLen+m<=sCap):=by omega
  have h63':¬(9223372036854775807<((sLen:Int)+(m:Int))):=by omega
  have h48':¬(281474976710656<Builtin.nextslicecap (sLen+m) sCap*i.bytes):=by omega
  have hf1:=hf w.drew rfl
  have hf2:=hfo w.drew rfl
  simp [Builtin.append_,run_underlying ht,sizeOf,typeInfo,zeroValue,hi,hz,Builtin.lenOf,hn,h63',h48',Question.forced,hf1,hf2,newRow,grownCap]
  have e2:∀Z:Array Value,olds.toArray++(news.toArray++Z)=(olds++news).toArray++Z:=fun Z=>by
    rw [<-Array.append_assoc]
    simp
  rw [e2]
theorem cells_ext {w':World} {sz m c:Nat} {a:Option Addr} {l:List Value} (hS:Sat W w cs) (hR:RdS cs sz a m c l) (e:w'.heap=w.heap):(Builtin.firstCells sz m (.slice a m c)).run P w'= .ok l.toArray w':=
  run_firstCells_rd (W:=w') (cs:=cs) ⟨rfl,rfl,rfl,hS.nd,fun p hp=>by rw [e];exact hS.all p hp⟩ hR
theorem run_append {t ty E:TypeId} {i:TypeInfo} {z:Value} {sz nb:Nat} (ht:P.underlying t=some (.slice E)) (hi:P.info? E=some i) (hz:i.zero=some z) (hsize:i.size=sz) (hby:i.bytes=nb) (hzs:z.cells.size=sz)
    {a a2:Option Addr} {m cap k c2:Nat} {l news:List Value} {c:Chunk} (hS:Sat W w cs) (hO:OwnS E sz a m cap l c) (j:Nat) (hj:cs[j]?=some c) (hR:RdS cs sz a2 k c2 news) (h1:∀u∈news,u.oneCell'=true)
    (hb:(m+k)*nb<=140737488355328) (h63:m+k<=maxLen):
    ∃a' cap' c' w',(Builtin.append_ #[t,t] ty #[.slice a m cap, .slice a2 k c2]).run P w= .ok (.slice a' (m+k) cap') w'/\OwnS E sz a' (m+k) cap' (l++news) c'/\Sat W w' (cs.set j c'):=by
  subst hsize;subst hby
  have hOr:RdS cs i.size a m cap l:=hO.rd (fun p hp=>mem_in j hj hp)
  have hlen:(l++news).length=(m+k)*i.size:=by rw [List.length_append,hO.1,hR.1,Nat.add_mul]
  have hOn:m<=cap:=hO.cap_le.1
  have h63b:m+k<=9223372036854775807:=by simp only [maxLen] at h63;omega
  by_cases hroom:m+k<=cap
  · rcases hO.2 with ⟨rfl,rfl,rfl,rfl⟩|⟨b,off,cur,rfl,rfl,hn,hcm,hf,htk⟩
    · have hk:k=0:=by omega
      subst hk
      have hn:news=[]:=List.eq_nil_of_length_eq_zero (by simpa using hR.1)
      have hl0:l=[]:=List.eq_nil_of_length_eq_zero (by simpa using hO.1)
      subst hn;subst hl0
      have hfc:=run_firstCells_rd (P:=P) hS hR
      refine ⟨none,0,[],w,?_,OwnS.nil E i.size,hS.set j hj (fun h=>h)⟩
      simp [Builtin.append_,run_underlying ht,sizeOf,typeInfo,hi,Builtin.lenOf,hfc]
    · have hms:(m+k)*i.size<=cap*i.size:=Nat.mul_le_mul_right _ hroom
      have hadd:(m+k)*i.size=m*i.size+k*i.size:=Nat.add_mul ..
      have hnl:=hR.1
      have hr:=run_append_room' (P:=P) (w:=w) t ty E i ht hi b off m cap cur (hS.at j hj) a2 k c2 news (run_firstCells_rd (P:=P) hS hR) h1 hroom (by omega)
      refine ⟨_,cap,_,_,hr,⟨hlen, .inr ⟨b,off,_,rfl,rfl,hroom,hcm,?_,?_⟩⟩,hS.rowAt j hj _⟩
      · rw [size_wr (by omega)];exact hf
      · have:=wr_own (cur:=cur) (off:=off) (m:=(m+k)*i.size) (i:=m*i.size) (vs:=news) (by omega) (by omega)
        rw [this]
        have e1:((cur.toList.drop off).take ((m+k)*i.size)).take (m*i.size)=l:=by
          rw [List.take_take,Nat.min_eq_left (by omega),htk]
        have e2:((cur.toList.drop off).take ((m+k)*i.size)).drop (m*i.size+news.length)=[]:=by
          apply List.drop_eq_nil_of_le
          simp
          omega
        simp [wrL,e1,e2]
  · have hcap:cap<m+k:=by omega
    have hr:=run_append_grow' (P:=P) (w:=w) t ty E i z ht hi hz a m cap l (fun w' e=>cells_ext hS hOr e) a2 k c2 news (fun w' e=>cells_ext hS hR e) hcap (by omega) (growslice_fits hcap hb)
    have hge:=grownCap_ge w (m+k) cap E
    refine ⟨_,_,[(w.heap.size, .cells ((l++news).toArray++Builtin.zeroCells z.cells (grownCap w (m+k) cap E-(m+k))) E)],_,hr,⟨hlen, .inr ⟨w.heap.size,0,_,rfl,rfl,hge,grownCap_le_maxLen w _ _ _ h63,?_,?_⟩⟩,?_⟩
    · simp only [Array.size_append,List.size_toArray,size_zeroCells,hzs,hlen,<-Nat.add_mul,Nat.zero_add]
      exact Nat.le_of_eq (by congr 1;omega)
    · simp only [Array.toList_append,List.drop_zero]
      rw [<-hlen]
      exact List.take_left
    · have hS2:Sat W w.drew cs:=hS.drew
      have h3:=(hS2.alloc (.cells ((l++news).toArray++Builtin.zeroCells z.cells (grownCap w (m+k) cap E-(m+k))) E))
      have h4:=h3.pick0 (j+1) (by simpa using hj)
      have h5:=h4.tail
      simp only [List.eraseIdx_cons_succ] at h5
      refine h5.perm ?_
      have h6:=(flatten_set cs j c [(w.heap.size, .cells ((l++news).toArray++Builtin.zeroCells z.cells (grownCap w (m+k) cap E-(m+k))) E)] hj).symm
      exact h6
theorem stepAppend {t E:TypeId} {xs:Array Operand} {ats:Array TypeId} {x y:Operand} {i:TypeInfo} {z:Value} {sz nb:Nat} (ho:o.op= .call {callee:= .builtin .append,args:=xs,argTypes:=ats}) (hxs:xs=#[x,y]) (hats:ats=#[t,t]) (hg:o.guard=none) (hd:dstOK n o.dst=true)
    (ht:P.underlying t=some (.slice E)) (hi:P.info? E=some i) (hz:i.zero=some z) (hsize:i.size=sz) (hby:i.bytes=nb) (hzs:z.cells.size=sz)
    {a a2:Option Addr} {m cap k c2:Nat} {l news:List Value} {c:Chunk} (hx:ev ρ x= .slice a m cap) (hy:ev ρ y= .slice a2 k c2) (hS:Sat W w cs) (hO:OwnS E sz a m cap l c) (j:Nat) (hj:cs[j]?=some c) (hR:RdS cs sz a2 k c2 news) (h1:∀u∈news,u.oneCell'=true)
    (hb:(m+k)*nb<=140737488355328) (h63:m+k<=maxLen)
    (h:∀a' cap' c' w',OwnS E sz a' (m+k) cap' (l++news) c'->Sat W w' (cs.set j c')->OpsE P n ops rest N (put ρ o.dst (.slice a' (m+k) cap')) w'):OpsE P n ops (o::rest) N ρ w:=by
  obtain ⟨a',cap',c',w',hr,hO',hS'⟩:=run_append (P:=P) (ty:=o.type) ht hi hz hsize hby hzs hS hO j hj hR h1 hb h63
  refine stepRun (v:= .slice a' (m+k) cap') (w':=w') hg hd ?_ (h a' cap' c' w' hO' hS')
  subst hxs;subst hats
  unfold execOp
  rw [ho]
  simp only [resolve,invoke,builtin,List.map_toArray,List.map_cons,List.map_nil,hx,hy]
  simp [hr]
theorem stepMake {t E:TypeId} {x y:Operand} {i:TypeInfo} {z:Value} {sz nb:Nat} {kl kc:IntKind} {m:Nat} (ho:o.op= .makeSlice t x y) (hg:o.guard=none) (hd:dstOK n o.dst=true)
    (ht:P.underlying t=some (.slice E)) (hi:P.info? E=some i) (hz:i.zero=some z) (hsize:i.size=sz) (hby:i.bytes=nb)
    (hx:ev ρ x= .int kl m) (hy:ev ρ y= .int kc m) (hS:Sat W w cs) (hb:nb*m<=281474976710656) (h63:m<=maxLen)
    (h:∀b c w',OwnS E sz (some ⟨b,0,none⟩) m m (madeCells z.cells (m*sz)).toList c->Sat W w' (c::cs)->OpsE P n ops rest N (put ρ o.dst (.slice (some ⟨b,0,none⟩) m m)) w'):OpsE P n ops (o::rest) N ρ w:=by
  subst hby
  obtain ⟨w',hr,ho',hgr⟩:=run_make_full (P:=P) w w.heap.size t E i z sz ht hi hz hsize kl kc m hb h63 (Nat.le_refl _)
  obtain ⟨hl,⟨h0,_⟩|⟨g,cap,cur,he,hge,hh,hn,hcm,hcs,htk⟩⟩:=ho'
  · cases h0
  · simp only [Value.slice.injEq,Option.some.injEq,Addr.mk.injEq,and_true] at he
    obtain ⟨he,_,hcap⟩:=he
    subst he;subst hcap
    refine stepRun (v:= .slice (some ⟨w.heap.size,0,none⟩) m m) (w':=w') hg hd ?_ (h w.heap.size [(w.heap.size, .cells cur E (0,0))] w' ⟨hl, .inr ⟨w.heap.size,0,cur,rfl,rfl,hn,hcm,by omega,by simpa using htk⟩⟩ ?_)
    · unfold execOp
      rw [ho]
      simp [hx,hy,hr]
    · refine ⟨hgr.os.trans hS.os,hgr.tape.trans hS.tape,hgr.output.trans hS.output,?_,?_⟩
      · simp only [List.flatten_cons,List.singleton_append,List.map_cons,List.nodup_cons]
        refine ⟨fun hm=>?_,hS.nd⟩
        obtain ⟨p,hp,he⟩:=List.mem_map.1 hm
        have:=hS.lt (b:=p.1) (o:=p.2) hp
        omega
      · intro p hp
        simp only [List.flatten_cons,List.singleton_append,List.mem_cons] at hp
        rcases hp with rfl|hp
        · exact hh
        · have hl:=hS.lt (b:=p.1) (o:=p.2) hp
          rw [hgr.block p.1 hl (by simp)]
          exact hS.all p hp
end
end Go.E

namespace Go.E
section
variable {P:Program} {ops:Array Oper} {C:World->Prop} {E:List Nat}
theorem both_false {listed:Array Bool} {i:Nat} (h:listed.getD i true=false):listed.getD i false=false:=by
  rcases Nat.lt_or_ge i listed.size with h'|h'
  · simp [h'] at h⊢;exact h
  · simp [Array.getElem?_eq_none h'] at h
theorem none_listed (m j:Nat):(Array.replicate m false).getD j false=false:=by
  rcases Nat.lt_or_ge j m with h|h<;>simp [h]
def only (N:Act->World->Prop):Exit->Act->World->Prop:=fun e a w=>e= .normal/\N a w
theorem only_out (N:Act->World->Prop):¬LetsOut (only N):=fun ⟨_,_,h,_⟩=>by cases h
def rel (ops:Array Oper) (E:List Nat) (i:Nat) (listed:Array Bool):Bool:=
  E.any fun s=>listed.getD s false&&(match ops[s]? with|some o=>o.after.any fun e=>Region.binds .any e&&e.on==i|none=>false)
abbrev Facts:=List (Nat×Addr×Value)
def held (ops:Array Oper) (E:List Nat) (listed:Array Bool) (w:World):Facts->Prop
  |[]=>True
  |(i,p,v)::L=>(rel ops E i listed=true\/w.cell? p=some v)/\held ops E listed w L
def factOf (L:Facts) (i:Nat) (w:World):Prop:=∀(k:Nat) (p:Addr) (v:Value),L[k]?=some (i,p,v)->w.cell? p=some v
theorem factOf_held {listed:Array Bool} {w:World} {i:Nat} (hr:rel ops E i listed=false):∀{L:Facts},held ops E listed w L->factOf L i w
  |[],_=>fun k p v h=>by simp at h
  |(i',p',v')::L,h=>fun k p v hk=>by
    cases k with
    |zero=>
      simp only [List.getElem?_cons_zero,Option.some.injEq,Prod.mk.injEq] at hk
      obtain ⟨rfl,rfl,rfl⟩:=hk
      rcases h.1 with h|h
      · rw [hr] at h;cases h
      · exact h
    |succ k=>exact factOf_held hr h.2 k p v (by simpa using hk)
def wpAnyC (P:Program) (ops:Array Oper) (E:List Nat) (L:Facts) (N:Act->World->Prop):Nat->Array Bool->Act->World->Prop
  |0,listed,a,w=>held ops E listed w L/\Region.ready .any ops listed=[]/\N a w
  |f+1,listed,a,w=>held ops E listed w L/\(Region.ready .any ops listed=[]->N a w)/\∀i∈Region.ready .any ops listed,wpOp P ops (only N) i (wpAnyC P ops E L N f (listed.setIfInBounds i true)) a w
theorem wpAnyC.cls {L:Facts} {N:Act->World->Prop} {f:Nat} {listed:Array Bool} {a:Act} {w:World} (h:wpAnyC P ops E L N f listed a w):held ops E listed w L:=by
  cases f<;>exact h.1
theorem wpAny_of_C {L:Facts} {N:Act->World->Prop}:∀(f:Nat) (listed:Array Bool) (a:Act) (w:World),wpAnyC P ops E L N f listed a w->wpAny P .any ops (only N) f listed a w
  |0,_,_,_,h=>⟨h.2.1,rfl,h.2.2⟩
  |f+1,_,_,_,h=>⟨fun h0=>⟨rfl,h.2.1 h0⟩,fun i hi=>wpOp_mono (fun a' w'=>wpAny_of_C f _ a' w') (h.2.2 i hi)⟩
def Steady (P:Program) (ops:Array Oper) (C:World->Prop) (o:Oper) (v:Value) (a:Act):Prop:=
  (Region.wanted o (yielded ops a.tmps)=true/\∀w,C w->(execOp a.eval o).run P w= .ok (.value v) w)\/(Region.wanted o (yielded ops a.tmps)=false/\v=undef)
theorem Steady.op {N:Act->World->Prop} {i:Nat} {o:Oper} {v:Value} {a:Act} {w:World} (hi:ops[i]?=some o) (hy:Steady P ops C o v a) (hc:C w) {K:Act->World->Prop} (h:K (a.put o.dst v) w):
    wpOp P ops (only N) i K a w:=by
  unfold wpOp
  simp only [hi]
  rcases hy with ⟨hw,hr⟩|⟨hw,rfl⟩
  · simp only [hw,if_true,Oper.wp,hr w hc,Oper.upon]
    exact .inl h
  · simp only [hw,Bool.false_eq_true,if_false]
    exact h
theorem Steady.of_same {o:Oper} {v:Value} {a a':Act} (hy:Steady P ops C o v a) (he:execOp a'.eval o=execOp a.eval o)
    (hw:Region.wanted o (yielded ops a'.tmps)=Region.wanted o (yielded ops a.tmps)):Steady P ops C o v a':=by
  unfold Steady at*
  rw [he,hw]
  exact hy
theorem wpOp_put {N:Act->World->Prop} {j:Nat} {oi oj:Oper} {v:Value} (hj:ops[j]?=some oj) (hap:oi.apart ops oj=true)
    (hsi:∀cs b,oi.op≠ .select cs b) (hsj:∀cs b,oj.op≠ .select cs b) {K:Act->World->Prop} {a:Act} {w:World}
    (hy:Steady P ops C oi v a) (h:wpOp P ops (only N) j K (a.put oi.dst v) w):
    wpOp P ops (only N) j (fun a' w'=>Steady P ops C oi v a'/\K (a'.put oi.dst v) w') a w:=by
  obtain ⟨h1,h2,h3⟩:=Oper.apart_spec hap
  have keep:∀(a:Act),Steady P ops C oi v a->∀u,Steady P ops C oi v (a.put oj.dst u):=fun a hy u=>
    hy.of_same (execOp_put oi hsi a oj.dst u h3) (wanted_put oi a oj.dst u h3)
  have keepd:∀(d:Deferred),∀u,Steady P ops C oi v ({a with defers:=d::a.defers}.put oj.dst u):=fun d u=>by
    have h0:=keep a hy u
    refine h0.of_same ?_ ?_
    · congr 1
      funext x
      cases x<;>cases hd:oj.dst<;>simp [Act.eval,Act.put]
    · congr 2
      cases hd:oj.dst<;>simp [Act.put]
  unfold wpOp at*
  simp only [hj] at*
  rw [wanted_put oj a oi.dst v h1] at h
  split
  · rename_i hw
    simp only [hw,if_true] at h
    rcases h with h|⟨_,h⟩
    case inr=>exact absurd h (only_out N)
    left
    unfold Oper.wp at*
    rw [execOp_put oj hsj a oi.dst v h1] at h
    generalize (execOp a.eval oj).run P w=r at*
    cases r with
    |ok nx w'=>
      cases nx<;>simp only [Oper.upon] at h⊢
      case value u=>exact ⟨keep a hy u,by rw [<-Act.put_comm a v u h2];exact h⟩
      case skip=>exact ⟨keep a hy _,by rw [<-Act.put_comm a v undef h2];exact h⟩
      case defer d=>
        refine ⟨keepd d _,?_⟩
        have e:({a with defers:=d::a.defers}.put oj.dst undef).put oi.dst v=({a.put oi.dst v with defers:=d::(a.put oi.dst v).defers}:Act).put oj.dst undef:=by
          have:=Act.put_comm {a with defers:=d::a.defers} v undef h2
          rw [<-this]
          congr 1
          cases hd:oi.dst<;>simp [Act.put]
        rw [e]
        exact h
      case enter f args=>
        refine h.mono fun e w'' he=>?_
        cases e with
        |returned u=>exact ⟨keep a hy u,by rw [<-Act.put_comm a v u h2];exact he⟩
        |panicked c=>exact absurd he.1 (by simp)
        |outgrown=>exact absurd he (only_out N)
      case row row args=>
        exact h.mono fun u w'' he=>⟨keep a hy u,by rw [<-Act.put_comm a v u h2];exact he⟩
    |halt x w'=>cases x<;>simp only [Oper.upon] at h<;>first|exact h.elim|exact absurd h.1 (by simp)
  · rename_i hw
    simp only [hw] at h
    exact ⟨keep a hy _,by rw [<-Act.put_comm a v undef h2];exact h⟩
def Closed (ops:Array Oper) (listed:Array Bool):Prop:=∀j oj,ops[j]?=some oj->listed.getD j false=true->∀e∈oj.after,Region.binds .any e=true->listed.getD e.on false=true
theorem Closed.set {listed:Array Bool} {i:Nat} (h:Closed ops listed) (hi:i∈Region.ready .any ops listed):Closed ops (listed.setIfInBounds i true):=by
  obtain ⟨_,oi,hoi,hall⟩:=mem_ready.1 hi
  intro j oj hj hl e he hb
  by_cases hij:i=j
  · subst hij
    have:oj=oi:=Option.some.inj (hj.symm.trans hoi)
    subst this
    exact getD_set_true (hall e he hb)
  · rw [getD_set_ne false hij] at hl
    exact getD_set_true (h j oj hj hl e he hb)
theorem rel_false {listed:Array Bool} {i j:Nat} (hc:Closed ops listed) (hi:i∈Region.ready .any ops listed) (hj:j∈Region.ready .any ops listed):
    rel ops E i ((listed.setIfInBounds i true).setIfInBounds j true)=false:=by
  obtain ⟨hui,oi,hoi,halli⟩:=mem_ready.1 hi
  obtain ⟨huj,oj,hoj,hallj⟩:=mem_ready.1 hj
  have hun:listed.getD i false=false:=both_false hui
  cases hr:rel ops E i ((listed.setIfInBounds i true).setIfInBounds j true) with
  |false=>rfl
  |true=>
    exfalso
    unfold rel at hr
    obtain ⟨s,_,h2⟩:=List.any_eq_true.1 hr
    simp only [Bool.and_eq_true] at h2
    obtain ⟨hl,h3⟩:=h2
    split at h3
    · rename_i os hos
      obtain ⟨e,he,hb⟩:=Array.any_eq_true'.1 h3
      simp only [Bool.and_eq_true,beq_iff_eq] at hb
      by_cases hsj:j=s
      · subst hsj
        have:os=oj:=Option.some.inj (hos.symm.trans hoj)
        subst this
        have:=hallj e he hb.1
        rw [hb.2,hun] at this
        cases this
      · rw [getD_set_ne false hsj] at hl
        by_cases hsi:i=s
        · subst hsi
          have:os=oi:=Option.some.inj (hos.symm.trans hoi)
          subst this
          have:=halli e he hb.1
          rw [hb.2,hun] at this
          cases this
        · rw [getD_set_ne false hsi] at hl
          have:=hc s os hos hl e he hb.1
          rw [hb.2,hun] at this
          cases this
    · cases h3
theorem wpAnyC_first {L:Facts} {N:Act->World->Prop} {i:Nat} {oi:Oper} {v:Value} (hE:E.contains i=false) (hi:ops[i]?=some oi) (hsel:∀(j:Nat) (o:Oper) cs b,ops[j]?=some o->o.op≠ .select cs b):
    ∀(fuel:Nat) (listed:Array Bool) (a:Act) (w:World),Closed ops listed->
      (∀j oj,ops[j]?=some oj->j≠i->listed.getD j true=false->(∀e∈oj.after,Region.binds .any e=true->e.on≠i)->oi.apart ops oj=true)->
      i∈Region.ready .any ops listed->Steady P ops (factOf L i) oi v a->factOf L i w->held ops E listed w L->
      wpAnyC P ops E L N fuel (listed.setIfInBounds i true) (a.put oi.dst v) w->wpAnyC P ops E L N (fuel+1) listed a w:=by
  intro fuel
  induction fuel with
  |zero=>
    intro listed a w _ _ hr hy hc hh H
    refine ⟨hh,fun h=>(by rw [h] at hr;cases hr),fun j hj=>?_⟩
    by_cases hji:j=i
    · subst hji;exact hy.op hi hc H
    · have:=ready_mono hj hji
      rw [H.2.1] at this
      cases this
  |succ fuel ih=>
    intro listed a w hcl hfree hr hy hc hh H
    refine ⟨hh,fun h=>(by rw [h] at hr;cases hr),fun j hj=>?_⟩
    by_cases hji:j=i
    · subst hji;exact hy.op hi hc H
    · have h1:=H.2.2 j (ready_mono hj hji)
      obtain ⟨hjun,oj,hoj,hall⟩:=mem_ready.1 hj
      have hnot:∀e∈oj.after,Region.binds .any e=true->e.on≠i:=fun e he hb heq=>by
        have h1:=hall e he hb
        have h0:=(mem_ready.1 hr).1
        rw [heq,both_false h0] at h1
        cases h1
      have h2:=wpOp_put hoj (hfree j oj hoj hji hjun hnot) (fun cs b=>hsel i oi cs b hi) (fun cs b=>hsel j oj cs b hoj) hy h1
      have hfree':∀k ok,ops[k]?=some ok->k≠i->(listed.setIfInBounds j true).getD k true=false->
          (∀e∈ok.after,Region.binds .any e=true->e.on≠i)->oi.apart ops ok=true:=fun k ok hk hki hun hno=>by
        refine hfree k ok hk hki ?_ hno
        by_cases hjk:j=k
        · subst hjk;exact hjun
        · rw [getD_set_ne true hjk] at hun;exact hun
      refine wpOp_mono (fun a' w' h3=>?_) h2
      have hrel:=rel_false (E:=E) hcl hr hj
      have hheld:=h3.2.cls
      have hfi:=factOf_held hrel hheld
      have hh2:held ops E (listed.setIfInBounds j true) w' L:=by
        have same:∀x,rel ops E x ((listed.setIfInBounds i true).setIfInBounds j true)=rel ops E x (listed.setIfInBounds j true):=fun x=>by
          unfold rel
          rw [Bool.eq_iff_iff,List.any_eq_true,List.any_eq_true]
          have hs:∀s∈E,((listed.setIfInBounds i true).setIfInBounds j true).getD s false=(listed.setIfInBounds j true).getD s false:=fun s hs=>by
            have hsi:i≠s:=fun e=>by
              subst e
              have:E.contains i=true:=by simpa using hs
              rw [hE] at this
              cases this
            rw [Array.setIfInBounds_comm _ _ (Ne.symm hji),getD_set_ne false hsi]
          constructor
          · rintro ⟨s,hs1,h⟩;exact ⟨s,hs1,by rw [<-hs s hs1];exact h⟩
          · rintro ⟨s,hs1,h⟩;exact ⟨s,hs1,by rw [hs s hs1];exact h⟩
        have key:∀M:Facts,held ops E ((listed.setIfInBounds i true).setIfInBounds j true) w' M->held ops E (listed.setIfInBounds j true) w' M:=by
          intro M
          induction M with
          |nil=>intro _;trivial
          |cons x M ihM=>
            obtain ⟨i',p,v⟩:=x
            intro hM
            exact ⟨by rw [<-same];exact hM.1,ihM hM.2⟩
        exact key L hheld
      refine ih (listed.setIfInBounds j true) a' w' (hcl.set hj) hfree' (ready_mono hr (Ne.symm hji)) h3.1 hfi hh2 ?_
      rw [Array.setIfInBounds_comm _ _ hji]
      exact h3.2
abbrev Sched:=List (Bool×List Nat)
def schedB (ops:Array Oper) (E:List Nat):List (Bool×Nat)->Array Bool->Bool
  |[],listed=>(Region.ready .any ops listed).isEmpty
  |(true,i)::s,listed=>(Region.ready .any ops listed).contains i&&Region.free .any ops listed i&&!E.contains i&&schedB ops E s (listed.setIfInBounds i true)
  |(false,i)::s,listed=>decide (Region.ready .any ops listed=[i])&&schedB ops E s (listed.setIfInBounds i true)
def flat (s:Sched):List (Bool×Nat):=s.flatMap fun x=>x.2.map fun i=>(x.1,i)
def SteadyE (P:Program) (n:Nat) (ops:Array Oper) (C:World->Prop) (o:Oper) (v:Value) (ρ:Env):Prop:=
  (o.guard=none/\∀w,C w->Yields P ρ o v w)\/(∃j b,o.guard=some (j,b)/\yieldsAs ops ρ j n b/\∀w,C w->Yields P ρ o v w)\/(∃j b,o.guard=some (j,b)/\noY ops ρ j n b/\v=undef)
def walkE (P:Program) (n:Nat) (ops:Array Oper) (E:List Nat) (L:Facts) (N:Env->World->Prop):List (Bool×Nat)->Array Bool->Env->World->Prop
  |[],_,ρ,w=>N ρ w
  |(true,i)::s,listed,ρ,w=>∃o v,ops[i]?=some o/\dstOK n o.dst=true/\SteadyE P n ops (factOf L i) o v ρ/\walkE P n ops E L N s (listed.setIfInBounds i true) (put ρ o.dst v) w
  |(false,i)::s,listed,ρ,w=>∃o,ops[i]?=some o/\OpsE P n ops [o] (fun ρ' w'=>held ops E (listed.setIfInBounds i true) w' L/\walkE P n ops E L N s (listed.setIfInBounds i true) ρ' w') ρ w
theorem SteadyE.at {n:Nat} {o:Oper} {v:Value} {ρ:Env} {a:Act} (ha:Rep n ρ a) (h:SteadyE P n ops C o v ρ):Steady P ops C o v a:=by
  rcases h with ⟨hg,hy⟩|⟨j,b,hg,hj,hy⟩|⟨j,b,hg,hj,rfl⟩
  · exact .inl ⟨by simp [Region.wanted,hg],fun w hw=>by rw [ha.eval];exact hy w hw⟩
  · exact .inl ⟨by simp [Region.wanted,hg,yielded_of ha hj],fun w hw=>by rw [ha.eval];exact hy w hw⟩
  · exact .inr ⟨by simp [Region.wanted,hg,not_yielded ha hj],rfl⟩
theorem rel_ready {listed:Array Bool} {i:Nat} (hc:Closed ops listed) (hi:i∈Region.ready .any ops listed):rel ops E i listed=false:=by
  obtain ⟨hui,_⟩:=mem_ready.1 hi
  have hun:listed.getD i false=false:=both_false hui
  cases hr:rel ops E i listed with
  |false=>rfl
  |true=>
    exfalso
    unfold rel at hr
    obtain ⟨s,_,h2⟩:=List.any_eq_true.1 hr
    simp only [Bool.and_eq_true] at h2
    obtain ⟨hl,h3⟩:=h2
    split at h3
    · rename_i os hos
      obtain ⟨e,he,hb⟩:=Array.any_eq_true'.1 h3
      simp only [Bool.and_eq_true,beq_iff_eq] at hb
      have:=hc s os hos hl e he hb.1
      rw [hb.2,hun] at this
      cases this
    · cases h3
theorem walk_any {n:Nat} {L:Facts} {N:Env->World->Prop} (hsel:Region.noSelect ops=true):∀(s:List (Bool×Nat)) (listed:Array Bool) (ρ:Env) (w:World) (a:Act),Rep n ρ a->Closed ops listed->held ops E listed w L->
    schedB ops E s listed=true->walkE P n ops E L N s listed ρ w->wpAnyC P ops E L (fun a' w'=>∃ρ',Rep n ρ' a'/\N ρ' w') s.length listed a w
  |[],listed,ρ,w,a,ha,_,hc,hB,h=>⟨hc,by simpa [schedB] using hB,ρ,ha,h⟩
  |(true,i)::s,listed,ρ,w,a,ha,hcl,hc,hB,h=>by
    simp only [schedB,Bool.and_eq_true,Bool.not_eq_true'] at hB
    obtain ⟨o,v,ho,hd,hs,hw⟩:=h
    have hr:i∈Region.ready .any ops listed:=by simpa using hB.1.1.1
    have hh2:held ops E (listed.setIfInBounds i true) w L:=by
      have hrl:∀x,rel ops E x listed=true->rel ops E x (listed.setIfInBounds i true)=true:=fun x hx=>by
        unfold rel at*
        obtain ⟨s,hs1,h⟩:=List.any_eq_true.1 hx
        simp only [Bool.and_eq_true] at h
        exact List.any_eq_true.2 ⟨s,hs1,by simp only [Bool.and_eq_true];exact ⟨getD_set_true h.1,h.2⟩⟩
      have key:∀M:Facts,held ops E listed w M->held ops E (listed.setIfInBounds i true) w M:=by
        intro M
        induction M with
        |nil=>intro _;trivial
        |cons x M ihM=>
          obtain ⟨i',p,v⟩:=x
          intro hM
          exact ⟨hM.1.imp (hrl _) id,ihM hM.2⟩
      exact key L hc
    exact wpAnyC_first hB.1.2 ho (Region.noSelect_spec hsel) s.length listed a w hcl (Region.free_spec ho hB.1.1.2) hr (hs.at ha) (factOf_held (rel_ready hcl hr) hc) hc
      (walk_any hsel s _ _ w _ (ha.put hd v) (hcl.set hr) hh2 hB.2 hw)
  |(false,i)::s,listed,ρ,w,a,ha,hcl,hc,hB,h=>by
    simp only [schedB,Bool.and_eq_true,decide_eq_true_eq] at hB
    obtain ⟨o,ho,hw⟩:=h
    refine ⟨hc,fun h=>(by rw [hB.1] at h;cases h),fun j hj=>?_⟩
    have hj2:=hj
    rw [hB.1] at hj
    have hji:j=i:=by simpa using hj
    subst hji
    have h1:=hw a ha (fun e a' w'=>e= .normal/\∃ρ',Rep n ρ' a'/\held ops E (listed.setIfInBounds j true) w' L/\walkE P n ops E L N s (listed.setIfInBounds j true) ρ' w') (fun ρ' a' w' hr hk=>⟨rfl,ρ',hr,hk⟩)
    unfold wpList at h1
    unfold wpOp
    simp only [ho]
    have fin:∀a' w',wpList P ops (fun e a' w'=>e= .normal/\∃ρ',Rep n ρ' a'/\held ops E (listed.setIfInBounds j true) w' L/\walkE P n ops E L N s (listed.setIfInBounds j true) ρ' w') [] a' w'->
        wpAnyC P ops E L (fun a' w'=>∃ρ',Rep n ρ' a'/\N ρ' w') s.length (listed.setIfInBounds j true) a' w':=fun a' w' hh=>by
      obtain ⟨_,ρ',hr,hc',hk⟩:=hh
      exact walk_any hsel s _ ρ' w' a' hr (hcl.set hj2) hc' hB.2 hk
    split
    · rename_i hwant
      simp only [hwant,if_true] at h1
      rcases h1 with h1|⟨_,a0,w0,h1,_⟩
      case inr=>cases h1
      left
      unfold Oper.wp at*
      generalize (execOp a.eval o).run P w=r at*
      cases r with
      |ok nx w'=>
        cases nx<;>simp only [Oper.upon] at h1⊢
        case value u=>exact fin _ _ h1
        case skip=>exact fin _ _ h1
        case defer d=>exact fin _ _ h1
        case enter f args=>
          refine h1.mono fun e w'' he=>?_
          cases e with
          |returned u=>exact fin _ _ he
          |panicked c=>exact absurd he.1 (by simp)
          |outgrown=>obtain ⟨_,_,h,_⟩:=he;cases h
        case row row args=>exact h1.mono fun u w'' he=>fin _ _ he
      |halt x w'=>cases x<;>simp only [Oper.upon] at h1<;>first|exact h1.elim|exact absurd h1.1 (by simp)
    · rename_i hwant
      simp only [hwant] at h1
      exact fin _ _ h1
theorem drawE {n:Nat} {K:Exit->Env->World->Prop} {ρ:Env} {w:World} {id:Nat} (E:List Nat) (L:Facts) (s:Sched) (hm:P.follows .mixedOrders=true)
    (hB:(Region.noSelect ops&&decide ((flat s).length=ops.size)&&schedB ops E (flat s) (Array.replicate ops.size false))=true) (hC:held ops E (Array.replicate ops.size false) w L)
    (h:walkE P n ops E L (K .normal) (flat s) (Array.replicate ops.size false) ρ {w with drawn:=w.drawn+1}):CodeE P n (.region id ops true) K ρ w:=by
  intro a ha
  simp only [Bool.and_eq_true,decide_eq_true_eq] at hB
  have hcl:Closed ops (Array.replicate ops.size false):=fun j oj _ hl=>by rw [none_listed] at hl;cases hl
  have hC2:held ops E (Array.replicate ops.size false) {w with drawn:=w.drawn+1} L:=by
    clear hB h
    induction L with
    |nil=>trivial
    |cons x L ih=>obtain ⟨i,p,v⟩:=x;exact ⟨hC.1,ih hC.2⟩
  have h1:=walk_any hB.1.1 (flat s) _ ρ _ a ha hcl hC2 hB.2 h
  rw [hB.1.2] at h1
  refine wp_mono (wp_region_any hm (wpAny_of_C _ _ _ _ h1)) fun e a' w' hq=>?_
  obtain ⟨rfl,ρ',hr,hk⟩:=hq
  exact ⟨ρ',hr,hk⟩
variable {n:Nat} {L:Facts} {N:Env->World->Prop} {ρ:Env} {w:World} {s:Sched} {listed:Array Bool}
theorem wN (h:N ρ w):walkE P n ops E L N (flat []) listed ρ w:=h
theorem wO {i:Nat} {o:Oper} (ho:ops[i]?=some o) (h:OpsE P n ops [o] (fun ρ' w'=>held ops E (listed.setIfInBounds i true) w' L/\walkE P n ops E L N (flat s) (listed.setIfInBounds i true) ρ' w') ρ w):
    walkE P n ops E L N (flat ((false,[i])::s)) listed ρ w:=⟨o,ho,h⟩
end
end Go.E
namespace Go.E
section
variable {P:Program} {n:Nat} {ρ:Env} {w:World} {ops:Array Oper} {rest:List Oper} {N:Env->World->Prop}
def pureRun {α:Type} (P:Program):Sem α->Option α
  | .pure a=>some a
  | .program k=>pureRun P (k P)
  |_=>none
theorem pureRun_run {α:Type} (P:Program):∀(s:Sem α) (a:α),pureRun P s=some a->∀w,s.run P w= .ok a w:=by
  intro s
  induction s with
  |pure b=>intro a h w;simp only [pureRun,Option.some.injEq] at h;subst h;rfl
  |program k ih=>intro a h w;exact ih P a h w
  |_=>intro a h;cases h
def valP:Option Next->Value
  |some (.value v)=>v
  |_=>undef
def isV:Option Next->Bool
  |some (.value _)=>true
  |_=>false
def guardP (ops:Array Oper) (n:Nat) (ρ:Env):Option (Nat×Bool)->Option Bool
  |none=>some true
  |some (j,b)=>match (ops[j]?).bind (·.dst) with
    |some d=>bif Nat.blt d n then (match ρ d with| .bool b'=>some (b'==b)| .tuple _=>some false|_=>none) else none
    |none=>none
def goP (P:Program) (ρ:Env) (o:Oper):Option Bool->Value
  |some true=>valP (pureRun P (execOp (ev ρ) o))
  |_=>undef
def envP (P:Program) (n:Nat) (ops:Array Oper):List Oper->Env->Env
  |[],ρ=>ρ
  |o::l,ρ=>envP P n ops l (put ρ o.dst (goP P ρ o (guardP ops n ρ o.guard)))
def okP (P:Program) (ρ:Env) (o:Oper):Option Bool->Bool
  |some true=>isV (pureRun P (execOp (ev ρ) o))
  |some false=>true
  |none=>false
def pureB (P:Program) (n:Nat) (ops:Array Oper):List Oper->Env->Bool
  |[],_=>true
  |o::l,ρ=>dstOK n o.dst&&okP P ρ o (guardP ops n ρ o.guard)&&pureB P n ops l (put ρ o.dst (goP P ρ o (guardP ops n ρ o.guard)))
theorem guardP_yes {j:Nat} {b:Bool} (h:guardP ops n ρ (some (j,b))=some true):yieldsAs ops ρ j n b:=by
  simp only [guardP] at h
  split at h
  · rename_i d hd
    cases hb:Nat.blt d n with
    |false=>simp [hb] at h
    |true=>
      simp only [hb,cond_true] at h
      split at h
      · rename_i b' hv
        simp only [Option.some.injEq,beq_iff_eq] at h
        subst h
        exact ⟨d,hd,hb,hv⟩
      · cases h
      · cases h
  · cases h
theorem guardP_no {j:Nat} {b:Bool} (h:guardP ops n ρ (some (j,b))=some false):noY ops ρ j n b:=by
  simp only [guardP] at h
  split at h
  · rename_i d hd
    cases hb:Nat.blt d n with
    |false=>simp [hb] at h
    |true=>
      simp only [hb,cond_true] at h
      split at h
      · rename_i b' hv
        simp only [Option.some.injEq] at h
        exact ⟨d,hd,hb, .inl ⟨b',hv,h⟩⟩
      · rename_i l hv
        exact ⟨d,hd,hb, .inr ⟨l,hv⟩⟩
      · cases h
  · cases h
theorem steadyP {C:World->Prop} {o:Oper} (h:okP P ρ o (guardP ops n ρ o.guard)=true):SteadyE P n ops C o (goP P ρ o (guardP ops n ρ o.guard)) ρ:=by
  have run:∀r,pureRun P (execOp (ev ρ) o)=r->isV r=true->∀w,Yields P ρ o (valP r) w:=by
    intro r hr hi w
    cases r with
    |none=>cases hi
    |some x=>
      cases x<;>simp only [isV] at hi<;>first|contradiction|exact pureRun_run P _ _ hr w
  cases hg:o.guard with
  |none=>
    rw [hg] at h
    simp only [guardP,okP] at h
    exact .inl ⟨hg,fun w _=>run _ rfl h w⟩
  |some g=>
    obtain ⟨j,b⟩:=g
    rw [hg] at h
    cases hgp:guardP ops n ρ (some (j,b)) with
    |none=>rw [hgp] at h;cases h
    |some x=>
      rw [hgp] at h
      cases x with
      |true=>
        simp only [okP] at h
        exact .inr (.inl ⟨j,b,hg,guardP_yes hgp,fun w _=>run _ rfl h w⟩)
      |false=>exact .inr (.inr ⟨j,b,hg,guardP_no hgp,rfl⟩)
theorem ops_steady {o:Oper} {v:Value} (hd:dstOK n o.dst=true) (hs:SteadyE P n ops (fun _=>True) o v ρ) (h:OpsE P n ops rest N (put ρ o.dst v) w):OpsE P n ops (o::rest) N ρ w:=by
  rcases hs with ⟨hg,hy⟩|⟨j,b,hg,hj,hy⟩|⟨j,b,hg,hj,rfl⟩
  · exact stepY v hg hd (hy w trivial) h
  · exact guardYes hg hj (stepY v rfl hd (hy w trivial) h)
  · exact guardNo hg hd hj h
theorem sP (l1 l2:List Oper) (hl:l1++l2=rest) (hk:pureB P n ops l1 ρ=true) (h:OpsE P n ops l2 N (envP P n ops l1 ρ) w):OpsE P n ops rest N ρ w:=by
  subst hl
  induction l1 generalizing ρ with
  |nil=>exact h
  |cons o l1 ih=>
    simp only [pureB,Bool.and_eq_true] at hk
    exact ops_steady hk.1.1 (steadyP hk.1.2) (ih hk.2 h)
theorem sp (k:Nat) (hk:pureB P n ops (rest.take k) ρ=true) (h:OpsE P n ops (rest.drop k) N (envP P n ops (rest.take k) ρ) w):OpsE P n ops rest N ρ w:=
  sP _ _ (List.take_append_drop k rest) hk h
def sel (ops:Array Oper) (is:List Nat):List Oper:=is.map fun i=>ops.getD i default
def listAll (is:List Nat) (listed:Array Bool):Array Bool:=is.foldl (fun l i=>l.setIfInBounds i true) listed
theorem wP {E:List Nat} {L:Facts} {s:Sched} {listed:Array Bool} (is:List Nat) (hl:(is.all fun i=>Nat.blt i ops.size)=true) (hk:pureB P n ops (sel ops is) ρ=true)
    (h:walkE P n ops E L N (flat s) (listAll is listed) (envP P n ops (sel ops is) ρ) w):walkE P n ops E L N (flat ((true,is)::s)) listed ρ w:=by
  show walkE P n ops E L N (is.map (fun i=>(true,i))++flat s) listed ρ w
  induction is generalizing ρ listed with
  |nil=>exact h
  |cons i is ih=>
    simp only [List.all_cons,Bool.and_eq_true] at hl
    simp only [sel,List.map_cons,pureB,Bool.and_eq_true] at hk
    have hi:i<ops.size:=by simpa using hl.1
    refine ⟨ops.getD i default,_,by simp [Array.getD,hi],hk.1.1,steadyP hk.1.2,ih hl.2 hk.2 h⟩
theorem p1 {o0:Oper} (hk:pureB P n ops [o0] ρ=true) (h:OpsE P n ops rest N (envP P n ops [o0] ρ) w):OpsE P n ops (o0::rest) N ρ w:=sP [o0] rest rfl hk h
theorem p2 {o0 o1:Oper} (hk:pureB P n ops [o0,o1] ρ=true) (h:OpsE P n ops rest N (envP P n ops [o0,o1] ρ) w):OpsE P n ops (o0::o1::rest) N ρ w:=sP [o0,o1] rest rfl hk h
theorem p3 {o0 o1 o2:Oper} (hk:pureB P n ops [o0,o1,o2] ρ=true) (h:OpsE P n ops rest N (envP P n ops [o0,o1,o2] ρ) w):OpsE P n ops (o0::o1::o2::rest) N ρ w:=sP [o0,o1,o2] rest rfl hk h
theorem pu1 {o0:Oper} (h:OpsE P n ops rest N (envP P n ops [o0] ρ) w) (hk:pureB P n ops [o0] ρ=true:=by kernel_rfl):OpsE P n ops (o0::rest) N ρ w:=sP [o0] rest rfl hk h
theorem pu2 {o0 o1:Oper} (h:OpsE P n ops rest N (envP P n ops [o0,o1] ρ) w) (hk:pureB P n ops [o0,o1] ρ=true:=by kernel_rfl):OpsE P n ops (o0::o1::rest) N ρ w:=sP [o0,o1] rest rfl hk h
theorem pu3 {o0 o1 o2:Oper} (h:OpsE P n ops rest N (envP P n ops [o0,o1,o2] ρ) w) (hk:pureB P n ops [o0,o1,o2] ρ=true:=by kernel_rfl):OpsE P n ops (o0::o1::o2::rest) N ρ w:=sP [o0,o1,o2] rest rfl hk h
theorem pu4 {o0 o1 o2 o3:Oper} (h:OpsE P n ops rest N (envP P n ops [o0,o1,o2,o3] ρ) w) (hk:pureB P n ops [o0,o1,o2,o3] ρ=true:=by kernel_rfl):OpsE P n ops (o0::o1::o2::o3::rest) N ρ w:=sP [o0,o1,o2,o3] rest rfl hk h
theorem pu5 {o0 o1 o2 o3 o4:Oper} (h:OpsE P n ops rest N (envP P n ops [o0,o1,o2,o3,o4] ρ) w) (hk:pureB P n ops [o0,o1,o2,o3,o4] ρ=true:=by kernel_rfl):OpsE P n ops (o0::o1::o2::o3::o4::rest) N ρ w:=sP [o0,o1,o2,o3,o4] rest rfl hk h
theorem pu6 {o0 o1 o2 o3 o4 o5:Oper} (h:OpsE P n ops rest N (envP P n ops [o0,o1,o2,o3,o4,o5] ρ) w) (hk:pureB P n ops [o0,o1,o2,o3,o4,o5] ρ=true:=by kernel_rfl):OpsE P n ops (o0::o1::o2::o3::o4::o5::rest) N ρ w:=sP [o0,o1,o2,o3,o4,o5] rest rfl hk h
theorem pu9 {o0 o1 o2 o3 o4 o5 o6 o7 o8:Oper} (h:OpsE P n ops rest N (envP P n ops [o0,o1,o2,o3,o4,o5,o6,o7,o8] ρ) w) (hk:pureB P n ops [o0,o1,o2,o3,o4,o5,o6,o7,o8] ρ=true:=by kernel_rfl):OpsE P n ops (o0::o1::o2::o3::o4::o5::o6::o7::o8::rest) N ρ w:=sP [o0,o1,o2,o3,o4,o5,o6,o7,o8] rest rfl hk h
theorem pu10 {o0 o1 o2 o3 o4 o5 o6 o7 o8 o9:Oper} (h:OpsE P n ops rest N (envP P n ops [o0,o1,o2,o3,o4,o5,o6,o7,o8,o9] ρ) w) (hk:pureB P n ops [o0,o1,o2,o3,o4,o5,o6,o7,o8,o9] ρ=true:=by kernel_rfl):OpsE P n ops (o0::o1::o2::o3::o4::o5::o6::o7::o8::o9::rest) N ρ w:=sP [o0,o1,o2,o3,o4,o5,o6,o7,o8,o9] rest rfl hk h
theorem pu14 {o0 o1 o2 o3 o4 o5 o6 o7 o8 o9 o10 o11 o12 o13:Oper} (h:OpsE P n ops rest N (envP P n ops [o0,o1,o2,o3,o4,o5,o6,o7,o8,o9,o10,o11,o12,o13] ρ) w) (hk:pureB P n ops [o0,o1,o2,o3,o4,o5,o6,o7,o8,o9,o10,o11,o12,o13] ρ=true:=by kernel_rfl):OpsE P n ops (o0::o1::o2::o3::o4::o5::o6::o7::o8::o9::o10::o11::o12::o13::rest) N ρ w:=sP [o0,o1,o2,o3,o4,o5,o6,o7,o8,o9,o10,o11,o12,o13] rest rfl hk h
theorem pu15 {o0 o1 o2 o3 o4 o5 o6 o7 o8 o9 o10 o11 o12 o13 o14:Oper} (h:OpsE P n ops rest N (envP P n ops [o0,o1,o2,o3,o4,o5,o6,o7,o8,o9,o10,o11,o12,o13,o14] ρ) w) (hk:pureB P n ops [o0,o1,o2,o3,o4,o5,o6,o7,o8,o9,o10,o11,o12,o13,o14] ρ=true:=by kernel_rfl):OpsE P n ops (o0::o1::o2::o3::o4::o5::o6::o7::o8::o9::o10::o11::o12::o13::o14::rest) N ρ w:=sP [o0,o1,o2,o3,o4,o5,o6,o7,o8,o9,o10,o11,o12,o13,o14] rest rfl hk h
theorem pu16 {o0 o1 o2 o3 o4 o5 o6 o7 o8 o9 o10 o11 o12 o13 o14 o15:Oper} (h:OpsE P n ops rest N (envP P n ops [o0,o1,o2,o3,o4,o5,o6,o7,o8,o9,o10,o11,o12,o13,o14,o15] ρ) w) (hk:pureB P n ops [o0,o1,o2,o3,o4,o5,o6,o7,o8,o9,o10,o11,o12,o13,o14,o15] ρ=true:=by kernel_rfl):OpsE P n ops (o0::o1::o2::o3::o4::o5::o6::o7::o8::o9::o10::o11::o12::o13::o14::o15::rest) N ρ w:=sP [o0,o1,o2,o3,o4,o5,o6,o7,o8,o9,o10,o11,o12,o13,o14,o15] rest rfl hk h
theorem wU {E:List Nat} {L:Facts} {s:Sched} {listed:Array Bool} (is:List Nat) (h:walkE P n ops E L N (flat s) (listAll is listed) (envP P n ops (sel ops is) ρ) w) (hl:(is.all fun i=>Nat.blt i ops.size)=true:=by rfl) (hk:pureB P n ops (sel ops is) ρ=true:=by kernel_rfl):walkE P n ops E L N (flat ((true,is)::s)) listed ρ w:=wP is hl hk h
end
end Go.E
