import Derived.Test.YtkadmghedmodbaaGreatR4P3Walk
set_option linter.all false
namespace Go.E
set_option linter.unusedVariables false
structure LI where
  sl:List (Nat×Value)
  cs:List Chunk
  m:Nat
  fs:Prop
def LI.P (W w:World):LI->Prop
  |⟨_,cs,_,fs⟩=>Sat W w cs/\fs
def keep (ρ:Env) (fr:List Nat):List (Nat×Value):=fr.map fun i=>(i,ρ i)
def fcA:Value->Value
  | .bool b=> .bool b
  | .int k n=> .int k n
  | .float k n=> .float k n
  | .complex k a b=> .complex k a b
  | .string s=> .string s
  | .pointer a=> .pointer a
  | .slice a n c=> .slice a n c
  | .map r=> .map r
  | .chan r=> .chan r
  | .func f a c=> .func f a c
  | .nilFunc=> .nilFunc
  | .iface t v=> .iface t v
  | .nilIface=> .nilIface
  | .agg c=> .agg c
  | .tuple v=> .tuple v
def fcB:Value->Value
  | .bool b=> .bool b
  | .int k n=> .int k n
  | .float k n=> .float k n
  | .complex k a b=> .complex k a b
  | .string s=> .string s
  | .pointer a=> .pointer a
  | .slice a n c=> .slice a n c
  | .map r=> .map r
  | .chan r=> .chan r
  | .func f a c=> .func f a c
  | .nilFunc=> .nilFunc
  | .iface t v=> .iface t v
  | .nilIface=> .nilIface
  | .agg c=> .agg c
  | .tuple v=> .tuple v
theorem fcA_eq (v:Value):fcA v=v:=by cases v<;>rfl
theorem fcB_eq (v:Value):fcB v=v:=by cases v<;>rfl
def kpA (ρ:Env):List Nat->List Value
  |[]=>[]
  |i::l=>fcA (ρ i)::kpA ρ l
def kpB (ρ:Env):List Nat->List Value
  |[]=>[]
  |i::l=>fcB (ρ i)::kpB ρ l
def KeepAt (ρ':Env) (sl:List (Nat×Value)) (ρ:Env) (fr:List Nat):Prop:=AllAt ρ' sl/\kpA ρ' fr=kpB ρ fr
inductive Tl:Nat->List Chunk->List Chunk->Prop
  |z {R}:Tl 0 R R
  |s {k x l R} (h:Tl k l R):Tl (k+1) (x::l) R
section
variable {P:Program} {n:Nat} {ρ:Env} {W w:World} {cs:List Chunk} {ops:Array Oper} {rest:List Oper} {N:Env->World->Prop} {o:Oper} {K:Exit->Env->World->Prop} {x y:Code} {c:Operand}
theorem cIf {p:Prop} (t:Bool) (e:p↔t=true) (h1:p->CodeE P n x K ρ w) (h2:¬p->CodeE P n y K ρ w) (hc:ev ρ c= .bool t):CodeE P n (.cond c x y) K ρ w:=
  condE hc (fun h=>h1 (e.2 h)) (fun h=>h2 (fun hp=>by rw [e.1 hp] at h;cases h))
theorem sIf {p:Prop} {d:Nat} (t:Bool) (e:p↔t=true) (h1:p->OpsE P n ops rest N (upd ρ d (.bool true)) w) (h2:¬p->OpsE P n ops rest N (upd ρ d (.bool false)) w) (hd:ρ d= .bool t):OpsE P n ops rest N ρ w:=by
  cases t with
  |true=>exact sFix d true true rfl (h1 (e.2 rfl)) hd
  |false=>exact sFix d false false rfl (h2 (fun h=>by have:=e.1 h;cases this)) hd
theorem nIff {p:Prop} {t:Bool} (e:p↔t=true):¬p↔(!t)=true:=by cases t<;>simp_all
theorem eIff {a b:Int}:a=b↔(a==b)=true:=by simp
theorem bIff {t:Bool}:t=true↔t=true:=Iff.rfl
theorem dIff {p:Prop} [Decidable p]:p↔decide p=true:=by simp
theorem cD (p:Prop) [Decidable p] (h1:p->CodeE P n x K ρ w) (h2:¬p->CodeE P n y K ρ w) (hc:ev ρ c= .bool (decide p):=by kernel_rfl):CodeE P n (.cond c x y) K ρ w:=cIf _ dIff h1 h2 hc
theorem sD (d:Nat) (p:Prop) [Decidable p] (h1:p->OpsE P n ops rest N (upd ρ d (.bool true)) w) (h2:¬p->OpsE P n ops rest N (upd ρ d (.bool false)) w) (hd:ρ d= .bool (decide p):=by kernel_rfl):OpsE P n ops rest N ρ w:=sIf _ dIff h1 h2 hd
theorem cDn (p:Prop) [Decidable p] (h1:p->CodeE P n y K ρ w) (h2:¬p->CodeE P n x K ρ w) (hc:ev ρ c= .bool (!(decide p)):=by kernel_rfl):CodeE P n (.cond c x y) K ρ w:=cIf _ (nIff dIff) h2 (fun h=>h1 (Classical.not_not.1 h)) hc
theorem cE (a b:Int) (h1:a=b->CodeE P n x K ρ w) (h2:¬(a=b)->CodeE P n y K ρ w) (hc:ev ρ c= .bool (a==b):=by kernel_rfl):CodeE P n (.cond c x y) K ρ w:=cIf _ eIff h1 h2 hc
theorem sE (d:Nat) (a b:Int) (h1:a=b->OpsE P n ops rest N (upd ρ d (.bool true)) w) (h2:¬(a=b)->OpsE P n ops rest N (upd ρ d (.bool false)) w) (hd:ρ d= .bool (a==b):=by kernel_rfl):OpsE P n ops rest N ρ w:=sIf _ eIff h1 h2 hd
theorem cEn (a b:Int) (h1:a=b->CodeE P n y K ρ w) (h2:¬(a=b)->CodeE P n x K ρ w) (hc:ev ρ c= .bool (!(a==b)):=by kernel_rfl):CodeE P n (.cond c x y) K ρ w:=cIf _ (nIff eIff) h2 (fun h=>h1 (Classical.not_not.1 h)) hc
theorem sEn (d:Nat) (a b:Int) (h1:a=b->OpsE P n ops rest N (upd ρ d (.bool false)) w) (h2:¬(a=b)->OpsE P n ops rest N (upd ρ d (.bool true)) w) (hd:ρ d= .bool (!(a==b)):=by kernel_rfl):OpsE P n ops rest N ρ w:=sIf _ (nIff eIff) h2 (fun h=>h1 (Classical.not_not.1 h)) hd
theorem cN (a b : Int) (h1 : a = b -> CodeE P n y K ρ w) (h2 : ¬ (a = b) -> CodeE P n x K ρ w) (hc : ev ρ c = .bool (a != b) := by kernel_rfl) : CodeE P n (.cond c x y) K ρ w := cEn a b h1 h2 hc
theorem sN (d : Nat) (a b : Int) (h1 : a = b -> OpsE P n ops rest N (upd ρ d (.bool false)) w) (h2 : ¬ (a = b) -> OpsE P n ops rest N (upd ρ d (.bool true)) w) (hd : ρ d = .bool (a != b) := by kernel_rfl) : OpsE P n ops rest N ρ w := sEn d a b h1 h2 hd
theorem cB (t:Bool) (h1:t=true->CodeE P n x K ρ w) (h2:¬(t=true)->CodeE P n y K ρ w) (hc:ev ρ c= .bool (t):=by kernel_rfl):CodeE P n (.cond c x y) K ρ w:=cIf _ bIff h1 h2 hc
theorem sB (d:Nat) (t:Bool) (h1:t=true->OpsE P n ops rest N (upd ρ d (.bool true)) w) (h2:¬(t=true)->OpsE P n ops rest N (upd ρ d (.bool false)) w) (hd:ρ d= .bool (t):=by kernel_rfl):OpsE P n ops rest N ρ w:=sIf _ bIff h1 h2 hd
theorem cBn (t:Bool) (h1:t=true->CodeE P n y K ρ w) (h2:¬(t=true)->CodeE P n x K ρ w) (hc:ev ρ c= .bool (!(t)):=by kernel_rfl):CodeE P n (.cond c x y) K ρ w:=cIf _ (nIff bIff) h2 (fun h=>h1 (Classical.not_not.1 h)) hc
theorem sBn (d:Nat) (t:Bool) (h1:t=true->OpsE P n ops rest N (upd ρ d (.bool false)) w) (h2:¬(t=true)->OpsE P n ops rest N (upd ρ d (.bool true)) w) (hd:ρ d= .bool (!(t)):=by kernel_rfl):OpsE P n ops rest N ρ w:=sIf _ (nIff bIff) h2 (fun h=>h1 (Classical.not_not.1 h)) hd
def onRet:Ending->(Value->Prop)->Prop
  | .returned v,k=>k v
  |_,_=>False
theorem onRet.ex {e:Ending} {k:Value->Prop} (h:onRet e k):∃v,e= .returned v/\k v:=by
  cases e with
  |returned v=>exact ⟨v,rfl,h⟩
  |panicked c=>exact h.elim
  |outgrown=>exact h.elim
abbrev Ro (P:Program) (f:FuncId) (args:Array Value) (v:Value) (W w:World) (cs:List Chunk):Prop:=Calls P f args w fun e w'=>e= .returned v/\Sat W w' cs
theorem cX {f:FuncId} {xs:Array Operand} {ats:Array TypeId} {args:Array Value} {R:Ending->World->Prop} (hc:∀args w,(callFunc f args).run P w= .ok (.enter f args) w) (hq:Calls P f args w R)
    (h:∀e w',R e w'->onRet e fun v=>OpsE P n ops rest N (put ρ o.dst v) w')
    (ho:o.op= .call {callee:= .value (.func f),args:=xs,argTypes:=ats}:=by rfl) (hg:o.guard=none:=by rfl) (hd:dstOK n o.dst=true:=by rfl) (hargs:xs.map (ev ρ)=args:=by kernel_rfl):OpsE P n ops (o::rest) N ρ w:=
  sF args hc (hq.mono fun e w' he=>(h e w' he).ex) ho hg hd hargs
section
variable {R0 cs0:List Chunk} {w0:World} {γ:Type}
theorem keep_at (ρ:Env) (fr:List Nat):AllAt ρ (keep ρ fr):=by
  induction fr with
  |nil=>trivial
  |cons i fr ih=>exact ⟨rfl,ih⟩
theorem all_app {ρ:Env}:∀{a b:List (Nat×Value)},AllAt ρ a->AllAt ρ b->AllAt ρ (a++b)
  |[],_,_,h=>h
  |_::_,_,h,h'=>⟨h.1,all_app h.2 h'⟩
theorem KeepAt.all {ρ' ρ:Env} {sl:List (Nat×Value)} {fr:List Nat} (h:KeepAt ρ' sl ρ fr):AllAt ρ' (sl++keep ρ fr):=by
  refine all_app h.1 ?_
  have h2:=h.2
  induction fr with
  |nil=>trivial
  |cons i fr ih=>
    simp only [kpA,kpB,fcA_eq,fcB_eq,List.cons.injEq] at h2
    exact ⟨h2.1,ih ⟨h.1,by rw [h2.2]⟩ h2.2⟩
theorem alB {ρ' ρ:Env} {sl:List (Nat×Value)} {fr:List Nat} (h:sl.map (fun x=>ρ' x.1)=sl.map (fun x=>x.2):=by kernel_rfl) (h2:kpA ρ' fr=kpB ρ fr:=by kernel_rfl):KeepAt ρ' sl ρ fr:=⟨alA h,h2⟩
theorem loopB {b:Code} (fr:List Nat) (inv:γ->List Chunk->LI) (g0:γ) (h0:(inv g0 R0).P W w)
    (h:∀g ρ' w,(inv g R0).P W w->CodeE P n b (thenK (fun ρ'' w'=>∃g',(inv g' R0).m<(inv g R0).m/\KeepAt ρ'' (inv g' R0).sl ρ fr/\(inv g' R0).P W w') K) (upds ρ' ((inv g R0).sl++keep ρ fr)) w) (ha:AllAt ρ (inv g0 R0).sl:=by exact alA):CodeE P n (.loop b) K ρ w:=
  loopE (fun g ρ' w=>AllAt ρ' ((inv g R0).sl++keep ρ fr)/\(inv g R0).P W w) (fun g=>(inv g R0).m) g0 ⟨all_app ha (keep_at ρ fr),h0⟩ fun g ρ' w hI=>cAnchor hI.1 fun ρ'=>(h g ρ' w hI.2).mono fun e ρ w hk=>by
    cases e with
    |normal=>obtain ⟨g',h1,h2,h3⟩:=hk;exact ⟨g',h1,h2.all,h3⟩
    |_=>exact hk
theorem cutB {x y:Code} (hS:Sat W w0 cs0) (k:Nat) (fr:List Nat) (inv:γ->List Chunk->LI) (h:CodeE P n x (thenK (fun ρ' w=>∃g,KeepAt ρ' (inv g R0).sl ρ fr/\(inv g R0).P W w) K) ρ w)
    (h2:∀g ρ' w,(inv g R0).P W w->CodeE P n y K (upds ρ' ((inv g R0).sl++keep ρ fr)) w) (hR:Tl k cs0 R0:=by repeat constructor):CodeE P n (.seq x y) K ρ w:=
  cutE (fun ρ' w=>∃g,KeepAt ρ' (inv g R0).sl ρ fr/\(inv g R0).P W w) h fun ρ' w ⟨g,ha,hi⟩=>cAnchor ha.all fun ρ'=>h2 g ρ' w hi
end
theorem lA (hS:Sat W w cs) (i off k:Nat) {t:TypeId} {x:Operand} {b:Nat} {c:Array Value} {E:TypeId} {f:Nat×Nat} (hag:(isAgg t).run P w= .ok true w) (hsz:(sizeOf t).run P w= .ok k w) (h:OpsE P n ops rest N (put ρ o.dst (.agg ((c.toList.drop off).take k).toArray)) w)
    (ho:o.op= .load t x:=by rfl) (hg:o.guard=none:=by rfl) (hd:dstOK n o.dst=true:=by rfl) (hi:cs[i]?=some [(b, .cells c E f)]:=by rfl) (hx:ev ρ x= .pointer (some ⟨b,off,none⟩):=by kernel_rfl)
    (hk:((c.toList.drop off).take k).length=k:=by kernel_rfl):OpsE P n ops (o::rest) N ρ w:=
  sLA hS i off _ hag hsz h ho hg hd hi hx hk (by rw [hk])
theorem tW (hS:Sat W w cs) (i off:Nat) (v:Value) {t:TypeId} {x y:Operand} {b k:Nat} {c:Array Value} {E:TypeId} (hsz:∀w,(sizeOf t).run P w= .ok k w)
    (h:∀w',Sat W w' (cs.set i [(b, .cells (wr c off v.cells.toList) E (0,0))])->OpsE P n ops rest N ρ w')
    (ho:o.op= .store t x y:=by rfl) (hg:o.guard=none:=by rfl) (hd:o.dst=none:=by rfl) (hi:cs[i]?=some [(b, .cells c E (0,0))]:=by rfl)
    (hx:ev ρ x= .pointer (some ⟨b,off,none⟩):=by kernel_rfl) (hy:ev ρ y=v:=by kernel_rfl) (hk:v.cells.toList.length=k:=by kernel_rfl)
    (h1:v.cells.toList.all (·.oneCell')=true:=by kernel_rfl) (hfit:Nat.ble (off+v.cells.toList.length) c.size=true:=by kernel_rfl):OpsE P n ops (o::rest) N ρ w:=
  sT2 hS i off v hsz h ho hg hd hi hx hy hk h1 hfit
theorem wY {E:List Nat} {L:Facts} {s:Sched} {listed:Array Bool} {i:Nat} {o:Oper} (v:Value) (hi:ops[i]?=some o) (hy:∀w,factOf L i w->Yields P ρ o v w) (h:walkE P n ops E L N (flat s) (listed.setIfInBounds i true) (put ρ o.dst v) w) (hd:dstOK n o.dst=true:=by rfl) (hg:guardP ops n ρ o.guard=some true:=by kernel_rfl):walkE P n ops E L N (flat ((true,[i])::s)) listed ρ w:=by
  refine ⟨o,v,hi,hd,?_,h⟩
  cases hq:o.guard with
  |none=>exact .inl ⟨hq,hy⟩
  |some g=>obtain ⟨j,b⟩:=g;rw [hq] at hg;exact .inr (.inl ⟨j,b,hq,guardP_yes hg,hy⟩)
theorem wAdd {E:List Nat} {L:Facts} {s:Sched} {listed:Array Bool} {i:Nat} {o:Oper} (a b:Int) {t u:TypeId} {x y:Operand} (h:walkE P n ops E L N (flat s) (listed.setIfInBounds i true) (put ρ o.dst (.int .i64 (a+b))) w) (hr:-9223372036854775808<=a+b/\a+b<=9223372036854775807:=by omega) (hi:ops[i]?=some o:=by rfl) (ho:o.op= .binOp .add t x y u:=by rfl) (hd:dstOK n o.dst=true:=by rfl) (hg:guardP ops n ρ o.guard=some true:=by kernel_rfl) (hx:ev ρ x= .int .i64 a:=by kernel_rfl) (hy:ev ρ y= .int .i64 b:=by kernel_rfl):walkE P n ops E L N (flat ((true,[i])::s)) listed ρ w:=wY _ hi (fun _ _=>Y_add ho hx hy hr) h hd hg
theorem wSub {E:List Nat} {L:Facts} {s:Sched} {listed:Array Bool} {i:Nat} {o:Oper} (a b:Int) {t u:TypeId} {x y:Operand} (h:walkE P n ops E L N (flat s) (listed.setIfInBounds i true) (put ρ o.dst (.int .i64 (a-b))) w) (hr:-9223372036854775808<=a-b/\a-b<=9223372036854775807:=by omega) (hi:ops[i]?=some o:=by rfl) (ho:o.op= .binOp .sub t x y u:=by rfl) (hd:dstOK n o.dst=true:=by rfl) (hg:guardP ops n ρ o.guard=some true:=by kernel_rfl) (hx:ev ρ x= .int .i64 a:=by kernel_rfl) (hy:ev ρ y= .int .i64 b:=by kernel_rfl):walkE P n ops E L N (flat ((true,[i])::s)) listed ρ w:=wY _ hi (fun _ _=>Y_sub ho hx hy hr) h hd hg
theorem wLd {E:List Nat} {L:Facts} {s:Sched} {listed:Array Bool} {i:Nat} {o:Oper} (v:Value) (k:Nat) {t:TypeId} {x:Operand} {a:Addr} (hag:∀w,(isAgg t).run P w= .ok false w) (h:walkE P n ops E L N (flat s) (listed.setIfInBounds i true) (put ρ o.dst v) w) (hi:ops[i]?=some o:=by rfl) (hk:L[k]?=some (i,a,v):=by rfl) (ho:o.op= .load t x:=by rfl) (hd:dstOK n o.dst=true:=by rfl) (hg:guardP ops n ρ o.guard=some true:=by kernel_rfl) (hx:ev ρ x= .pointer (some a):=by kernel_rfl):walkE P n ops E L N (flat ((true,[i])::s)) listed ρ w:=wY _ hi (fun w hF=>Y_load ho (hag w) hx (hF k _ _ hk)) h hd hg
theorem qY {E:List Nat} {L:Facts} {s:Plan} {listed:Array Bool} {i:Nat} {o:Oper} (v:Value) (hi:ops[i]?=some o) (hy:∀w,factOf L i w->Yields P ρ o v w) (h:walkP P n ops E L N s (listed.setIfInBounds i true) (put ρ o.dst v) w) (hd:dstOK n o.dst=true:=by rfl) (hg:guardP ops n ρ o.guard=some true:=by kernel_rfl):walkP P n ops E L N (.st i s) listed ρ w:=by
  refine ⟨o,v,hi,hd,?_,h⟩
  cases hq:o.guard with
  |none=>exact .inl ⟨hq,hy⟩
  |some g=>obtain ⟨j,b⟩:=g;rw [hq] at hg;exact .inr (.inl ⟨j,b,hq,guardP_yes hg,hy⟩)
theorem qLd {E:List Nat} {L:Facts} {s:Plan} {listed:Array Bool} {i:Nat} {o:Oper} (v:Value) (k:Nat) {t:TypeId} {x:Operand} {a:Addr} (hag:∀w,(isAgg t).run P w= .ok false w) (h:walkP P n ops E L N s (listed.setIfInBounds i true) (put ρ o.dst v) w) (hi:ops[i]?=some o:=by rfl) (hk:L[k]?=some (i,a,v):=by rfl) (ho:o.op= .load t x:=by rfl) (hd:dstOK n o.dst=true:=by rfl) (hg:guardP ops n ρ o.guard=some true:=by kernel_rfl) (hx:ev ρ x= .pointer (some a):=by kernel_rfl):walkP P n ops E L N (.st i s) listed ρ w:=qY _ hi (fun w hF=>Y_load ho (hag w) hx (hF k _ _ hk)) h hd hg
theorem callsA (n:Nat) {f:FuncId} {fn:Func} {b:Code} {args:Array Value} {R:Ending->World->Prop} (hf:P.funcs[f]?=some fn) (hb:fn.body=some b) (h:CodeE P n b (retK P fn R) (rho0 args) w) (hn:fn.ntmps=n:=by rfl) (hs:Nat.ble args.size n=true:=by rfl):Calls P f args w R:=
  callsE hf hb hn (Nat.le_of_ble_eq_true hs) h
theorem set_at {α:Type} {l:List α} {k:Nat} {x y:α} (h:l[k]?=some x):(l.set k y)[k]?=some y:=by
  have hl:k<l.length:=(List.getElem?_eq_some_iff.1 h).1
  simp [hl]
theorem OwnT.ptr {α:Type} {enc:α->List Value} {E sz:Nat} {a:Option Addr} {len cap k b off:Nat} {xs:List α} {c:Chunk} {x:α} (hO:OwnT enc E sz a len cap xs c) (hq:a=some ⟨b,off,none⟩) (hx:xs[k]?=some x):PtR [c] b (off+k*sz) (enc x):=by
  have hk:k<len:=by rw [<-hO.1];exact (List.getElem?_eq_some_iff.1 hx).1
  obtain ⟨y,b',o',hy,hp,_,ha⟩:=OwnT.elem hO ((k:Nat):Int) (by omega) (by omega)
  rw [hq] at ha
  simp only [Option.some.injEq,Addr.mk.injEq,and_true] at ha
  obtain ⟨rfl,rfl⟩:=ha
  rw [Int.toNat_natCast] at hy hp
  rw [hx] at hy;cases hy
  exact hp
end
end Go.E
