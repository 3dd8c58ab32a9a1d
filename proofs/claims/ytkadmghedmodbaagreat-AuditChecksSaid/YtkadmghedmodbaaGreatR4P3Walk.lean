import Derived.OpenShut
import Derived.Deep.Slices
import Derived.ChangeSame
import Derived.Deep.Fields
import Derived.Laws.BytesString
import Derived.Laws.Shifts
import Derived.Laws.IdiomStrings
import Derived.Test.YtkadmghedmodbaaGreatR4P3Base
set_option linter.all false
namespace Go.E
def encI (x:Int):List Value:=[.int .i64 x]
section
variable {P:Program} {n:Nat} {ρ:Env} {W w:World} {cs:List Chunk} {ops:Array Oper} {rest:List Oper} {N:Env->World->Prop} {o:Oper}
def RdT {α:Type} (enc:α->List Value) (sz:Nat) (cs:List Chunk) (a:Option Addr) (n cap:Nat) (xs:List α):Prop:=
  xs.length=n/\(∀x,(enc x).length=sz)/\RdS cs sz a n cap (xs.flatMap enc)
def OwnT {α:Type} (enc:α->List Value) (E sz:Nat) (a:Option Addr) (n cap:Nat) (xs:List α) (c:Chunk):Prop:=
  xs.length=n/\(∀x,(enc x).length=sz)/\OwnS E sz a n cap (xs.flatMap enc) c
theorem flatMap_at {α:Type} {enc:α->List Value} {sz:Nat} (he:∀x,(enc x).length=sz):∀(xs:List α) (i:Nat) (x:α),xs[i]?=some x->((xs.flatMap enc).drop (i*sz)).take sz=enc x
  |[],i,x,h=>by simp at h
  |y::ys,0,x,h=>by
    simp at h
    subst h
    simp only [List.flatMap_cons,Nat.zero_mul,List.drop_zero]
    rw [<-he y]
    exact List.take_left
  |y::ys,i+1,x,h=>by
    simp only [List.flatMap_cons]
    rw [show (i+1)*sz=(enc y).length+i*sz by rw [he,Nat.add_mul];omega,List.drop_append]
    rw [List.drop_eq_nil_of_le (by omega)]
    simp only [List.nil_append,Nat.add_sub_cancel_left]
    exact flatMap_at he ys i x (by simpa using h)
theorem flatMap_len {α:Type} {enc:α->List Value} {sz:Nat} (he:∀x,(enc x).length=sz) (xs:List α):(xs.flatMap enc).length=xs.length*sz:=by
  induction xs with
  |nil=>simp
  |cons x xs ih=>simp [he,ih,Nat.add_mul];omega
theorem flatMap_part {α:Type} {enc:α->List Value} {sz:Nat} (he:∀x,(enc x).length=sz):∀(xs:List α) (i:Nat),(xs.flatMap enc).drop (i*sz)=(xs.drop i).flatMap enc
  |[],i=>by simp
  |y::ys,0=>by simp
  |y::ys,i+1=>by
    simp only [List.flatMap_cons,List.drop_succ_cons]
    rw [show (i+1)*sz=(enc y).length+i*sz by rw [he,Nat.add_mul];omega,List.drop_append,List.drop_eq_nil_of_le (by omega)]
    simp only [List.nil_append,Nat.add_sub_cancel_left]
    exact flatMap_part he ys i
theorem flatMap_take {α:Type} {enc:α->List Value} {sz:Nat} (he:∀x,(enc x).length=sz):∀(xs:List α) (i:Nat),(xs.flatMap enc).take (i*sz)=(xs.take i).flatMap enc
  |[],i=>by simp
  |y::ys,0=>by simp
  |y::ys,i+1=>by
    simp only [List.flatMap_cons,List.take_succ_cons]
    rw [show (i+1)*sz=(enc y).length+i*sz by rw [he,Nat.add_mul];omega,List.take_append,List.take_of_length_le (by omega)]
    simp only [Nat.add_sub_cancel_left]
    rw [flatMap_take he ys i]
theorem RdT.of_mem {α:Type} {enc:α->List Value} {sz:Nat} {cs':List Chunk} {a:Option Addr} {n cap:Nat} {xs:List α} (hp:RdT enc sz cs a n cap xs) (h:∀p∈cs.flatten,p∈cs'.flatten):RdT enc sz cs' a n cap xs:=
  ⟨hp.1,hp.2.1,hp.2.2.of_mem h⟩
theorem RdT.len {α:Type} {enc:α->List Value} {sz:Nat} {a:Option Addr} {n cap:Nat} {xs:List α} (hp:RdT enc sz cs a n cap xs):xs.length=n:=hp.1
theorem RdT.le {α:Type} {enc:α->List Value} {sz:Nat} {a:Option Addr} {n cap:Nat} {xs:List α} (hp:RdT enc sz cs a n cap xs):n<=cap/\cap<=9223372036854775807:=by
  have:=hp.2.2.2.2.1;simp only [maxLen] at this;exact ⟨hp.2.2.2.1,by omega⟩
theorem RdT.nil {α:Type} {enc:α->List Value} {sz:Nat} (he:∀x,(enc x).length=sz) (cs:List Chunk):RdT enc sz cs none 0 0 []:=⟨rfl,he,RdS.nil cs sz none 0 (by simp [maxLen])⟩
theorem RdT.part {α:Type} {enc:α->List Value} {sz:Nat} {a:Option Addr} {len cap lo hi:Nat} {xs:List α} (h:RdT enc sz cs a len cap xs) (h1:lo<=hi) (h2:hi<=len):
    RdT enc sz cs (partAddr a cap lo sz) (hi-lo) (cap-lo) ((xs.drop lo).take (hi-lo)):=by
  refine ⟨by simp [h.1];omega,h.2.1,?_⟩
  rw [<-flatMap_take h.2.1,<-flatMap_part h.2.1]
  exact h.2.2.part h1 h2
theorem OwnT.len {α:Type} {enc:α->List Value} {E sz:Nat} {a:Option Addr} {n cap:Nat} {xs:List α} {c:Chunk} (hp:OwnT enc E sz a n cap xs c):xs.length=n:=hp.1
theorem OwnT.le {α:Type} {enc:α->List Value} {E sz:Nat} {a:Option Addr} {n cap:Nat} {xs:List α} {c:Chunk} (hp:OwnT enc E sz a n cap xs c):n<=cap/\cap<=9223372036854775807:=by
  have:=hp.2.2.cap_le;simp only [maxLen] at this;omega
theorem OwnT.nil {α:Type} {enc:α->List Value} {E sz:Nat} (he:∀x,(enc x).length=sz):OwnT enc E sz none 0 0 [] []:=⟨rfl,he,OwnS.nil E sz⟩
theorem OwnT.rd {α:Type} {enc:α->List Value} {E sz:Nat} {a:Option Addr} {n cap:Nat} {xs:List α} {c:Chunk} (hp:OwnT enc E sz a n cap xs c) (hm:∀p∈c,p∈cs.flatten):RdT enc sz cs a n cap xs:=
  ⟨hp.1,hp.2.1,hp.2.2.rd hm⟩
theorem OwnT.rdAt {α:Type} {enc:α->List Value} {E sz:Nat} {a:Option Addr} {n cap:Nat} {xs:List α} {c:Chunk} (hp:OwnT enc E sz a n cap xs c) (i:Nat) (hi:cs[i]?=some c):RdT enc sz cs a n cap xs:=
  hp.rd fun _ h=>mem_in i hi h
theorem OwnT.part {α:Type} {enc:α->List Value} {E sz:Nat} {a:Option Addr} {len cap lo hi:Nat} {xs:List α} {c:Chunk} (h:OwnT enc E sz a len cap xs c) (h1:lo<=hi) (h2:hi<=len):
    OwnT enc E sz (partAddr a cap lo sz) (hi-lo) (cap-lo) ((xs.drop lo).take (hi-lo)) c:=by
  refine ⟨by simp [h.1];omega,h.2.1,?_⟩
  rw [<-flatMap_take h.2.1,<-flatMap_part h.2.1]
  exact h.2.2.part h1 h2
theorem mem_up {c:Chunk} (i:Nat) (hi:cs[i]?=some c):∀p∈[c].flatten,p∈cs.flatten:=fun p hp=>mem_in i hi (by simpa using hp)
theorem PtR.up {c:Chunk} {b off:Nat} {l:List Value} (h:PtR [c] b off l) (i:Nat) (hi:cs[i]?=some c):PtR cs b off l:=h.of_mem (mem_up i hi)
theorem RdT.up {α:Type} {enc:α->List Value} {sz:Nat} {c:Chunk} {a:Option Addr} {n cap:Nat} {xs:List α} (h:RdT enc sz [c] a n cap xs) (i:Nat) (hi:cs[i]?=some c):RdT enc sz cs a n cap xs:=h.of_mem (mem_up i hi)
theorem OwnT.blk {α:Type} {enc:α->List Value} {sz b:Nat} {c:Array Value} {E:TypeId} {xs:List α} (he:∀x,(enc x).length=sz) (k:Nat) (hc:c.toList=xs.flatMap enc) (hk:xs.length=k) (hs:c.size=k*sz) (hm:k<=16777216):
    OwnT enc E sz (some ⟨b,0,none⟩) k k xs [(b, .cells c E (0,0))]:=
  ⟨hk,he,by rw [flatMap_len he,hk], .inr ⟨b,0,c,rfl,rfl,Nat.le_refl _,by simp only [maxLen];omega,by omega,by rw [<-hs,<-hc];simp only [List.drop_zero];exact List.take_of_length_le (by simp)⟩⟩
theorem Y_eqS {op:BinOp} {t u:TypeId} {x y:Operand} {a b v:Value} (ho:o.op= .binOp op t x y u) (hx:ev ρ x=a) (hy:ev ρ y=b)
    (hr:∀x y,((do eqGuard op t x y a b;binOp op t a b):Sem Value).run P w= .ok v w):Yields P ρ o v w:=by
  have h:=hr x y
  unfold Yields execOp
  rw [ho]
  simp only [hx,hy]
  simp only [Sem.run_bind] at h⊢
  cases hg:(eqGuard op t x y a b).run P w with
  |ok u w1=>
    rw [hg] at h
    simp only [Result.andThen_ok] at h⊢
    rw [h]
    simp
  |halt e w1=>rw [hg] at h;simp at h
theorem sAdd (a b:Int) {t u:TypeId} {x y:Operand} (h:OpsE P n ops rest N (put ρ o.dst (.int .i64 (a+b))) w) (hr:-9223372036854775808<=a+b/\a+b<=9223372036854775807:=by omega)
    (ho:o.op= .binOp .add t x y u:=by rfl) (hg:o.guard=none:=by rfl) (hd:dstOK n o.dst=true:=by rfl) (hx:ev ρ x= .int .i64 a:=by kernel_rfl) (hy:ev ρ y= .int .i64 b:=by kernel_rfl):
    OpsE P n ops (o::rest) N ρ w:=stepY _ hg hd (Y_add ho hx hy hr) h
theorem sSub (a b:Int) {t u:TypeId} {x y:Operand} (h:OpsE P n ops rest N (put ρ o.dst (.int .i64 (a-b))) w) (hr:-9223372036854775808<=a-b/\a-b<=9223372036854775807:=by omega)
    (ho:o.op= .binOp .sub t x y u:=by rfl) (hg:o.guard=none:=by rfl) (hd:dstOK n o.dst=true:=by rfl) (hx:ev ρ x= .int .i64 a:=by kernel_rfl) (hy:ev ρ y= .int .i64 b:=by kernel_rfl):
    OpsE P n ops (o::rest) N ρ w:=stepY _ hg hd (Y_sub ho hx hy hr) h
theorem sMul (a b:Int) {t u:TypeId} {x y:Operand} (h:OpsE P n ops rest N (put ρ o.dst (.int .i64 (a*b))) w) (hr:-9223372036854775808<=a*b/\a*b<=9223372036854775807:=by omega)
    (ho:o.op= .binOp .mul t x y u:=by rfl) (hg:o.guard=none:=by rfl) (hd:dstOK n o.dst=true:=by rfl) (hx:ev ρ x= .int .i64 a:=by kernel_rfl) (hy:ev ρ y= .int .i64 b:=by kernel_rfl):
    OpsE P n ops (o::rest) N ρ w:=stepY _ hg hd (Y_mul ho hx hy hr) h
theorem sRem (a b:Int) {t u:TypeId} {x y:Operand} (h:OpsE P n ops rest N (put ρ o.dst (.int .i64 (a.tmod b))) w) (hb:b≠0:=by omega)
    (ho:o.op= .binOp .rem t x y u:=by rfl) (hg:o.guard=none:=by rfl) (hd:dstOK n o.dst=true:=by rfl) (hx:ev ρ x= .int .i64 a:=by kernel_rfl) (hy:ev ρ y= .int .i64 b:=by kernel_rfl):
    OpsE P n ops (o::rest) N ρ w:=stepY _ hg hd (Y_rem ho hx hy hb) h
theorem sQuo (a b:Int) {t u:TypeId} {x y:Operand} (h:OpsE P n ops rest N (put ρ o.dst (.int .i64 (a.tdiv b))) w) (hb:0<b:=by omega) (hr:-9223372036854775808<=a/\a<=9223372036854775807:=by omega)
    (ho:o.op= .binOp .quo t x y u:=by rfl) (hg:o.guard=none:=by rfl) (hd:dstOK n o.dst=true:=by rfl) (hx:ev ρ x= .int .i64 a:=by kernel_rfl) (hy:ev ρ y= .int .i64 b:=by kernel_rfl):
    OpsE P n ops (o::rest) N ρ w:=stepY _ hg hd (Y_quo ho hx hy hb hr) h
theorem sL (hS:Sat W w cs) (i off:Nat) (v:Value) {t:TypeId} {x:Operand} {b:Nat} {c:Array Value} {E:TypeId} {f:Nat×Nat} (hag:(isAgg t).run P w= .ok false w) (h:OpsE P n ops rest N (put ρ o.dst v) w)
    (ho:o.op= .load t x:=by rfl) (hg:o.guard=none:=by rfl) (hd:dstOK n o.dst=true:=by rfl) (hi:cs[i]?=some [(b, .cells c E f)]:=by rfl) (hx:ev ρ x= .pointer (some ⟨b,off,none⟩):=by kernel_rfl) (hv:c[off]?=some v:=by kernel_rfl):
    OpsE P n ops (o::rest) N ρ w:=stepY v hg hd (Y_load ho hag hx (hS.cell i hi hv)) h
theorem sLA (hS:Sat W w cs) (i off:Nat) (vs:List Value) {t:TypeId} {x:Operand} {b k:Nat} {c:Array Value} {E:TypeId} {f:Nat×Nat} (hag:(isAgg t).run P w= .ok true w) (hsz:(sizeOf t).run P w= .ok k w) (h:OpsE P n ops rest N (put ρ o.dst (.agg vs.toArray)) w)
    (ho:o.op= .load t x:=by rfl) (hg:o.guard=none:=by rfl) (hd:dstOK n o.dst=true:=by rfl) (hi:cs[i]?=some [(b, .cells c E f)]:=by rfl) (hx:ev ρ x= .pointer (some ⟨b,off,none⟩):=by kernel_rfl) (hk:vs.length=k:=by kernel_rfl)
    (hv:(c.toList.drop off).take vs.length=vs:=by kernel_rfl):
    OpsE P n ops (o::rest) N ρ w:=stepY _ hg hd (Y_loadA ho hag hsz hx hk hS (PtR.blk i hi hv)) h
theorem sLp (hS:Sat W w cs) {b off:Nat} {l:List Value} (hp:PtR cs b off l) (k:Nat) (v:Value) {t:TypeId} {x:Operand} (hag:(isAgg t).run P w= .ok false w) (h:OpsE P n ops rest N (put ρ o.dst v) w)
    (ho:o.op= .load t x:=by rfl) (hg:o.guard=none:=by rfl) (hd:dstOK n o.dst=true:=by rfl) (hx:ev ρ x= .pointer (some ⟨b,off+k,none⟩):=by kernel_rfl) (hv:l[k]?=some v:=by kernel_rfl):
    OpsE P n ops (o::rest) N ρ w:=stepY v hg hd (Y_load ho hag hx (hp.cell hS hv)) h
theorem sLpA (hS:Sat W w cs) {b off:Nat} {l:List Value} (hp:PtR cs b off l) (i:Nat) (vs:List Value) {t:TypeId} {x:Operand} {k:Nat} (hag:(isAgg t).run P w= .ok true w) (hsz:(sizeOf t).run P w= .ok k w) (h:OpsE P n ops rest N (put ρ o.dst (.agg vs.toArray)) w)
    (ho:o.op= .load t x:=by rfl) (hg:o.guard=none:=by rfl) (hd:dstOK n o.dst=true:=by rfl) (hx:ev ρ x= .pointer (some ⟨b,off+i,none⟩):=by kernel_rfl) (hk:vs.length=k:=by kernel_rfl) (hle:Nat.ble (i+vs.length) l.length=true:=by kernel_rfl)
    (hv:(l.drop i).take vs.length=vs:=by kernel_rfl):
    OpsE P n ops (o::rest) N ρ w:=stepY _ hg hd (Y_loadA ho hag hsz hx hk hS (hv▸hp.sub i vs.length (Nat.le_of_ble_eq_true hle))) h
theorem sT (hS:Sat W w cs) (i off:Nat) (v:Value) (vs:List Value) (c':Array Value) {t:TypeId} {x y:Operand} {b k:Nat} {c:Array Value} {E:TypeId} (hsz:∀w,(sizeOf t).run P w= .ok k w)
    (h:∀w',Sat W w' (cs.set i [(b, .cells c' E (0,0))])->OpsE P n ops rest N ρ w')
    (ho:o.op= .store t x y:=by rfl) (hg:o.guard=none:=by rfl) (hd:o.dst=none:=by rfl) (hi:cs[i]?=some [(b, .cells c E (0,0))]:=by rfl)
    (hx:ev ρ x= .pointer (some ⟨b,off,none⟩):=by kernel_rfl) (hy:ev ρ y=v:=by kernel_rfl) (hv:v.cells.toList=vs:=by kernel_rfl) (hk:vs.length=k:=by kernel_rfl)
    (h1:vs.all (·.oneCell')=true:=by kernel_rfl) (hfit:Nat.ble (off+vs.length) c.size=true:=by kernel_rfl) (hc':wr c off vs=c':=by kernel_rfl):OpsE P n ops (o::rest) N ρ w:=
  stepStore ho hg hd hsz hx hy hv hk (fun u hu=>List.all_eq_true.1 h1 u hu) hS i hi (Nat.le_of_ble_eq_true hfit) c' hc' h
theorem sT2 (hS:Sat W w cs) (i off:Nat) (v:Value) {t:TypeId} {x y:Operand} {b k:Nat} {c:Array Value} {E:TypeId} (hsz:∀w,(sizeOf t).run P w= .ok k w)
    (h:∀w',Sat W w' (cs.set i [(b, .cells (wr c off v.cells.toList) E (0,0))])->OpsE P n ops rest N ρ w')
    (ho:o.op= .store t x y:=by rfl) (hg:o.guard=none:=by rfl) (hd:o.dst=none:=by rfl) (hi:cs[i]?=some [(b, .cells c E (0,0))]:=by rfl)
    (hx:ev ρ x= .pointer (some ⟨b,off,none⟩):=by kernel_rfl) (hy:ev ρ y=v:=by kernel_rfl) (hk:v.cells.toList.length=k:=by kernel_rfl)
    (h1:v.cells.toList.all (·.oneCell')=true:=by kernel_rfl) (hfit:Nat.ble (off+v.cells.toList.length) c.size=true:=by kernel_rfl):OpsE P n ops (o::rest) N ρ w:=
  stepStore ho hg hd hsz hx hy rfl hk (fun u hu=>List.all_eq_true.1 h1 u hu) hS i hi (Nat.le_of_ble_eq_true hfit) _ rfl h
theorem sAlloc (hS:Sat W w cs) {t:TypeId} {z:Value} (hz:∀w,(zeroValue t).run P w= .ok z w) (h:∀b w',Sat W w' ([(b, .cells z.cells t (0,0))]::cs)->OpsE P n ops rest N (put ρ o.dst (.pointer (some ⟨b,0,none⟩))) w')
    (ho:o.op= .alloc t:=by rfl) (hg:o.guard=none:=by rfl) (hd:dstOK n o.dst=true:=by rfl):OpsE P n ops (o::rest) N ρ w:=stepAlloc ho hg hd hz hS h
theorem sBox (hS:Sat W w cs) (v:Value) (c:Array Value) {t:TypeId} {x:Operand} (h:∀b w',Sat W w' ([(b, .cells c t (0,0))]::cs)->OpsE P n ops rest N (put ρ o.dst (.pointer (some ⟨b,0,none⟩))) w')
    (ho:o.op= .box t x:=by rfl) (hg:o.guard=none:=by rfl) (hd:dstOK n o.dst=true:=by rfl) (hx:ev ρ x=v:=by kernel_rfl) (hc:v.cells=c:=by kernel_rfl):OpsE P n ops (o::rest) N ρ w:=stepBox c ho hg hd hx hc hS h
theorem sBS (hS:Sat W w cs) (c:Array Value) {t E:TypeId} {len sz:Nat} {parts:Array (Nat×Operand)} {z:Value}
    (hu:∀w,(underlying t).run P w= .ok (.slice E) w) (hsz:∀w,(sizeOf E).run P w= .ok sz w) (hz:∀w,(zeroValue E).run P w= .ok z w)
    (h:∀b w',Sat W w' ([(b, .cells c E (0,0))]::cs)->OpsE P n ops rest N (put ρ o.dst (.slice (some ⟨b,0,none⟩) len len)) w')
    (ho:o.op= .buildSlice t len parts:=by rfl) (hg:o.guard=none:=by rfl) (hd:dstOK n o.dst=true:=by rfl) (hlim:Nat.ble (len*sz) (2^24)=true:=by kernel_rfl)
    (hf:Instr.fill (fun i=>some (i*sz,sz)) ((Array.range (len*sz)).map ((if len*sz=0 then #[] else z.cells)[·%(if len*sz=0 then #[] else z.cells).size]!)) (parts.map fun (i,x)=>(i,ev ρ x)).toList=some c:=by kernel_rfl):
    OpsE P n ops (o::rest) N ρ w:=stepBuildSlice c ho hg hd hu hsz hz hlim hf hS h
theorem sF {f:FuncId} {xs:Array Operand} {ats:Array TypeId} (args:Array Value) (hc:∀args w,(callFunc f args).run P w= .ok (.enter f args) w) (h:Calls P f args w fun e w'=>∃v,e= .returned v/\OpsE P n ops rest N (put ρ o.dst v) w')
    (ho:o.op= .call {callee:= .value (.func f),args:=xs,argTypes:=ats}:=by rfl) (hg:o.guard=none:=by rfl) (hd:dstOK n o.dst=true:=by rfl) (hargs:xs.map (ev ρ)=args:=by kernel_rfl):
    OpsE P n ops (o::rest) N ρ w:=stepF ho hg hd hc hargs h
theorem sIdx {α:Type} {enc:α->List Value} {sz:Nat} {a:Option Addr} {len cap:Nat} {xs:List α} (hR:RdT enc sz cs a len cap xs) (i:Int) {t E:TypeId} {x y:Operand}
    (hu:∀w,(underlying t).run P w= .ok (.slice E) w) (hsz:∀w,(sizeOf E).run P w= .ok sz w)
    (h:∀x b off,xs[i.toNat]?=some x->PtR cs b off (enc x)->OpsE P n ops rest N (put ρ o.dst (.pointer (some ⟨b,off,none⟩))) w) (h0:0<=i:=by omega) (h1:i<len:=by first|omega|decide)
    (ho:o.op= .indexAddr t x y:=by rfl) (hg:o.guard=none:=by rfl) (hd:dstOK n o.dst=true:=by rfl) (hx:ev ρ x= .slice a len cap:=by kernel_rfl) (hy:ev ρ y= .int .i64 i:=by kernel_rfl):OpsE P n ops (o::rest) N ρ w:=by
  have hl:i.toNat<xs.length:=by rw [hR.1];omega
  refine stepIdx ho hg hd hu hsz hx hy hR.2.2 h0 h1 fun b off hp=>h xs[i.toNat] b off (by simp [hl]) ?_
  rw [flatMap_at hR.2.1 xs i.toNat xs[i.toNat] (by simp [hl])] at hp
  exact hp
theorem sIdxO {α:Type} {enc:α->List Value} {E sz:Nat} {a:Option Addr} {len cap:Nat} {xs:List α} {c:Chunk} (hO:OwnT enc E sz a len cap xs c) (i:Int) (k:Nat) {t:TypeId} {x y:Operand}
    (hu:∀w,(underlying t).run P w= .ok (.slice E) w) (hsz:∀w,(sizeOf E).run P w= .ok sz w)
    (h:∀x b off,xs[k]?=some x->PtR [c] b (off+k*sz) (enc x)->a=some ⟨b,off,none⟩->OpsE P n ops rest N (put ρ o.dst (.pointer (some ⟨b,off+k*sz,none⟩))) w) (h0:0<=i:=by omega) (h1:i<len:=by first|omega|decide)
    (ho:o.op= .indexAddr t x y:=by rfl) (hg:o.guard=none:=by rfl) (hd:dstOK n o.dst=true:=by rfl) (hx:ev ρ x= .slice a len cap:=by kernel_rfl) (hy:ev ρ y= .int .i64 i:=by kernel_rfl) (hk:i.toNat=k:=by first|rfl|omega):OpsE P n ops (o::rest) N ρ w:=by
  subst hk
  have hl:i.toNat<xs.length:=by rw [hO.1];omega
  have hR:RdT enc sz [c] a len cap xs:=hO.rdAt 0 rfl
  refine stepIdxOwn ho hg hd hu hsz hx hy hO.2.2 h0 h1 fun b off hq=>h xs[i.toNat] b off (by simp [hl]) ?_ hq
  obtain ⟨h1',hsz',hll,hc,hm,hr⟩:=hR
  have hlt:i.toNat+1<=len:=by omega
  have hms:(i.toNat+1)*sz<=len*sz:=Nat.mul_le_mul_right _ hlt
  rw [Nat.add_mul,Nat.one_mul] at hms
  rcases hr with hr|⟨b',off',he,hp⟩
  · omega
  · rw [hq] at he
    simp only [Option.some.injEq,Addr.mk.injEq,and_true] at he
    obtain ⟨rfl,rfl⟩:=he
    have:=hp.sub (i.toNat*sz) sz (by omega)
    rw [flatMap_at hsz' xs i.toNat xs[i.toNat] (by simp [hl])] at this
    exact this
theorem wrL_flat {α:Type} {enc:α->List Value} {sz:Nat} (he:∀x,(enc x).length=sz) {k:Nat} {vs:List Value} (hk:k+vs.length<=sz):∀(xs:List α) (i:Nat) (x x':α),xs[i]?=some x->wrL (enc x) k vs=enc x'->
    wrL (xs.flatMap enc) (i*sz+k) vs=(xs.set i x').flatMap enc
  |[],i,x,x',h,_=>by simp at h
  |y::ys,0,x,x',h,hw=>by
    simp at h
    subst h
    simp only [List.flatMap_cons,List.set_cons_zero,Nat.zero_mul,Nat.zero_add,<-hw,wrL]
    have hy:=he y
    rw [List.take_append_of_le_length (by omega),List.drop_append_of_le_length (by omega)]
    simp only [List.append_assoc]
  |y::ys,i+1,x,x',h,hw=>by
    have ih:=wrL_flat he hk ys i x x' (by simpa using h) hw
    simp only [List.flatMap_cons,List.set_cons_succ,<-ih,wrL]
    have hy:=he y
    rw [show (i+1)*sz+k=(enc y).length+(i*sz+k) by rw [he,Nat.add_mul];omega,List.take_append,List.drop_append]
    rw [List.take_of_length_le (by omega),List.drop_eq_nil_of_le (by omega)]
    simp only [Nat.add_sub_cancel_left,List.nil_append,List.append_assoc]
    rw [show (enc y).length+(i*sz+k)+vs.length-(enc y).length=i*sz+k+vs.length by omega]
theorem sStF {α:Type} {enc:α->List Value} {E sz:Nat} {a:Option Addr} {m cap:Nat} {xs:List α} {c:Chunk} {b off:Nat} (hS:Sat W w cs) (hO:OwnT enc E sz a m cap xs c) (hq:a=some ⟨b,off,none⟩) (j i k:Nat) (x x':α) (hx:xs[i]?=some x) (v:Value) (vs:List Value)
    {t:TypeId} {px py:Operand} {q:Nat} (hsz:∀w,(sizeOf t).run P w= .ok q w)
    (h:∀w' c',OwnT enc E sz a m cap (xs.set i x') c'->Sat W w' (cs.set j c')->OpsE P n ops rest N ρ w')
    (ho:o.op= .store t px py:=by rfl) (hg:o.guard=none:=by rfl) (hd:o.dst=none:=by rfl) (hj:cs[j]?=some c:=by rfl)
    (hp:ev ρ px= .pointer (some ⟨b,off+i*sz+k,none⟩):=by kernel_rfl) (hv:ev ρ py=v:=by kernel_rfl) (hvs:v.cells.toList=vs:=by kernel_rfl) (hk:vs.length=q:=by kernel_rfl) (h1:vs.all (·.oneCell')=true:=by kernel_rfl)
    (hw:wrL (enc x) k vs=enc x':=by kernel_rfl) (hle:Nat.ble (k+vs.length) sz=true:=by kernel_rfl):OpsE P n ops (o::rest) N ρ w:=by
  subst hq
  have hle':=Nat.le_of_ble_eq_true hle
  have hil:i<xs.length:=(List.getElem?_eq_some_iff.1 hx).1
  have hms:(i+1)*sz<=m*sz:=Nat.mul_le_mul_right _ (by have:=hO.1;omega)
  rw [Nat.add_mul,Nat.one_mul] at hms
  refine stepStoreS (i:=i*sz+k) ho hg hd hsz hO.2.2 (by rw [hp,Nat.add_assoc]) hv hvs hk (fun u hu=>List.all_eq_true.1 h1 u hu) hS j hj (by omega) fun w' c' hO' hS'=>h w' c' ⟨by simp [hO.1],hO.2.1,?_⟩ hS'
  rw [<-wrL_flat hO.2.1 hle' xs i x x' hx hw]
  exact hO'
def bndOK:Option Int->Nat->Nat->Prop
  |none,d,l=>l=d
  |some i,_,l=>0<=i/\i.toNat=l
theorem Y_sl (li hi':Option Int) (l h:Nat) {t E:TypeId} {x:Operand} {lo hi mx:Option Operand} {a:Option Addr} {len cap sz:Nat} (hu:∀w,(underlying t).run P w= .ok (.slice E) w)
    (hsz:∀w,(sizeOf E).run P w= .ok sz w) (hlo:bndOK li 0 l) (hhi:bndOK hi' len h) (h1:l<=h) (h2:h<=cap)
    (ho:o.op= .slice t x lo hi mx:=by rfl) (hmx:mx=none:=by rfl) (hx:ev ρ x= .slice a len cap:=by kernel_rfl)
    (e1:lo.map (ev ρ)=li.map (Value.int .i64 ·):=by kernel_rfl) (e2:hi.map (ev ρ)=hi'.map (Value.int .i64 ·):=by kernel_rfl):Yields P ρ o (.slice (partAddr a cap l sz) (h-l) (cap-l)) w:=by
  refine Y_slice ho hmx hu hsz hx ?_ ?_ h1 h2
  · cases li with
    |none=>exact .inl ⟨e1,hlo⟩
    |some i=>exact .inr ⟨.i64,i,e1,hlo.2,hlo.1⟩
  · cases hi' with
    |none=>exact .inl ⟨e2,hhi⟩
    |some i=>exact .inr ⟨.i64,i,e2,hhi.2,hhi.1⟩
theorem sSl (li hi':Option Int) (l h:Nat) {t E:TypeId} {x:Operand} {lo hi mx:Option Operand} {a:Option Addr} {len cap sz:Nat} (hu:∀w,(underlying t).run P w= .ok (.slice E) w)
    (hsz:∀w,(sizeOf E).run P w= .ok sz w) (hlo:bndOK li 0 l) (hhi:bndOK hi' len h) (h1:l<=h) (h2:h<=cap) (hr:OpsE P n ops rest N (put ρ o.dst (.slice (partAddr a cap l sz) (h-l) (cap-l))) w)
    (ho:o.op= .slice t x lo hi mx:=by rfl) (hmx:mx=none:=by rfl) (hg:o.guard=none:=by rfl) (hd:dstOK n o.dst=true:=by rfl) (hx:ev ρ x= .slice a len cap:=by kernel_rfl)
    (e1:lo.map (ev ρ)=li.map (Value.int .i64 ·):=by kernel_rfl) (e2:hi.map (ev ρ)=hi'.map (Value.int .i64 ·):=by kernel_rfl):OpsE P n ops (o::rest) N ρ w:=
  stepY _ hg hd (Y_sl li hi' l h hu hsz hlo hhi h1 h2 ho hmx hx e1 e2) hr
def ElemAt (a:Option Addr) (i:Int) (len sz b off:Nat):Prop:=∃q,a=some q/\q.add (i.toNat*sz)=⟨b,off,none⟩/\0<=i/\i<len
theorem RdT.elem {α:Type} {enc:α->List Value} {sz:Nat} {a:Option Addr} {len cap:Nat} {xs:List α} (hR:RdT enc sz cs a len cap xs) (i:Int) (h0:0<=i:=by omega) (h1:i<len:=by first|omega|decide):
    ∃x b off,xs[i.toNat]?=some x/\PtR cs b off (enc x)/\ElemAt a i len sz b off:=by
  have hl:i.toNat<xs.length:=by rw [hR.1];omega
  obtain ⟨h1',hsz,hll,hc,hm,hr⟩:=hR
  rcases hr with hr|⟨b,off,rfl,hp⟩
  · omega
  · have hlt:i.toNat+1<=len:=by omega
    have hms:(i.toNat+1)*sz<=len*sz:=Nat.mul_le_mul_right _ hlt
    rw [Nat.add_mul,Nat.one_mul] at hms
    refine ⟨xs[i.toNat],b,off+i.toNat*sz,by simp [hl],?_,⟨⟨b,off,none⟩,rfl,add_off ..,h0,h1⟩⟩
    have:=hp.sub (i.toNat*sz) sz (by omega)
    rw [flatMap_at hsz xs i.toNat xs[i.toNat] (by simp [hl])] at this
    exact this
theorem Y_idx {t E:TypeId} {x y:Operand} {a:Option Addr} {i:Int} {len cap sz b off:Nat} (ho:o.op= .indexAddr t x y) (hu:∀w,(underlying t).run P w= .ok (.slice E) w) (hsz:∀w,(sizeOf E).run P w= .ok sz w)
    (hx:ev ρ x= .slice a len cap) (hy:ev ρ y= .int .i64 i) (hq:ElemAt a i len sz b off):Yields P ρ o (.pointer (some ⟨b,off,none⟩)) w:=by
  obtain ⟨q,rfl,hq,h0,h1⟩:=hq
  rw [<-hq]
  exact Y_indexAddr ho hu hsz hx hy h0 h1
theorem sApp {α:Type} {enc:α->List Value} {t E:TypeId} {xs':Array Operand} {ats:Array TypeId} {x y:Operand} {i:TypeInfo} {z:Value} {sz nb:Nat} {a a2:Option Addr} {m cap k c2:Nat} {xs ys:List α} {c:Chunk}
    (hS:Sat W w cs) (hO:OwnT enc E sz a m cap xs c) (j:Nat) (hR:RdT enc sz cs a2 k c2 ys)
    (ht:P.underlying t=some (.slice E)) (hi:P.info? E=some i) (h1:∀x,(enc x).all (·.oneCell')=true)
    (h:∀a' cap' c' w',OwnT enc E sz a' (m+k) cap' (xs++ys) c'->Sat W w' (cs.set j c')->OpsE P n ops rest N (put ρ o.dst (.slice a' (m+k) cap')) w')
    (ho:o.op= .call {callee:= .builtin .append,args:=xs',argTypes:=ats}:=by rfl) (hxs:xs'=#[x,y]:=by rfl) (hats:ats=#[t,t]:=by rfl) (hg:o.guard=none:=by rfl) (hd:dstOK n o.dst=true:=by rfl)
    (hz:i.zero=some z:=by rfl) (hsize:i.size=sz:=by rfl) (hby:i.bytes=nb:=by rfl) (hzs:z.cells.size=sz:=by kernel_rfl) (hj:cs[j]?=some c:=by rfl)
    (hx:ev ρ x= .slice a m cap:=by kernel_rfl) (hy:ev ρ y= .slice a2 k c2:=by kernel_rfl)
    (hb:(m+k)*nb<=140737488355328:=by omega) (h63:m+k<=9223372036854775807:=by omega):OpsE P n ops (o::rest) N ρ w:=by
  refine stepAppend ho hxs hats hg hd ht hi hz hsize hby hzs hx hy hS hO.2.2 j hj hR.2.2 ?_ hb (by simp only [maxLen];omega) fun a' cap' c' w' hO' hS'=>h a' cap' c' w' ⟨by simp [hO.1,hR.1],hO.2.1,?_⟩ hS'
  · intro u hu
    obtain ⟨x,_,hx⟩:=List.mem_flatMap.1 hu
    exact List.all_eq_true.1 (h1 x) u hx
  · rw [List.flatMap_append];exact hO'
def AllAt (ρ:Env):List (Nat×Value)->Prop
  |[]=>True
  |(d,v)::us=>ρ d=v/\AllAt ρ us
theorem upd_self {d:Nat} {v:Value} (h:ρ d=v):upd ρ d v=ρ:=funext fun t=>by
  cases hb:Nat.beq t d with
  |true=>simp only [upd,hb,cond_true];rw [Nat.eq_of_beq_eq_true hb];exact h.symm
  |false=>simp only [upd,hb,cond_false]
theorem upds_self:∀{us:List (Nat×Value)},AllAt ρ us->upds ρ us=ρ
  |[],_=>rfl
  |(d,v)::us,h=>by simp only [upds];rw [upd_self h.1];exact upds_self h.2
theorem cAnchor {c:Code} {K:Exit->Env->World->Prop} {us:List (Nat×Value)} (h:AllAt ρ us) (hk:∀ρ,CodeE P n c K (upds ρ us) w):CodeE P n c K ρ w:=by
  have:=hk ρ
  rwa [upds_self h] at this
theorem sFix {l:List Oper} (d:Nat) (t b:Bool) (hb:t=b) (h:OpsE P n ops l N (upd ρ d (.bool b)) w) (hd:ρ d= .bool t:=by kernel_rfl):OpsE P n ops l N ρ w:=by
  rwa [upd_self (hb▸hd)] at h
theorem wFix {E:List Nat} {L:Facts} {s:Sched} {listed:Array Bool} (d:Nat) (t b:Bool) (hb:t=b) (h:walkE P n ops E L N (flat s) listed (upd ρ d (.bool b)) w) (hd:ρ d= .bool t:=by kernel_rfl):walkE P n ops E L N (flat s) listed ρ w:=by
  rwa [upd_self (hb▸hd)] at h
theorem cT {c:Operand} {x y:Code} {K:Exit->Env->World->Prop} (t:Bool) (hb:t=true) (h:CodeE P n x K ρ w) (hc:ev ρ c= .bool t:=by kernel_rfl):CodeE P n (.cond c x y) K ρ w:=condE_true (hb▸hc) h
theorem cF {c:Operand} {x y:Code} {K:Exit->Env->World->Prop} (t:Bool) (hb:t=false) (h:CodeE P n y K ρ w) (hc:ev ρ c= .bool t:=by kernel_rfl):CodeE P n (.cond c x y) K ρ w:=condE_false (hb▸hc) h
theorem alA {us:List (Nat×Value)} (h:us.map (fun x=>ρ x.1)=us.map (fun x=>x.2):=by kernel_rfl):AllAt ρ us:=by
  induction us with
  |nil=>trivial
  |cons x us ih=>
    obtain ⟨d,v⟩:=x
    simp only [List.map_cons,List.cons.injEq] at h
    exact ⟨h.1,ih h.2⟩
theorem cTt {c:Operand} {x y:Code} {K:Exit->Env->World->Prop} (h:CodeE P n x K ρ w) (hc:ev ρ c= .bool true:=by kernel_rfl):CodeE P n (.cond c x y) K ρ w:=condE_true hc h
theorem cFf {c:Operand} {x y:Code} {K:Exit->Env->World->Prop} (h:CodeE P n y K ρ w) (hc:ev ρ c= .bool false:=by kernel_rfl):CodeE P n (.cond c x y) K ρ w:=condE_false hc h
theorem gY {l:List Oper} {o:Oper} {j:Nat} {b:Bool} (h:OpsE P n ops ({o with guard:=none}::l) N ρ w) (hg:o.guard=some (j,b):=by rfl) (hy:yieldsAs ops ρ j n b:=by exact ⟨_,rfl,rfl,by kernel_rfl⟩):OpsE P n ops (o::l) N ρ w:=guardYes hg hy h
def tmpsOf (ρ:Env):List ResultVar->Option (List Value)
  |[]=>some []
  | .tmp d::rs=>(tmpsOf ρ rs).map (ρ d::·)
  |_::_=>none
theorem tmpsOf_res:∀{rs:List ResultVar} {vs:List Value},tmpsOf ρ rs=some vs->ResN P ρ w rs vs
  |[],vs,h=>by simp only [tmpsOf,Option.some.injEq] at h;subst h;exact .nil
  |r::rs,vs,h=>by
    cases r with
    |tmp d=>
      simp only [tmpsOf,Option.map_eq_some_iff] at h
      obtain ⟨us,h1,rfl⟩:=h
      exact .cons (.tmp _ _ rfl) (tmpsOf_res h1)
    |_=>cases h
theorem retT {fn:Func} {R:Ending->World->Prop} {rs:List ResultVar} (vs:List Value) (h:R (.returned (packed vs)) w) (hr:fn.results=rs.toArray:=by rfl) (hv:tmpsOf ρ rs=some vs:=by kernel_rfl):
    retK P fn R .ret ρ w:=retN hr (tmpsOf_res hv) h
def CellsAt (w:World) (b:Nat):Nat->List Value->Prop
  |_,[]=>True
  |off,v::vs=>w.cell? ⟨b,off,none⟩=some v/\CellsAt w b (off+1) vs
theorem CellsAt.get {w:World} {b:Nat}:∀{off:Nat} {vs:List Value},CellsAt w b off vs->∀j v,vs[j]?=some v->w.cell? ⟨b,off+j,none⟩=some v
  |_,[],_,j,v,h=>by simp at h
  |off,u::us,hc,0,v,h=>by simp at h;subst h;exact hc.1
  |off,u::us,hc,j+1,v,h=>by
    have:=hc.2.get j v (by simpa using h)
    rwa [show off+1+j=off+(j+1) by omega] at this
theorem Y_loadF {t:TypeId} {x:Operand} {b off k:Nat} {vs:List Value} (ho:o.op= .load t x) (hag:(isAgg t).run P w= .ok true w) (hsz:(sizeOf t).run P w= .ok k w)
    (hx:ev ρ x= .pointer (some ⟨b,off,none⟩)) (hl:vs.length=k) (hc:CellsAt w b off vs):Yields P ρ o (.agg vs.toArray) w:=by
  subst hl
  have hc':∀j v,vs[j]?=some v->w.cell? ((⟨b,off,none⟩:Addr).add j)=some v:=fun j v hv=>by rw [add_off];exact hc.get j v hv
  have hr:=run_loadCells_list (P:=P) w ⟨b,off,none⟩ vs hc'
  unfold Yields execOp
  rw [ho]
  simp [Instr.loadAt,hx,Instr.sureAddr,loadVar,hag,hsz,hr]
theorem lvA (hS:Sat W w cs) (i off:Nat) (vs:List Value) {t:TypeId} {b k:Nat} {c:Array Value} {E:TypeId} {f:Nat×Nat} (hag:(isAgg t).run P w= .ok true w) (hsz:(sizeOf t).run P w= .ok k w)
    (hi:cs[i]?=some [(b, .cells c E f)]) (hk:vs.length=k) (hv:(c.toList.drop off).take vs.length=vs):(loadVar t ⟨b,off,none⟩).run P w= .ok (.agg vs.toArray) w:=by
  subst hk
  have hc:∀j v,vs[j]?=some v->w.cell? ((⟨b,off,none⟩:Addr).add j)=some v:=fun j v hv'=>by rw [add_off];exact (PtR.blk (cs:=cs) i hi hv).cell hS hv'
  have hr:=run_loadCells_list (P:=P) w ⟨b,off,none⟩ vs hc
  simp [loadVar,hag,hsz,hr]
theorem RdT.blk {α:Type} {enc:α->List Value} {sz b:Nat} {c:Array Value} {E:TypeId} {f:Nat×Nat} {xs:List α} (he:∀x,(enc x).length=sz) (k:Nat) (i:Nat) (hi:cs[i]?=some [(b, .cells c E f)]) (hc:c.toList=xs.flatMap enc) (hk:xs.length=k) (hm:k<=16777216):
    RdT enc sz cs (some ⟨b,0,none⟩) k k xs:=⟨hk,he,RdS.blk i hi hc (by rw [flatMap_len he,hk]) (by simp only [maxLen];omega)⟩
end
end Go.E
namespace Go.E
open Go.RowKit
def blocks (w:World):Chunk:=(List.range w.heap.size).map fun i=>(i,w.heap.getD i default)
theorem mem_blocks {w:World} {b:Nat} {o:Obj} (h:w.heap[b]?=some o):(b,o)∈blocks w:=by
  have hl:b<w.heap.size:=(Array.getElem?_eq_some_iff.1 h).1
  refine List.mem_map.2 ⟨b,List.mem_range.2 hl,?_⟩
  simp [Array.getD_eq_getD_getElem?,h]
theorem sat_start (w:World):Sat w w [blocks w]:=by
  refine ⟨rfl,rfl,rfl,?_,?_⟩
  · have:(blocks w).map (·.1)=List.range w.heap.size:=by simp [blocks,Function.comp_def]
    simp only [List.flatten_cons,List.flatten_nil,List.append_nil,this]
    exact List.nodup_range
  · intro p hp
    simp only [List.flatten_cons,List.flatten_nil,List.append_nil,blocks,List.mem_map,List.mem_range] at hp
    obtain ⟨i,hi,rfl⟩:=hp
    simp [Array.getD_eq_getD_getElem?,hi]
theorem below_of_sat {w w':World} {cs:List Chunk} (h:Sat w w' cs) (hm:∀p∈blocks w,p∈cs.flatten):Below w.heap.size w w':=by
  have hb:∀k,k<w.heap.size->w'.heap[k]?=w.heap[k]?:=fun k hk=>by
    have:w.heap[k]?=some w.heap[k]:=by simp [hk]
    rw [this]
    exact h.heap (hm _ (mem_blocks this))
  refine ⟨h.os,h.tape,h.output,?_,hb⟩
  rcases Nat.lt_or_ge w'.heap.size w.heap.size with hlt|hge
  · have:=hb w'.heap.size hlt
    simp [hlt] at this
  · exact hge
theorem rd_rowK (K:IntKind) {w:World} {a:Option Addr} {len cap:Nat} {zs:List Int}
    (h:(a=none/\len=0/\cap=0/\zs=[])\/∃x,a=some x/\len<=cap/\cap<=maxLen/\zs.length=cap/\(∀i,i<zs.length->w.cell? (x.add i)=some (.int K (zs.getD i 0)))/\∀n∈zs,(Lit.int K n).wf=true):
    RdT (fun x=>[Value.int K x]) 1 [blocks w] a len cap (zs.take len):=by
  rcases h with ⟨rfl,rfl,rfl,rfl⟩|⟨x,rfl,hl,hm,hz,hc,_⟩
  · exact RdT.nil (enc:=fun x=>[Value.int K x]) (sz:=1) (fun _=>rfl) _
  · refine ⟨by simp;omega,fun _=>rfl,⟨by rw [flatMap_len (sz:=1) (fun _=>rfl)];simp;omega,hl,hm,?_⟩⟩
    by_cases h0:len=0
    · exact .inl h0
    · right
      have h00:=hc 0 (by omega)
      have hx0:x.add 0=x:=by simp [Addr.add]
      rw [hx0] at h00
      obtain ⟨b,off,sp⟩:=x
      have hsp:sp=none:=by
        cases sp with
        |none=>rfl
        |some s=>
          exfalso
          unfold World.cell? at h00
          split at h00
          · simp at h00
          · cases h00
      subst hsp
      have hblk:∃c E f,w.heap[b]?=some (.cells c E f):=by
        unfold World.cell? at h00
        split at h00
        · rename_i c E f hh;exact ⟨c,E,f,hh⟩
        · cases h00
      obtain ⟨c,E,f,hh⟩:=hblk
      refine ⟨b,off,rfl,c,E,f,by simpa using mem_blocks hh,?_⟩
      apply List.ext_getElem?
      intro j
      have hlen:((zs.take len).flatMap (fun x=>[Value.int K x])).length=len:=by rw [flatMap_len (sz:=1) (fun _=>rfl)];simp;omega
      rw [hlen]
      by_cases hj:j<len
      · rw [List.getElem?_take,if_pos hj,List.getElem?_drop]
        have hcj:=hc j (by omega)
        rw [add_off] at hcj
        simp only [World.cell?,hh,Option.isSome_none,Bool.false_eq_true,if_false] at hcj
        have:c.toList[off+j]?=some (.int K (zs.getD j 0)):=by simpa using hcj
        rw [this]
        have hfm:∀(l:List Int) (k:Nat),(l.flatMap (fun x=>[Value.int K x]))[k]?=(l[k]?).map (Value.int K ·):=by
          intro l
          induction l with
          |nil=>simp
          |cons y ys ih=>intro k;cases k with|zero=>simp|succ k=>simp [ih]
        rw [hfm,List.getElem?_take,if_pos hj]
        have hjz:j<zs.length:=by omega
        simp [List.getD_eq_getElem?_getD,hjz]
      · rw [List.getElem?_take,if_neg hj,List.getElem?_eq_none (by omega)]
theorem rd_row {w:World} {a:Option Addr} {len cap:Nat} {zs:List Int}
    (h:(a=none/\len=0/\cap=0/\zs=[])\/∃x,a=some x/\len<=cap/\cap<=maxLen/\zs.length=cap/\(∀i,i<zs.length->w.cell? (x.add i)=some (.int .i64 (zs.getD i 0)))/\∀n∈zs,(Lit.int .i64 n).wf=true):
    RdT encI 1 [blocks w] a len cap (zs.take len):=rd_rowK .i64 h
end Go.E
namespace Go.E
open Go.RowKit Go.Deep
theorem ptr_row {w:World} {x:Addr} {l:List Value} (h0:0<l.length) (h:∀k v,l[k]?=some v->w.cell? (x.add k)=some v):∃b off,x=⟨b,off,none⟩/\PtR [blocks w] b off l:=by
  have h00:=h 0 l[0] (by simp [h0])
  have hx0:x.add 0=x:=by simp [Addr.add]
  rw [hx0] at h00
  obtain ⟨b,off,sp⟩:=x
  have hsp:sp=none:=by
    cases sp with
    |none=>rfl
    |some s=>
      exfalso
      unfold World.cell? at h00
      split at h00
      · simp at h00
      · cases h00
  subst hsp
  have hblk:∃c E f,w.heap[b]?=some (.cells c E f):=by
    unfold World.cell? at h00
    split at h00
    · rename_i c E f hh;exact ⟨c,E,f,hh⟩
    · cases h00
  obtain ⟨c,E,f,hh⟩:=hblk
  refine ⟨b,off,rfl,c,E,f,by simpa using mem_blocks hh,?_⟩
  apply List.ext_getElem?
  intro j
  by_cases hj:j<l.length
  · rw [List.getElem?_take,if_pos hj,List.getElem?_drop]
    have hcj:=h j l[j] (by simp [hj])
    rw [add_off] at hcj
    simp only [World.cell?,hh,Option.isSome_none,Bool.false_eq_true,if_false] at hcj
    have:c.toList[off+j]?=some l[j]:=by simpa using hcj
    rw [this];simp [hj]
  · rw [List.getElem?_take,if_neg hj,List.getElem?_eq_none (by omega)]
theorem list_of {α:Type} {R:Nat->α->Prop}:∀n:Nat,(∀i,i<n->∃t,R i t)->∃xs:List α,xs.length=n/\∀i t,xs[i]?=some t->R i t
  |0,_=>⟨[],rfl,fun i t h=>by simp at h⟩
  |n+1,h=>by
    obtain ⟨xs,hl,hx⟩:=list_of n (fun i hi=>h i (by omega))
    obtain ⟨t,ht⟩:=h n (by omega)
    refine ⟨xs++[t],by simp [hl],fun i u hu=>?_⟩
    by_cases hi:i<xs.length
    · rw [List.getElem?_append_left hi] at hu;exact hx i u hu
    · rw [List.getElem?_append_right (by omega)] at hu
      have e:i-xs.length=0:=by
        have:=(List.getElem?_eq_some_iff.1 hu).1
        simp at this;omega
      rw [e] at hu
      simp at hu;subst hu
      have:i=n:=by omega
      subst this;exact ht
theorem rd_rowT {α:Type} {enc:α->List Value} {sz:Nat} (he:∀x,(enc x).length=sz) (hsz:0<sz) {Q:α->Prop} {w:World} {x:Addr} {len cap:Nat} (hl:len<=cap) (hm:cap<=maxLen)
    (h:∀i,i<len->∃t,Q t/\∀j v,(enc t)[j]?=some v->w.cell? ((x.add (i*sz)).add j)=some v):∃xs:List α,RdT enc sz [blocks w] (some x) len cap xs/\∀t∈xs,Q t:=by
  obtain ⟨xs,hxl,hx⟩:=list_of (R:=fun i t=>Q t/\∀j v,(enc t)[j]?=some v->w.cell? ((x.add (i*sz)).add j)=some v) len h
  refine ⟨xs,⟨hxl,he,by rw [flatMap_len he,hxl],hl,hm,?_⟩,fun t ht=>by
    obtain ⟨i,hi⟩:=List.mem_iff_getElem?.1 ht
    exact (hx i t hi).1⟩
  by_cases h0:len=0
  · exact .inl h0
  · right
    have hfl:(xs.flatMap enc).length=len*sz:=by rw [flatMap_len he,hxl]
    obtain ⟨b,off,rfl,hp⟩:=ptr_row (w:=w) (x:=x) (l:=xs.flatMap enc) (by rw [hfl];exact Nat.mul_pos (by omega) hsz) (by
      intro k v hk
      have hkl:k<len*sz:=by rw [<-hfl];exact (List.getElem?_eq_some_iff.1 hk).1
      have hi:k/sz<len:=Nat.div_lt_of_lt_mul (by rw [Nat.mul_comm];exact hkl)
      have hj:k%sz<sz:=Nat.mod_lt _ hsz
      have hxi:xs[k/sz]?=some (xs[k/sz]'(by omega)):=by simp [hxl,hi]
      have hat:=flatMap_at he xs (k/sz) _ hxi
      have hk2:k/sz*sz+k%sz=k:=by rw [Nat.mul_comm];exact Nat.div_add_mod k sz
      have hv:(enc (xs[k/sz]'(by omega)))[k%sz]?=some v:=by
        rw [<-hat,List.getElem?_take,if_pos hj,List.getElem?_drop,hk2];exact hk
      have h3:=(hx _ _ hxi).2 _ _ hv
      rw [Go.Deep.add_add,hk2] at h3
      exact h3)
    exact ⟨b,off,rfl,hp⟩
section
variable {H:Type} {enc:TypeId×Value->H} {P:Program} {w:World}
open Go.ChangeShapes in
theorem ints_row {t e:TypeId} {n:Nat} {cs:List Value} {y:DataW H×List MemPlace} (ht:P.underlying t=some (.slice e)) (he:P.underlying e=some (.int .i64)) (hc:P.cellsOf e=1) (h:DataW.trod enc P w 0 (fun _=>true) true n t cs=some y):
    ∃(a:Option Addr) (m k:Nat) (l:List Int),cs=[.slice a m k]/\RdT encI 1 [blocks w] a m k l:=by
  rcases open_ints ht he hc h with ⟨hcs,_⟩|⟨x,l,c,zs,hcs,_,hl,hm,hz,_,hcell,hwz⟩
  · exact ⟨none,0,0,[],hcs,RdT.nil (enc:=encI) (sz:=1) (fun _=>rfl) _⟩
  · exact ⟨some x,l,c,_,hcs,rd_row (.inr ⟨x,rfl,hl,hm,by simpa using hz,hcell,hwz⟩)⟩
theorem structs_row {α:Type} {en:α->List Value} {sz:Nat} {Q:α->Prop} {t e:TypeId} {n:Nat} {cs:List Value} {y:DataW H×List MemPlace} (he:∀x,(en x).length=sz) (hsz:0<sz) (ht:P.underlying t=some (.slice e)) (hc:P.cellsOf e=sz)
    (ho:∀n cs y,DataW.trod enc P w 0 (fun _=>true) true n e cs=some y->∃z,cs=en z/\Q z) (h:DataW.trod enc P w 0 (fun _=>true) true n t cs=some y):
    ∃(a:Option Addr) (m k:Nat) (l:List α),cs=[.slice a m k]/\RdT en sz [blocks w] a m k l/\∀z∈l,Q z:=by
  rcases open_slice ht h with ⟨hcs,_⟩|⟨x,len,cap,m,n',D,Pl,hcs,_,hl,hm,hmm,_,hi⟩
  · exact ⟨none,0,0,[],hcs,RdT.nil he _,fun z hz=>by cases hz⟩
  · have hlm:len<=m:=by rw [hmm];simp only [if_true];exact hl
    obtain ⟨xs,hR,hQ⟩:=rd_rowT (w:=w) (x:=x) (Q:=Q) he hsz hl hm (fun i hil=>by
      obtain ⟨cs',hc',ht'⟩:=hi i (by omega)
      obtain ⟨z,rfl,hq⟩:=ho _ _ _ ht'
      refine ⟨z,hq,fun j v hj=>?_⟩
      obtain ⟨_,hcl,hat⟩:=World.cells?_some hc'
      rw [hc] at hat
      rw [hat j (by rw [<-he z];exact (List.getElem?_eq_some_iff.1 hj).1)];exact hj)
    exact ⟨some x,len,cap,xs,hcs,hR,hQ⟩
end
end Go.E
namespace Go.E
set_option linter.unusedVariables false
set_option linter.unusedSimpArgs false
section
variable {P:Program} {n:Nat} {ρ:Env} {W w:World} {cs:List Chunk} {ops:Array Oper} {rest:List Oper} {N:Env->World->Prop} {o:Oper}
theorem rep_at (l:List Value) (sz:Nat) (hl:l.length=sz):∀(m i:Nat),i<m*sz->((List.replicate m l).flatten)[i]?=l[i%sz]?:=by
  intro m
  induction m with
  |zero=>intro i h;omega
  |succ m ih=>
    intro i h
    rw [Nat.succ_mul] at h
    rw [List.replicate_succ,List.flatten_cons]
    rcases Nat.lt_or_ge i sz with hi|hi
    · rw [List.getElem?_append_left (by omega),Nat.mod_eq_of_lt hi]
    · rw [List.getElem?_append_right (by omega),hl,ih _ (by omega)]
      have e:i=(i-sz)+sz:=by omega
      conv=>rhs;rw [e,Nat.add_mod_right]
theorem cells_rep {α : Type} {enc : α -> List Value} (z : α) (m sz : Nat) (zc : Array Value) (hz : zc.toList = enc z) (hsz : (enc z).length = sz) : (madeCells zc (m * sz)).toList = (List.replicate m z).flatMap enc := by
  have hs : zc.size = sz := by rw [<- hsz, <- hz]; simp
  have he : (List.replicate m z).flatMap enc = (List.replicate m (enc z)).flatten := by simp [List.flatMap]
  rw [he]
  have hlen : ((List.replicate m (enc z)).flatten).length = m * sz := by simp [hsz]
  apply List.ext_getElem?
  intro i
  rcases Nat.lt_or_ge i (m * sz) with hi | hi
  · rw [rep_at _ sz hsz m i hi]
    have hsz0 : 0 < sz := by rcases Nat.eq_zero_or_pos sz with h | h; · subst h; simp at hi
                             · exact h
    have hm : i % sz < sz := Nat.mod_lt _ hsz0
    simp only [madeCells, Array.toList_map, Array.toList_range, List.getElem?_map]
    rw [List.getElem?_range hi]
    simp only [Option.map_some, hs]
    rw [<- hz, Array.getElem?_toList]
    rw [Array.getElem?_eq_getElem (by omega), getElem!_pos zc (i % sz) (by omega)]
  · rw [List.getElem?_eq_none (by simp [madeCells]; omega), List.getElem?_eq_none (by omega)]
theorem sMake {α:Type} {enc:α->List Value} (hS:Sat W w cs) (zx:α) (m:Nat) (v:Int) (hv:v=(m:Int)) {t E:TypeId} {x y:Operand} {i:TypeInfo} {z:Value} {sz nb:Nat} {kl kc:IntKind} (ht:P.underlying t=some (.slice E)) (hi:P.info? E=some i)
    (he:∀x,(enc x).length=sz)
    (h:∀b c w',OwnT enc E sz (some ⟨b,0,none⟩) m m (List.replicate m zx) c->Sat W w' (c::cs)->OpsE P n ops rest N (put ρ o.dst (.slice (some ⟨b,0,none⟩) m m)) w')
    (hb:nb*m<=281474976710656:=by omega)
    (ho:o.op= .makeSlice t x y:=by rfl) (hg:o.guard=none:=by rfl) (hd:dstOK n o.dst=true:=by rfl)
    (hz:i.zero=some z:=by rfl) (hzx:z.cells.toList=enc zx:=by rfl) (hsize:i.size=sz:=by rfl) (hby:i.bytes=nb:=by rfl)
    (hx:ev ρ x= .int kl v:=by kernel_rfl) (hy:ev ρ y= .int kc v:=by kernel_rfl) (hnb:0<nb:=by omega):OpsE P n ops (o::rest) N ρ w:=by
  subst hv
  have h63:m<=maxLen:=by
    have:1*m<=nb*m:=Nat.mul_le_mul_right _ hnb
    have h0:maxLen=9223372036854775807:=by simp [maxLen]
    omega
  refine stepMake ho hg hd ht hi hz hsize hby hx hy hS hb h63 (fun b c w' hO hS'=>h b c w' ⟨by simp,he,?_⟩ hS')
  rw [<-cells_rep zx m sz z.cells hzx (he zx)]
  exact hO
end
section
variable {P:Program} {n:Nat} {ρ:Env} {W w:World} {cs:List Chunk} {ops:Array Oper} {rest:List Oper} {N:Env->World->Prop} {o:Oper} {K:Exit->Env->World->Prop}
abbrev I (x:Int):Value:= .int .i64 x
abbrev At (b o:Nat):Option Addr:=some ⟨b,o,none⟩
abbrev Pt (b o:Nat):Value:= .pointer (some ⟨b,o,none⟩)
theorem kr {α:Type} {a b:α} (h:a=b:=by kernel_rfl):a=b:=h
theorem om {p:Prop} (h:p:=by omega):p:=h
theorem od {p:Prop} (h:p:=by first|omega|(dsimp only;omega)):p:=h
theorem mS {A B:Chunk} (h:∀p∈A,p∈B:=by intro p hp;simp at hp⊢;simp [hp]):∀p∈A,p∈B:=h
theorem dI {α:Type} {a b:α} {q:Prop} (h:a=b:=by kernel_rfl):a=b\/q:= .inl h
theorem dA {p:Prop} (h:p:=by (repeat (refine ⟨.inl (by kernel_rfl),?_⟩));exact trivial):p:=h
theorem fR {α β:Type} {f g:α->β} (h:∀x,f x=g x:=by intro _;rfl):∀x,f x=g x:=h
theorem nT {N':Env->World->Prop} (h:N' ρ w):OpsE P n ops [] (thenK N' K .normal) ρ w:=nilO (thenK_n h)
theorem nB {N':Env->World->Prop} {id:Nat} (h:N' ρ w):OpsE P n ops [] (blockK id (thenK N' K) .normal) ρ w:=nilO (blockK_n (thenK_n h))
theorem sR {id:Nat} {l:List Oper} {y:Code} (h:OpsE P n l.toArray l (thenK (CodeE P n y K) K .normal) ρ w):CodeE P n (.seq (.region id l.toArray false) y) K ρ w:=seqE (regionE h)
theorem kT {N':Env->World->Prop} (h:N' ρ w):CodeE P n .skip (thenK N' K) ρ w:=skipE (thenK_n h)
theorem tR {N':Env->World->Prop} {id:Nat} (h:K .ret ρ w):thenK N' (blockK id K) .ret ρ w:=thenK_r (blockK_r h)
theorem xB {N' N2:Env->World->Prop} {id:Nat} (h:K .normal ρ w):thenK N' (thenK N2 (blockK id K)) (.exit id) ρ w:=thenK_x (thenK_x (blockK_x h))
theorem sT1 (hS:Sat W w cs) (i off:Nat) (v:Value) (c':Array Value) {t:TypeId} {x y:Operand} {b k:Nat} {c:Array Value} {E:TypeId} (hsz:∀w,(sizeOf t).run P w= .ok k w)
    (h:∀w',Sat W w' (cs.set i [(b, .cells c' E (0,0))])->OpsE P n ops rest N ρ w')
    (ho:o.op= .store t x y:=by rfl) (hg:o.guard=none:=by rfl) (hd:o.dst=none:=by rfl) (hi:cs[i]?=some [(b, .cells c E (0,0))]:=by rfl)
    (hx:ev ρ x= .pointer (some ⟨b,off,none⟩):=by kernel_rfl) (hy:ev ρ y=v:=by kernel_rfl) (hv:v.cells.toList=[v]:=by kernel_rfl) (hk:1=k:=by kernel_rfl)
    (h1:[v].all (·.oneCell')=true:=by kernel_rfl) (hfit:Nat.ble (off+1) c.size=true:=by kernel_rfl) (hc':wr c off [v]=c':=by kernel_rfl):OpsE P n ops (o::rest) N ρ w:=
  sT hS i off v [v] c' hsz h ho hg hd hi hx hy hv hk h1 hfit hc'
theorem sTA (hS:Sat W w cs) (i off:Nat) (vs:List Value) (c':Array Value) {t:TypeId} {x y:Operand} {b k:Nat} {c:Array Value} {E:TypeId} (hsz:∀w,(sizeOf t).run P w= .ok k w)
    (h:∀w',Sat W w' (cs.set i [(b, .cells c' E (0,0))])->OpsE P n ops rest N ρ w')
    (ho:o.op= .store t x y:=by rfl) (hg:o.guard=none:=by rfl) (hd:o.dst=none:=by rfl) (hi:cs[i]?=some [(b, .cells c E (0,0))]:=by rfl)
    (hx:ev ρ x= .pointer (some ⟨b,off,none⟩):=by kernel_rfl) (hy:ev ρ y= .agg vs.toArray:=by kernel_rfl) (hk:vs.length=k:=by kernel_rfl)
    (h1:vs.all (·.oneCell')=true:=by kernel_rfl) (hfit:Nat.ble (off+vs.length) c.size=true:=by kernel_rfl) (hc':wr c off vs=c':=by kernel_rfl):OpsE P n ops (o::rest) N ρ w:=
  sT hS i off (.agg vs.toArray) vs c' hsz h ho hg hd hi hx hy rfl hk h1 hfit hc'
theorem sTw (hS:Sat W w cs) (i:Nat) (vs:List Value) {t:TypeId} {x y:Operand} {b k:Nat} {c:Array Value} {E:TypeId} (hsz:∀w,(sizeOf t).run P w= .ok k w)
    (h:∀w',Sat W w' (cs.set i [(b, .cells vs.toArray E (0,0))])->OpsE P n ops rest N ρ w')
    (ho:o.op= .store t x y:=by rfl) (hg:o.guard=none:=by rfl) (hd:o.dst=none:=by rfl) (hi:cs[i]?=some [(b, .cells c E (0,0))]:=by rfl)
    (hx:ev ρ x= .pointer (some ⟨b,0,none⟩):=by kernel_rfl) (hy:ev ρ y= .agg vs.toArray:=by kernel_rfl) (hk:vs.length=k:=by kernel_rfl)
    (h1:vs.all (·.oneCell')=true:=by kernel_rfl) (hfit:Nat.ble (0+vs.length) c.size=true:=by kernel_rfl) (hc':wr c 0 vs=vs.toArray:=by kernel_rfl):OpsE P n ops (o::rest) N ρ w:=
  sTA hS i 0 vs vs.toArray hsz h ho hg hd hi hx hy hk h1 hfit hc'
end
end Go.E
namespace Go.E
set_option linter.unusedVariables false
set_option linter.unusedSimpArgs false
theorem Sat.flat {W w:World} {cs:List Chunk} (h:Sat W w cs):Sat W w [cs.flatten]:=h.perm (by simp)
theorem Sat.unflat {W w:World} {cs:List Chunk} (h:Sat W w [cs.flatten]):Sat W w cs:=h.perm (by simp)
theorem Sat.flat1 {W w:World} {c:Chunk} {cs:List Chunk} (h:Sat W w (c::cs)):Sat W w [c,cs.flatten]:=h.perm (by simp)
theorem Sat.unflat1 {W w:World} {c:Chunk} {cs:List Chunk} (h:Sat W w [c,cs.flatten]):Sat W w (c::cs):=h.perm (by simp)
theorem Sat.unflat2 {W w:World} {c d:Chunk} {cs:List Chunk} (h:Sat W w [c,d,cs.flatten]):Sat W w (c::d::cs):=h.perm (by simp)
theorem Sat.unflat3 {W w:World} {c d e:Chunk} {cs:List Chunk} (h:Sat W w [c,d,e,cs.flatten]):Sat W w (c::d::e::cs):=h.perm (by simp)
theorem mem_flat {cs:List Chunk}:∀p∈cs.flatten,p∈[cs.flatten].flatten:=by intro p h;simpa using h
theorem mem_flat1 {cs:List Chunk} {c:Chunk} (i:Nat) (h:cs[i]?=some c):∀p∈[c].flatten,p∈[cs.flatten].flatten:=by
  intro p hp
  simp only [List.flatten_cons,List.flatten_nil,List.append_nil] at hp⊢
  exact List.mem_flatten.2 ⟨c,List.mem_of_getElem? h,hp⟩
theorem RdT.flat {α:Type} {enc:α->List Value} {sz:Nat} {cs:List Chunk} {a:Option Addr} {n k:Nat} {xs:List α} (h:RdT enc sz cs a n k xs):RdT enc sz [cs.flatten] a n k xs:=h.of_mem mem_flat
theorem OwnT.elem {α:Type} {enc:α->List Value} {E sz:Nat} {a:Option Addr} {len cap:Nat} {xs:List α} {c:Chunk} (hO:OwnT enc E sz a len cap xs c) (i:Int) (h0:0<=i:=by omega) (h1:i<len:=by first|omega|decide):
    ∃x b off,xs[i.toNat]?=some x/\PtR [c] b (off+i.toNat*sz) (enc x)/\ElemAt a i len sz b (off+i.toNat*sz)/\a=some ⟨b,off,none⟩:=by
  obtain ⟨x,b,o,hx,hp,he⟩:=RdT.elem (hO.rdAt (cs:=[c]) 0 rfl) i h0 h1
  rcases hO.2.2 with ⟨hl,⟨_,ha,_⟩|⟨b',off',cur,ha,_⟩⟩
  · omega
  · have he2:=he
    obtain ⟨p,hp1,hp2,_⟩:=he2
    rw [ha] at hp1
    simp only [Option.some.injEq] at hp1
    subst hp1
    rw [add_off] at hp2
    simp only [Addr.mk.injEq] at hp2
    obtain ⟨rfl,rfl,_⟩:=hp2
    exact ⟨x,b',off',hx,hp,he,ha⟩
theorem take_succ_at {α:Type} {xs:List α} {i:Nat} {x:α} (h:xs[i]?=some x):xs.take (i+1)=xs.take i++[x]:=by
  rw [List.take_add_one,h,Option.toList_some]
theorem map_at {α β:Type} {f:α->β} {xs:List α} {i:Nat} {x:α} (h:xs[i]?=some x):(xs.map f)[i]?=some (f x):=by rw [List.getElem?_map,h];rfl
theorem set_rep {α β:Type} {f:α->β} {l:List α} {i n:Nat} {x:α} {z:β} (hx:l[i]?=some x) (hi:i<n):((l.take i).map f++List.replicate (n-i) z).set i (f x)=(l.take (i+1)).map f++List.replicate (n-(i+1)) z:=by
  have hl:i<l.length:=(List.getElem?_eq_some_iff.1 hx).1
  have h1:((l.take i).map f).length=i:=by simp;omega
  rw [List.set_append_right _ _ (by omega),h1,Nat.sub_self,take_succ_at hx]
  have h2:n-i=(n-(i+1))+1:=by omega
  rw [h2,List.replicate_succ,List.set_cons_zero]
  simp
section
variable {P:Program} {n:Nat} {ρ:Env} {w:World} {o:Oper}
theorem max_if (x y:Int):(if y>x then y else x)=max x y:=by rw [Int.max_def];split<;>split<;>omega
theorem Y_max2 {xs:Array Operand} {ats:Array TypeId} {x y:Operand} (a b:Int) (ho:o.op= .call {callee:= .builtin .max,args:=xs,argTypes:=ats}) (hxs:xs=#[x,y]) (hx:ev ρ x= .int .i64 a) (hy:ev ρ y= .int .i64 b):
    Yields P ρ o (.int .i64 (max a b)) w:=by
  subst hxs
  unfold Yields execOp
  rw [ho]
  simp [hx,hy,resolve,invoke,builtin,Builtin.max_,Builtin.max2,max_if]
end
end Go.E

namespace Go.E
open Go.RowKit
inductive Plan where
  |fin
  |st (i:Nat) (s:Plan)
  |ef (i:Nat) (s:Plan)
  |fk (i j:Nat) (s t:Plan)
  |f3 (i j k:Nat) (s t u:Plan)
  |f4 (i j k l:Nat) (s t u v:Plan)
def Plan.sts:List Nat->Plan->Plan
  |[],s=>s
  |i::l,s=> .st i (Plan.sts l s)
def Plan.size:Plan->Nat
  | .fin=>0
  | .st _ s=>s.size+1
  | .ef _ s=>s.size+1
  | .fk _ _ s _=>s.size+1
  | .f3 _ _ _ s _ _=>s.size+1
  | .f4 _ _ _ _ s _ _ _=>s.size+1
def planB (ops:Array Oper) (E:List Nat):Plan->Array Bool->Bool
  | .fin,listed=>(Region.ready .any ops listed).isEmpty
  | .st i s,listed=>(Region.ready .any ops listed).contains i&&Region.free .any ops listed i&&!E.contains i&&planB ops E s (listed.setIfInBounds i true)
  | .ef i s,listed=>decide (Region.ready .any ops listed=[i])&&planB ops E s (listed.setIfInBounds i true)
  | .fk i j s t,listed=>decide (Region.ready .any ops listed=[i,j])&&decide (s.size=t.size)&&planB ops E s (listed.setIfInBounds i true)&&planB ops E t (listed.setIfInBounds j true)
  | .f3 i j k s t u,listed=>decide (Region.ready .any ops listed=[i,j,k])&&decide (s.size=t.size)&&decide (s.size=u.size)&&planB ops E s (listed.setIfInBounds i true)&&planB ops E t (listed.setIfInBounds j true)&&planB ops E u (listed.setIfInBounds k true)
  | .f4 i j k l s t u v,listed=>decide (Region.ready .any ops listed=[i,j,k,l])&&decide (s.size=t.size)&&decide (s.size=u.size)&&decide (s.size=v.size)&&planB ops E s (listed.setIfInBounds i true)&&planB ops E t (listed.setIfInBounds j true)&&planB ops E u (listed.setIfInBounds k true)&&planB ops E v (listed.setIfInBounds l true)
section
variable {P:Program} {ops:Array Oper} {E:List Nat}
def walkP (P:Program) (n:Nat) (ops:Array Oper) (E:List Nat) (L:Facts) (N:Env->World->Prop):Plan->Array Bool->Env->World->Prop
  | .fin,_,ρ,w=>N ρ w
  | .st i s,listed,ρ,w=>∃o v,ops[i]?=some o/\dstOK n o.dst=true/\SteadyE P n ops (factOf L i) o v ρ/\walkP P n ops E L N s (listed.setIfInBounds i true) (put ρ o.dst v) w
  | .ef i s,listed,ρ,w=>∃o,ops[i]?=some o/\OpsE P n ops [o] (fun ρ' w'=>held ops E (listed.setIfInBounds i true) w' L/\walkP P n ops E L N s (listed.setIfInBounds i true) ρ' w') ρ w
  | .fk i j s t,listed,ρ,w=>(∃o,ops[i]?=some o/\OpsE P n ops [o] (fun ρ' w'=>held ops E (listed.setIfInBounds i true) w' L/\walkP P n ops E L N s (listed.setIfInBounds i true) ρ' w') ρ w)/\
      ∃o,ops[j]?=some o/\OpsE P n ops [o] (fun ρ' w'=>held ops E (listed.setIfInBounds j true) w' L/\walkP P n ops E L N t (listed.setIfInBounds j true) ρ' w') ρ w
  | .f3 i j k s t u,listed,ρ,w=>(∃o,ops[i]?=some o/\OpsE P n ops [o] (fun ρ' w'=>held ops E (listed.setIfInBounds i true) w' L/\walkP P n ops E L N s (listed.setIfInBounds i true) ρ' w') ρ w)/\(∃o,ops[j]?=some o/\OpsE P n ops [o] (fun ρ' w'=>held ops E (listed.setIfInBounds j true) w' L/\walkP P n ops E L N t (listed.setIfInBounds j true) ρ' w') ρ w)/\(∃o,ops[k]?=some o/\OpsE P n ops [o] (fun ρ' w'=>held ops E (listed.setIfInBounds k true) w' L/\walkP P n ops E L N u (listed.setIfInBounds k true) ρ' w') ρ w)
  | .f4 i j k l s t u v,listed,ρ,w=>(∃o,ops[i]?=some o/\OpsE P n ops [o] (fun ρ' w'=>held ops E (listed.setIfInBounds i true) w' L/\walkP P n ops E L N s (listed.setIfInBounds i true) ρ' w') ρ w)/\(∃o,ops[j]?=some o/\OpsE P n ops [o] (fun ρ' w'=>held ops E (listed.setIfInBounds j true) w' L/\walkP P n ops E L N t (listed.setIfInBounds j true) ρ' w') ρ w)/\(∃o,ops[k]?=some o/\OpsE P n ops [o] (fun ρ' w'=>held ops E (listed.setIfInBounds k true) w' L/\walkP P n ops E L N u (listed.setIfInBounds k true) ρ' w') ρ w)/\(∃o,ops[l]?=some o/\OpsE P n ops [o] (fun ρ' w'=>held ops E (listed.setIfInBounds l true) w' L/\walkP P n ops E L N v (listed.setIfInBounds l true) ρ' w') ρ w)
theorem eff_any {n:Nat} {L:Facts} {N:Env->World->Prop} {i f:Nat} {o:Oper} {s:Plan} {listed:Array Bool} {ρ:Env} {w:World} {a:Act} (ha:Rep n ρ a) (ho:ops[i]?=some o)
    (ih:∀ρ' w' a',Rep n ρ' a'->held ops E (listed.setIfInBounds i true) w' L->walkP P n ops E L N s (listed.setIfInBounds i true) ρ' w'->wpAnyC P ops E L (fun a' w'=>∃ρ',Rep n ρ' a'/\N ρ' w') f (listed.setIfInBounds i true) a' w')
    (hw:OpsE P n ops [o] (fun ρ' w'=>held ops E (listed.setIfInBounds i true) w' L/\walkP P n ops E L N s (listed.setIfInBounds i true) ρ' w') ρ w):
    wpOp P ops (only (fun a' w'=>∃ρ',Rep n ρ' a'/\N ρ' w')) i (wpAnyC P ops E L (fun a' w'=>∃ρ',Rep n ρ' a'/\N ρ' w') f (listed.setIfInBounds i true)) a w:=by
  have h1:=hw a ha (fun e a' w'=>e= .normal/\∃ρ',Rep n ρ' a'/\held ops E (listed.setIfInBounds i true) w' L/\walkP P n ops E L N s (listed.setIfInBounds i true) ρ' w') (fun ρ' a' w' hr hk=>⟨rfl,ρ',hr,hk⟩)
  unfold wpList at h1
  unfold wpOp
  simp only [ho]
  have fin:∀a' w',wpList P ops (fun e a' w'=>e= .normal/\∃ρ',Rep n ρ' a'/\held ops E (listed.setIfInBounds i true) w' L/\walkP P n ops E L N s (listed.setIfInBounds i true) ρ' w') [] a' w'->
      wpAnyC P ops E L (fun a' w'=>∃ρ',Rep n ρ' a'/\N ρ' w') f (listed.setIfInBounds i true) a' w':=fun a' w' hh=>by
    obtain ⟨_,ρ',hr,hc',hk⟩:=hh
    exact ih ρ' w' a' hr hc' hk
  split
  · rename_i hwant
    simp only [hwant,if_true] at h1
    rcases h1 with h1|⟨_,a0,w0,h1,_⟩
    case inr=>cases h1
    left
    unfold Oper.wp at*
    generalize (execOp a.eval o).run P w=r at*
    cases r with
    |ok nx w'=>
      cases nx<;>simp only [Oper.upon] at h1⊢
      case value u=>exact fin _ _ h1
      case skip=>exact fin _ _ h1
      case defer d=>exact fin _ _ h1
      case enter f args=>
        refine h1.mono fun e w'' he=>?_
        cases e with
        |returned u=>exact fin _ _ he
        |panicked c=>exact absurd he.1 (by simp)
        |outgrown=>obtain ⟨_,_,h,_⟩:=he;cases h
      case row row args=>exact h1.mono fun u w'' he=>fin _ _ he
    |halt x w'=>cases x<;>simp only [Oper.upon] at h1<;>first|exact h1.elim|exact absurd h1.1 (by simp)
  · rename_i hwant
    simp only [hwant] at h1
    exact fin _ _ h1
theorem walk_plan {n:Nat} {L:Facts} {N:Env->World->Prop} (hsel:Region.noSelect ops=true):∀(s:Plan) (listed:Array Bool) (ρ:Env) (w:World) (a:Act),Rep n ρ a->Closed ops listed->held ops E listed w L->
    planB ops E s listed=true->walkP P n ops E L N s listed ρ w->wpAnyC P ops E L (fun a' w'=>∃ρ',Rep n ρ' a'/\N ρ' w') s.size listed a w
  | .fin,listed,ρ,w,a,ha,_,hc,hB,h=>⟨hc,by simpa [planB] using hB,ρ,ha,h⟩
  | .st i s,listed,ρ,w,a,ha,hcl,hc,hB,h=>by
    simp only [planB,Bool.and_eq_true,Bool.not_eq_true'] at hB
    obtain ⟨o,v,ho,hd,hs,hw⟩:=h
    have hr:i∈Region.ready .any ops listed:=by simpa using hB.1.1.1
    have hh2:held ops E (listed.setIfInBounds i true) w L:=by
      have hrl:∀x,rel ops E x listed=true->rel ops E x (listed.setIfInBounds i true)=true:=fun x hx=>by
        unfold rel at*
        obtain ⟨s,hs1,h⟩:=List.any_eq_true.1 hx
        simp only [Bool.and_eq_true] at h
        exact List.any_eq_true.2 ⟨s,hs1,by simp only [Bool.and_eq_true];exact ⟨getD_set_true h.1,h.2⟩⟩
      have key:∀M:Facts,held ops E listed w M->held ops E (listed.setIfInBounds i true) w M:=by
        intro M
        induction M with
        |nil=>intro _;trivial
        |cons x M ihM=>
          obtain ⟨i',p,v⟩:=x
          intro hM
          exact ⟨hM.1.imp (hrl _) id,ihM hM.2⟩
      exact key L hc
    exact wpAnyC_first hB.1.2 ho (Region.noSelect_spec hsel) s.size listed a w hcl (Region.free_spec ho hB.1.1.2) hr (hs.at ha) (factOf_held (rel_ready hcl hr) hc) hc
      (walk_plan hsel s _ _ w _ (ha.put hd v) (hcl.set hr) hh2 hB.2 hw)
  | .ef i s,listed,ρ,w,a,ha,hcl,hc,hB,h=>by
    simp only [planB,Bool.and_eq_true,decide_eq_true_eq] at hB
    obtain ⟨o,ho,hw⟩:=h
    refine ⟨hc,fun h=>(by rw [hB.1] at h;cases h),fun j hj=>?_⟩
    have hj2:=hj
    rw [hB.1] at hj
    have hji:j=i:=by simpa using hj
    subst hji
    exact eff_any ha ho (fun ρ' w' a' hr hc' hk=>walk_plan hsel s _ ρ' w' a' hr (hcl.set hj2) hc' hB.2 hk) hw
  | .fk i j s t,listed,ρ,w,a,ha,hcl,hc,hB,h=>by
    simp only [planB,Bool.and_eq_true,decide_eq_true_eq] at hB
    obtain ⟨⟨o,ho,hw⟩,o',ho',hw'⟩:=h
    obtain ⟨⟨⟨hr,hst⟩,hB1⟩,hB2⟩:=hB
    refine ⟨hc,fun h=>(by rw [hr] at h;cases h),fun k hk=>?_⟩
    have hk2:=hk
    rw [hr] at hk
    rcases List.mem_cons.1 hk with rfl|hk
    · exact eff_any ha ho (fun ρ' w' a' hr hc' hk=>walk_plan hsel s _ ρ' w' a' hr (hcl.set hk2) hc' hB1 hk) hw
    · have hkj:k=j:=by simpa using hk
      subst hkj
      exact eff_any ha ho' (fun ρ' w' a' hr hc' hk=>hst▸walk_plan hsel t _ ρ' w' a' hr (hcl.set hk2) hc' hB2 hk) hw'
  | .f3 i j m s t u,listed,ρ,w,a,ha,hcl,hc,hB,h=>by
    simp only [planB,Bool.and_eq_true,decide_eq_true_eq] at hB
    obtain ⟨⟨o,ho,hw⟩,⟨o',ho',hw'⟩,o'',ho'',hw''⟩:=h
    obtain ⟨⟨⟨⟨⟨hr,hst⟩,hsu⟩,hB1⟩,hB2⟩,hB3⟩:=hB
    refine ⟨hc,fun h=>(by rw [hr] at h;cases h),fun k hk=>?_⟩
    have hk2:=hk
    rw [hr] at hk
    rcases List.mem_cons.1 hk with rfl|hk
    · exact eff_any ha ho (fun ρ' w' a' hr hc' hk=>walk_plan hsel s _ ρ' w' a' hr (hcl.set hk2) hc' hB1 hk) hw
    · rcases List.mem_cons.1 hk with rfl|hk
      · exact eff_any ha ho' (fun ρ' w' a' hr hc' hk=>hst▸walk_plan hsel t _ ρ' w' a' hr (hcl.set hk2) hc' hB2 hk) hw'
      · have hkj:k=m:=by simpa using hk
        subst hkj
        exact eff_any ha ho'' (fun ρ' w' a' hr hc' hk=>hsu▸walk_plan hsel u _ ρ' w' a' hr (hcl.set hk2) hc' hB3 hk) hw''
  | .f4 i j m l s t u v,listed,ρ,w,a,ha,hcl,hc,hB,h=>by
    simp only [planB,Bool.and_eq_true,decide_eq_true_eq] at hB
    obtain ⟨⟨o,ho,hw⟩,⟨o',ho',hw'⟩,⟨o'',ho'',hw''⟩,o3,ho3,hw3⟩:=h
    obtain ⟨⟨⟨⟨⟨⟨⟨hr,hst⟩,hsu⟩,hsv⟩,hB1⟩,hB2⟩,hB3⟩,hB4⟩:=hB
    refine ⟨hc,fun h=>(by rw [hr] at h;cases h),fun k hk=>?_⟩
    have hk2:=hk
    rw [hr] at hk
    rcases List.mem_cons.1 hk with rfl|hk
    · exact eff_any ha ho (fun ρ' w' a' hr hc' hk=>walk_plan hsel s _ ρ' w' a' hr (hcl.set hk2) hc' hB1 hk) hw
    · rcases List.mem_cons.1 hk with rfl|hk
      · exact eff_any ha ho' (fun ρ' w' a' hr hc' hk=>hst▸walk_plan hsel t _ ρ' w' a' hr (hcl.set hk2) hc' hB2 hk) hw'
      · rcases List.mem_cons.1 hk with rfl|hk
        · exact eff_any ha ho'' (fun ρ' w' a' hr hc' hk=>hsu▸walk_plan hsel u _ ρ' w' a' hr (hcl.set hk2) hc' hB3 hk) hw''
        · have hkj:k=l:=by simpa using hk
          subst hkj
          exact eff_any ha ho3 (fun ρ' w' a' hr hc' hk=>hsv▸walk_plan hsel v _ ρ' w' a' hr (hcl.set hk2) hc' hB4 hk) hw3
theorem drawP {n:Nat} {K:Exit->Env->World->Prop} {ρ:Env} {w:World} {id:Nat} (E:List Nat) (L:Facts) (s:Plan) (hm:P.follows .mixedOrders=true)
    (hB:(Region.noSelect ops&&decide (s.size=ops.size)&&planB ops E s (Array.replicate ops.size false))=true) (hC:held ops E (Array.replicate ops.size false) w L)
    (h:walkP P n ops E L (K .normal) s (Array.replicate ops.size false) ρ {w with drawn:=w.drawn+1}):CodeE P n (.region id ops true) K ρ w:=by
  intro a ha
  simp only [Bool.and_eq_true,decide_eq_true_eq] at hB
  have hcl:Closed ops (Array.replicate ops.size false):=fun j oj _ hl=>by rw [none_listed] at hl;cases hl
  have hC2:held ops E (Array.replicate ops.size false) {w with drawn:=w.drawn+1} L:=by
    clear hB h
    induction L with
    |nil=>trivial
    |cons x L ih=>obtain ⟨i,p,v⟩:=x;exact ⟨hC.1,ih hC.2⟩
  have h1:=walk_plan hB.1.1 s _ ρ _ a ha hcl hC2 hB.2 h
  rw [hB.1.2] at h1
  refine wp_mono (wp_region_any hm (wpAny_of_C _ _ _ _ h1)) fun e a' w' hq=>?_
  obtain ⟨rfl,ρ',hr,hk⟩:=hq
  exact ⟨ρ',hr,hk⟩
variable {n:Nat} {L:Facts} {N:Env->World->Prop} {ρ:Env} {w:World} {s t:Plan} {listed:Array Bool}
theorem qN (h:N ρ w):walkP P n ops E L N .fin listed ρ w:=h
theorem qO {i:Nat} {o:Oper} (ho:ops[i]?=some o) (h:OpsE P n ops [o] (fun ρ' w'=>held ops E (listed.setIfInBounds i true) w' L/\walkP P n ops E L N s (listed.setIfInBounds i true) ρ' w') ρ w):
    walkP P n ops E L N (.ef i s) listed ρ w:=⟨o,ho,h⟩
theorem qF {i j:Nat} (h1:walkP P n ops E L N (.ef i s) listed ρ w) (h2:walkP P n ops E L N (.ef j t) listed ρ w):walkP P n ops E L N (.fk i j s t) listed ρ w:=⟨h1,h2⟩
theorem qP {s:Plan} {listed:Array Bool} (is:List Nat) (hl:(is.all fun i=>Nat.blt i ops.size)=true) (hk:pureB P n ops (sel ops is) ρ=true)
    (h:walkP P n ops E L N s (listAll is listed) (envP P n ops (sel ops is) ρ) w):walkP P n ops E L N (Plan.sts is s) listed ρ w:=by
  induction is generalizing ρ listed with
  |nil=>exact h
  |cons i is ih=>
    simp only [List.all_cons,Bool.and_eq_true] at hl
    simp only [sel,List.map_cons,pureB,Bool.and_eq_true] at hk
    have hi:i<ops.size:=by simpa using hl.1
    refine ⟨ops.getD i default,_,by simp [Array.getD,hi],hk.1.1,steadyP hk.1.2,ih hl.2 hk.2 h⟩
theorem qFix {s:Plan} {listed:Array Bool} (d:Nat) (t b:Bool) (hb:t=b) (h:walkP P n ops E L N s listed (upd ρ d (.bool b)) w) (hd:ρ d= .bool t:=by kernel_rfl):walkP P n ops E L N s listed ρ w:=by
  rwa [upd_self (hb▸hd)] at h
theorem qU {s:Plan} {listed:Array Bool} (is:List Nat) (h:walkP P n ops E L N s (listAll is listed) (envP P n ops (sel ops is) ρ) w) (hl:(is.all fun i=>Nat.blt i ops.size)=true:=by rfl) (hk:pureB P n ops (sel ops is) ρ=true:=by kernel_rfl):walkP P n ops E L N (Plan.sts is s) listed ρ w:=qP is hl hk h
end
end Go.E
namespace Go.E
set_option linter.unusedVariables false
def chB (cs:List Chunk) (i:Nat):Nat:=match cs[i]? with
  |some [(b, .cells _ _ _)]=>b
  |_=>0
def chC (cs:List Chunk) (i:Nat):Array Value:=match cs[i]? with
  |some [(_, .cells c _ _)]=>c
  |_=>#[]
def isC (cs:List Chunk) (i:Nat):Bool:=match cs[i]? with
  |some [(_, .cells _ _ _)]=>true
  |_=>false
theorem isC_eq {cs:List Chunk} {i:Nat} (h:isC cs i=true):∃E f,cs[i]?=some [(chB cs i, .cells (chC cs i) E f)]:=by
  unfold isC at h
  split at h
  · rename_i b c E f e;refine ⟨E,f,?_⟩;unfold chB chC;rw [e]
  · cases h
def fB (cs:List Chunk) (i j off:Nat):Nat->Facts
  |0=>[]
  |k+1=>(i,⟨chB cs j,off,none⟩,(chC cs j).getD off undef)::fB cs i j (off+1) k
def fP (i b off:Nat):Nat->List Value->Facts
  |_,[]=>[]
  |q,v::l=>(i,⟨b,off+q,none⟩,v)::fP i b off (q+1) l
inductive FG (cs:List Chunk):Facts->Prop
  |fn:FG cs []
  |b (i j off k:Nat) {L:Facts} (t:FG cs L) (h:(isC cs j&&Nat.ble (off+k) (chC cs j).size)=true):FG cs (fB cs i j off k++L)
  |q (i k:Nat) {b off:Nat} {l:List Value} {v:Value} {L:Facts} (hp:PtR cs b off l) (t:FG cs L) (h:l[k]?=some v):FG cs ((i,⟨b,off+k,none⟩,v)::L)
  |p (i:Nat) {b off:Nat} {l:List Value} {L:Facts} (hp:PtR cs b off l) (t:FG cs L):FG cs (fP i b off 0 l++L)
theorem fb {cs:List Chunk} {L:Facts} (i j off k:Nat) (t:FG cs L) (h:(isC cs j&&Nat.ble (off+k) (chC cs j).size)=true:=by kernel_rfl):FG cs (fB cs i j off k++L):= .b i j off k t h
theorem fq {cs:List Chunk} {L:Facts} {b off:Nat} {l:List Value} {v:Value} (i k:Nat) (hp:PtR cs b off l) (t:FG cs L) (h:l[k]?=some v:=by rfl):FG cs ((i,⟨b,off+k,none⟩,v)::L):= .q i k hp t h
theorem fp {cs:List Chunk} {L:Facts} {b off:Nat} {l:List Value} (i:Nat) (hp:PtR cs b off l) (t:FG cs L):FG cs (fP i b off 0 l++L):= .p i hp t
theorem fn {cs:List Chunk}:FG cs []:= .fn
section
variable {P:Program} {n:Nat} {ρ:Env} {W w:World} {cs:List Chunk} {ops:Array Oper} {E:List Nat} {listed:Array Bool} {N:Env->World->Prop} {L:Facts} {K:Exit->Env->World->Prop}
theorem held_app {L':Facts} (h:held ops E listed w L) (h':held ops E listed w L'):held ops E listed w (L++L'):=by
  induction L with
  |nil=>exact h'
  |cons x L ih=>obtain ⟨i,p,v⟩:=x;exact ⟨h.1,ih h.2⟩
theorem fB_held (hS:Sat W w cs) {i j:Nat}:∀{k off:Nat},(isC cs j&&Nat.ble (off+k) (chC cs j).size)=true->held ops E listed w (fB cs i j off k)
  |0,_,_=>trivial
  |k+1,off,h=>by
    simp only [Bool.and_eq_true] at h
    obtain ⟨F,f,hi⟩:=isC_eq h.1
    have hle:off+(k+1)<=(chC cs j).size:=Nat.le_of_ble_eq_true h.2
    refine ⟨.inr (hS.cell j hi ?_),fB_held hS ?_⟩
    · rw [Array.getD_eq_getD_getElem?,Array.getElem?_eq_getElem (by omega)];rfl
    · simp only [Bool.and_eq_true];exact ⟨h.1,Nat.ble_eq_true_of_le (by omega)⟩
theorem fP_held (hS:Sat W w cs) {i b off:Nat} {l:List Value} (hp:PtR cs b off l):∀{q:Nat} {l':List Value},l.drop q=l'->held ops E listed w (fP i b off q l')
  |_,[],_=>trivial
  |q,v::l',h=>by
    have hv:l[q]?=some v:=by rw [<-List.head?_drop,h];rfl
    refine ⟨.inr (hp.cell hS hv),fP_held hS hp ?_⟩
    rw [<-List.drop_drop,h];rfl
theorem FG.held (h:FG cs L) (hS:Sat W w cs):held ops E listed w L:=by
  induction h with
  |fn=>trivial
  |b i j off k _ h ih=>exact held_app (fB_held hS h) ih
  |q i k hp _ h ih=>exact ⟨.inr (hp.cell hS h),ih⟩
  |p i hp _ ih=>exact held_app (fP_held hS hp rfl) ih
def mkT (E:List Nat) (l:List Nat):Sched:=l.map fun i=>(!E.contains i,[i])
theorem drawF {id:Nat} (hS:Sat W w cs) (E:List Nat) (hL:FG cs L) (l:List Nat) (h:∀w',Sat W w' cs->walkE P n ops E L (K .normal) (flat (mkT E l)) (Array.replicate ops.size false) ρ w') (hm:P.follows .mixedOrders=true:=by rfl)
    (hB:(Region.noSelect ops&&decide ((flat (mkT E l)).length=ops.size)&&schedB ops E (flat (mkT E l)) (Array.replicate ops.size false))=true:=by kernel_rfl):CodeE P n (.region id ops true) K ρ w:=
  drawE E L (mkT E l) hm hB (hL.held hS) (h _ hS.drew)
theorem drawG {id:Nat} (hS:Sat W w cs) (E:List Nat) (hL:FG cs L) (s:Plan) (h:∀w',Sat W w' cs->walkP P n ops E L (K .normal) s (Array.replicate ops.size false) ρ w') (hm:P.follows .mixedOrders=true:=by rfl)
    (hB:(Region.noSelect ops&&decide (s.size=ops.size)&&planB ops E s (Array.replicate ops.size false))=true:=by kernel_rfl):CodeE P n (.region id ops true) K ρ w:=
  drawP E L s hm hB (hL.held hS) (h _ hS.drew)
theorem wV (k:Nat) {l:List Nat} (h:walkE P n ops E L N (flat (mkT E (l.drop k))) (listAll (l.take k) listed) (envP P n ops (sel ops (l.take k)) ρ) w) (hE:((l.take k).all fun i=>!E.contains i&&Nat.blt i ops.size)=true:=by rfl)
    (hk:pureB P n ops (sel ops (l.take k)) ρ=true:=by kernel_rfl):walkE P n ops E L N (flat (mkT E l)) listed ρ w:=by
  have he:flat (mkT E l)=flat ((true,l.take k)::mkT E (l.drop k)):=by
    have h1:∀m:List Nat,(m.all fun i=>!E.contains i&&Nat.blt i ops.size)=true->flat (mkT E m)=m.map fun i=>(true,i):=fun m=>by
      induction m with
      |nil=>intro _;rfl
      |cons a m ih=>
        intro h;simp only [List.all_cons,Bool.and_eq_true] at h
        have:=ih (by simpa only [List.all_eq_true,Bool.and_eq_true] using h.2)
        simp only [mkT,flat,List.map_cons,List.flatMap_cons,h.1.1,List.map_nil,List.cons_append,List.nil_append] at this⊢
        rw [this]
    have h2:flat (mkT E l)=flat (mkT E (l.take k))++flat (mkT E (l.drop k)):=by
      unfold flat mkT;rw [<-List.flatMap_append,<-List.map_append,List.take_append_drop]
    rw [h2,h1 _ hE];rfl
  rw [he]
  exact wU (l.take k) h (by rw [List.all_eq_true] at hE⊢;intro i hi;have:=hE i hi;simp only [Bool.and_eq_true] at this;exact this.2) hk
def facI (L:Facts) (k:Nat):Nat:=match L[k]? with|some x=>x.1|none=>0
def facA (L:Facts) (k:Nat):Option Addr:=match L[k]? with|some x=>some x.2.1|none=>none
def facV (L:Facts) (k:Nat):Value:=match L[k]? with|some x=>x.2.2|none=>undef
theorem fac_at {k i:Nat} {a:Addr} (hF:factOf L i w) (hi:facI L k=i) (ha:facA L k=some a):w.cell? a=some (facV L k):=by
  unfold facA at ha
  unfold facI at hi
  cases h:L[k]? with
  |none=>rw [h] at ha;cases ha
  |some x=>
    obtain ⟨i',p,v⟩:=x
    rw [h] at ha hi;cases ha;cases hi
    have:=hF k _ _ h
    unfold facV;rw [h];exact this
theorem fac_load {i k:Nat} {o:Oper} {t:TypeId} {x:Operand} (ho:o.op= .load t x) (hc:(pureRun P (isAgg t),facI L k,Value.pointer (facA L k))=(some false,i,ev ρ x)) (hn:(facA L k).isSome=true) (hF:factOf L i w):Yields P ρ o (facV L k) w:=by
  obtain ⟨a,ha⟩:=Option.isSome_iff_exists.1 hn
  simp only [Prod.mk.injEq] at hc
  exact Y_load ho (pureRun_run P _ _ hc.1 w) (by rw [<-hc.2.2,ha]) (fac_at hF hc.2.1 ha)
theorem wL (k:Nat) {s:Sched} {i:Nat} {o:Oper} {t:TypeId} {x:Operand} (h:walkE P n ops E L N (flat s) (listed.setIfInBounds i true) (put ρ o.dst (facV L k)) w) (hi:ops[i]?=some o:=by rfl) (ho:o.op= .load t x:=by rfl) (hd:dstOK n o.dst=true:=by rfl)
    (hg:guardP ops n ρ o.guard=some true:=by kernel_rfl) (hn:(facA L k).isSome=true:=by kernel_rfl) (hc:(pureRun P (isAgg t),facI L k,Value.pointer (facA L k))=(some false,i,ev ρ x):=by kernel_rfl):walkE P n ops E L N (flat ((true,[i])::s)) listed ρ w:=by
  refine ⟨o,_,hi,hd,?_,h⟩
  cases hq:o.guard with
  |none=>exact .inl ⟨hq,fun w hF=>fac_load ho hc hn hF⟩
  |some g=>obtain ⟨j,b⟩:=g;rw [hq] at hg;exact .inr (.inl ⟨j,b,hq,guardP_yes hg,fun w hF=>fac_load ho hc hn hF⟩)
theorem qL (k:Nat) {s:Plan} {i:Nat} {o:Oper} {t:TypeId} {x:Operand} (h:walkP P n ops E L N s (listed.setIfInBounds i true) (put ρ o.dst (facV L k)) w) (hi:ops[i]?=some o:=by rfl) (ho:o.op= .load t x:=by rfl) (hd:dstOK n o.dst=true:=by rfl)
    (hg:guardP ops n ρ o.guard=some true:=by kernel_rfl) (hn:(facA L k).isSome=true:=by kernel_rfl) (hc:(pureRun P (isAgg t),facI L k,Value.pointer (facA L k))=(some false,i,ev ρ x):=by kernel_rfl):walkP P n ops E L N (.st i s) listed ρ w:=by
  refine ⟨o,_,hi,hd,?_,h⟩
  cases hq:o.guard with
  |none=>exact .inl ⟨hq,fun w hF=>fac_load ho hc hn hF⟩
  |some g=>obtain ⟨j,b⟩:=g;rw [hq] at hg;exact .inr (.inl ⟨j,b,hq,guardP_yes hg,fun w hF=>fac_load ho hc hn hF⟩)
def facVs (L:Facts) (k m:Nat):List Value:=((L.drop k).take m).map fun x=>x.2.2
def facOk (L:Facts) (i k:Nat) (v:Value):Nat->List Nat×List Value
  |0=>([],[])
  |m+1=>match facOk L i k v m with
    |(a,b)=>(facI L (k+m)::a,Value.pointer (facA L (k+m))::b)
def facGo (i:Nat) (v:Value):Nat->List Nat×List Value
  |0=>([],[])
  |m+1=>match facGo i v m with
    |(a,b)=>(i::a,(match v with| .pointer (some ⟨c,o,none⟩)=> .pointer (some ⟨c,o+m,none⟩)|_=>undef)::b)
def isP':Value->Bool
  | .pointer (some ⟨_,_,none⟩)=>true
  |_=>false
theorem facs_cells {i k:Nat} {c off:Nat} (hF:factOf L i w):∀m:Nat,facOk L i k (.pointer (some ⟨c,off,none⟩)) m=facGo i (.pointer (some ⟨c,off,none⟩)) m->∀j<m,w.cell? ⟨c,off+j,none⟩=some (facV L (k+j))/\(L[k+j]?).isSome=true
  |0,_,j,hj=>by omega
  |m+1,h,j,hj=>by
    simp only [facOk,facGo,Prod.mk.injEq,List.cons.injEq] at h
    obtain ⟨⟨h1,h2⟩,h3,h4⟩:=h
    by_cases hjm:j=m
    · subst hjm
      have ha:facA L (k+j)=some ⟨c,off+j,none⟩:=by injection h3
      refine ⟨fac_at hF h1 ha,?_⟩
      unfold facA at ha
      cases hq:L[k+j]? with
      |none=>rw [hq] at ha;cases ha
      |some _=>rfl
    · exact facs_cells hF m (Prod.ext h2 h4) j (by omega)
theorem fac_loadA {i k m:Nat} {o:Oper} {t:TypeId} {x:Operand} (ho:o.op= .load t x) (hx:isP' (ev ρ x)=true) (hc:(pureRun P (isAgg t),pureRun P (sizeOf t),facOk L i k (ev ρ x) m)=(some true,some m,facGo i (ev ρ x) m)) (hF:factOf L i w):Yields P ρ o (.agg (facVs L k m).toArray) w:=by
  simp only [Prod.mk.injEq] at hc
  obtain ⟨ha,hs,hc⟩:=hc
  cases hv:ev ρ x with
  |pointer q=>
    cases q with
    |none=>rw [hv] at hx;cases hx
    |some q=>
      obtain ⟨c,off,r⟩:=q
      cases r with
      |some _=>rw [hv] at hx;cases hx
      |none=>
        rw [hv] at hc
        have hcell:=facs_cells hF m hc
        have hget:∀j<m,(facVs L k m)[j]?=some (facV L (k+j)):=fun j hj=>by
          unfold facVs facV
          rw [List.getElem?_map,List.getElem?_take,if_pos hj,List.getElem?_drop]
          have:=(hcell j hj).2
          cases hq:L[k+j]? with
          |none=>rw [hq] at this;cases this
          |some _=>rfl
        have hlen:(facVs L k m).length=m:=by
          have hle:(facVs L k m).length<=m:=by unfold facVs;rw [List.length_map,List.length_take];omega
          rcases Nat.lt_or_ge (facVs L k m).length m with hlt|hge
          · have:=hget _ hlt;rw [List.getElem?_eq_none (Nat.le_refl _)] at this;cases this
          · omega
        have hc':∀j v,(facVs L k m)[j]?=some v->w.cell? ((⟨c,off,none⟩:Addr).add j)=some v:=fun j v hj=>by
          have hjm:j<m:=by have:=(List.getElem?_eq_some_iff.1 hj).1;omega
          rw [hget j hjm] at hj;cases hj
          rw [add_off];exact (hcell j hjm).1
        have hr:=run_loadCells_list (P:=P) w ⟨c,off,none⟩ (facVs L k m) hc'
        rw [hlen] at hr
        unfold Yields execOp
        rw [ho]
        simp [Instr.loadAt,hv,Instr.sureAddr,loadVar,pureRun_run P _ _ ha w,pureRun_run P _ _ hs w,hr]
  |_=>rw [hv] at hx;cases hx
theorem wG (k m:Nat) {s:Sched} {i:Nat} {o:Oper} {t:TypeId} {x:Operand} (h:walkE P n ops E L N (flat s) (listed.setIfInBounds i true) (put ρ o.dst (.agg (facVs L k m).toArray)) w) (hi:ops[i]?=some o:=by rfl) (ho:o.op= .load t x:=by rfl) (hd:dstOK n o.dst=true:=by rfl)
    (hg:guardP ops n ρ o.guard=some true:=by kernel_rfl) (hx:isP' (ev ρ x)=true:=by kernel_rfl) (hc:(pureRun P (isAgg t),pureRun P (sizeOf t),facOk L i k (ev ρ x) m)=(some true,some m,facGo i (ev ρ x) m):=by kernel_rfl):walkE P n ops E L N (flat ((true,[i])::s)) listed ρ w:=by
  refine ⟨o,_,hi,hd,?_,h⟩
  cases hq:o.guard with
  |none=>exact .inl ⟨hq,fun w hF=>fac_loadA ho hx hc hF⟩
  |some g=>obtain ⟨j,b⟩:=g;rw [hq] at hg;exact .inr (.inl ⟨j,b,hq,guardP_yes hg,fun w hF=>fac_loadA ho hx hc hF⟩)
theorem qG (k m:Nat) {s:Plan} {i:Nat} {o:Oper} {t:TypeId} {x:Operand} (h:walkP P n ops E L N s (listed.setIfInBounds i true) (put ρ o.dst (.agg (facVs L k m).toArray)) w) (hi:ops[i]?=some o:=by rfl) (ho:o.op= .load t x:=by rfl) (hd:dstOK n o.dst=true:=by rfl)
    (hg:guardP ops n ρ o.guard=some true:=by kernel_rfl) (hx:isP' (ev ρ x)=true:=by kernel_rfl) (hc:(pureRun P (isAgg t),pureRun P (sizeOf t),facOk L i k (ev ρ x) m)=(some true,some m,facGo i (ev ρ x) m):=by kernel_rfl):walkP P n ops E L N (.st i s) listed ρ w:=by
  refine ⟨o,_,hi,hd,?_,h⟩
  cases hq:o.guard with
  |none=>exact .inl ⟨hq,fun w hF=>fac_loadA ho hx hc hF⟩
  |some g=>obtain ⟨j,b⟩:=g;rw [hq] at hg;exact .inr (.inl ⟨j,b,hq,guardP_yes hg,fun w hF=>fac_loadA ho hx hc hF⟩)
def slK:Value->Option (Option Addr×Nat)
  | .slice a n _=>some (a,n)
  |_=>none
def okI (P:Program) (t:TypeId) (sz:Nat):Bool:=match pureRun P (underlying t) with
  |some (.slice E)=>(match pureRun P (sizeOf E) with|some k=>Nat.beq k sz|none=>false)
  |_=>false
theorem okI_spec {t:TypeId} {sz:Nat} (h:okI P t sz=true):∃E,(∀w,(underlying t).run P w= .ok (.slice E) w)/\∀w,(sizeOf E).run P w= .ok sz w:=by
  unfold okI at h
  split at h
  · rename_i E e
    split at h
    · rename_i k e2;have:=Nat.eq_of_beq_eq_true h;subst this;exact ⟨E,pureRun_run P _ _ e,pureRun_run P _ _ e2⟩
    · cases h
  · cases h
theorem Y_idxI {t:TypeId} {x y:Operand} {o:Oper} {a:Option Addr} {i:Int} {len sz b off:Nat} (hq:ElemAt a i len sz b off) (ho:o.op= .indexAddr t x y) (hk:okI P t sz=true) (hx:slK (ev ρ x)=some (a,len)) (hy:ev ρ y= .int .i64 i):Yields P ρ o (.pointer (some ⟨b,off,none⟩)) w:=by
  obtain ⟨E,h1,h2⟩:=okI_spec hk
  cases hv:ev ρ x with
  |slice a' n' c'=>rw [hv] at hx;simp only [slK,Option.some.injEq,Prod.mk.injEq] at hx;obtain ⟨rfl,rfl⟩:=hx;exact Y_idx ho h1 h2 hv hy hq
  |_=>rw [hv] at hx;cases hx
theorem wI {s:Sched} {j:Nat} {t:TypeId} {x y:Operand} {o:Oper} {a:Option Addr} {i:Int} {len sz b off:Nat} (hq:ElemAt a i len sz b off) (h:walkE P n ops E L N (flat s) (listed.setIfInBounds j true) (put ρ o.dst (.pointer (some ⟨b,off,none⟩))) w) (hi:ops[j]?=some o:=by rfl) (ho:o.op= .indexAddr t x y:=by rfl) (hd:dstOK n o.dst=true:=by rfl)
    (hg:guardP ops n ρ o.guard=some true:=by kernel_rfl) (hk:okI P t sz=true:=by kernel_rfl) (hx:slK (ev ρ x)=some (a,len):=by kernel_rfl) (hy:ev ρ y= .int .i64 i:=by kernel_rfl):walkE P n ops E L N (flat ((true,[j])::s)) listed ρ w:=by
  refine ⟨o,_,hi,hd,?_,h⟩
  cases hq':o.guard with
  |none=>exact .inl ⟨hq',fun w _=>Y_idxI hq ho hk hx hy⟩
  |some g=>obtain ⟨j,b⟩:=g;rw [hq'] at hg;exact .inr (.inl ⟨j,b,hq',guardP_yes hg,fun w _=>Y_idxI hq ho hk hx hy⟩)
theorem qI {s:Plan} {j:Nat} {t:TypeId} {x y:Operand} {o:Oper} {a:Option Addr} {i:Int} {len sz b off:Nat} (hq:ElemAt a i len sz b off) (h:walkP P n ops E L N s (listed.setIfInBounds j true) (put ρ o.dst (.pointer (some ⟨b,off,none⟩))) w) (hi:ops[j]?=some o:=by rfl) (ho:o.op= .indexAddr t x y:=by rfl) (hd:dstOK n o.dst=true:=by rfl)
    (hg:guardP ops n ρ o.guard=some true:=by kernel_rfl) (hk:okI P t sz=true:=by kernel_rfl) (hx:slK (ev ρ x)=some (a,len):=by kernel_rfl) (hy:ev ρ y= .int .i64 i:=by kernel_rfl):walkP P n ops E L N (.st j s) listed ρ w:=by
  refine ⟨o,_,hi,hd,?_,h⟩
  cases hq':o.guard with
  |none=>exact .inl ⟨hq',fun w _=>Y_idxI hq ho hk hx hy⟩
  |some g=>obtain ⟨j,b⟩:=g;rw [hq'] at hg;exact .inr (.inl ⟨j,b,hq',guardP_yes hg,fun w _=>Y_idxI hq ho hk hx hy⟩)
def hz (ops:Array Oper) (E:List Nat) (listed:Array Bool) (cs:List Chunk):Facts->Nat->Nat->List Nat->List ((Bool×Addr×Option Value)×(Bool×Addr×Option Value))
  |[],_,_,_=>[]
  |(i,p,v)::L,last,cur,hs=>bif rel ops E i listed then hz ops E listed cs L last cur hs
    else match (bif Nat.beq (i+1) last then (cur,hs) else match hs with|h::hs=>(h,hs)|[]=>(0,[])) with
      |(c,hs)=>((true,p,some v),(isC cs c,⟨chB cs c,p.off,none⟩,(chC cs c)[p.off]?))::hz ops E listed cs L (i+1) c hs
theorem hz_held (hS:Sat W w cs):∀(L:Facts) (last cur:Nat) (hs:List Nat),(hz ops E listed cs L last cur hs).map Prod.fst=(hz ops E listed cs L last cur hs).map Prod.snd->held ops E listed w L
  |[],_,_,_,_=>trivial
  |(i,p,v)::L,last,cur,hs,h=>by
    unfold hz at h
    cases hr:rel ops E i listed with
    |true=>rw [hr,cond_true] at h;exact ⟨.inl hr,hz_held hS L _ _ _ h⟩
    |false=>
      rw [hr,cond_false] at h
      generalize (bif Nat.beq (i+1) last then (cur,hs) else match hs with|h::hs=>(h,hs)|[]=>(0,[]))=q at h
      obtain ⟨c,hs'⟩:=q
      simp only [List.map_cons,List.cons.injEq,Prod.mk.injEq] at h
      obtain ⟨⟨h1,h2,h3⟩,h4⟩:=h
      obtain ⟨F,f,hi⟩:=isC_eq h1.symm
      exact ⟨.inr (by rw [h2];exact hS.cell _ hi h3.symm),hz_held hS L _ _ _ h4⟩
theorem nA {X:Env->World->Prop} {l2:Array Bool} {ops0:Array Oper} (h:X ρ w) (hh:held ops E l2 w L:=by exact dA):OpsE P n ops0 [] (fun ρ' w'=>held ops E l2 w' L/\X ρ' w') ρ w:=nilO ⟨hh,h⟩
theorem nZ {X:Env->World->Prop} {l2:Array Bool} {ops0:Array Oper} (hS:Sat W w cs) (hs:List Nat) (h:X ρ w) (hh:(hz ops E l2 cs L 0 0 hs).map Prod.fst=(hz ops E l2 cs L 0 0 hs).map Prod.snd:=by kernel_rfl):OpsE P n ops0 [] (fun ρ' w'=>held ops E l2 w' L/\X ρ' w') ρ w:=nilO ⟨hz_held hS L 0 0 hs hh,h⟩
end
end Go.E
