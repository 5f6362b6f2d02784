/- Joined texts, part 3: lemmas for the statement. No condition. -/
import Derived.Test.YtjhkgjlmiolfoaaGreatL2
import Derived.Test.YtjhkgjlmiolfoaaGreatProg
import Derived.KernelRfl
import Derived.Lib.Bytealg
set_option maxHeartbeats 4000000
set_option linter.unusedSimpArgs false
set_option linter.unusedVariables false
open Nat (reduceEqDiff reduceLT reduceLeDiff reduceMul reduceAdd reduceSub)
open Go.IntKind (i64)
open Go.Proofs.Tryz
open Go.Proofs.Tryz renaming prog → pw
open List hiding Mem cons idxOf nil
open Nat (le_refl not_lt_zero zero_le lt_succ_iff_lt_or_eq le_trans)
open Bool (and_eq_true not_eq_true' not_eq_false' and_eq_false_iff or_eq_true not_eq_false)
open Int (reduceEq toNat_of_nonneg toNat_natCast)
namespace Go.cv
open Go.RowKit
variable{P:Program}{N:Nat}{own:List Nat}{ops:Array Oper}{K:Env->aA->Prop}{env:Env}{H:aA}
def ahR(P:Program)(o:Oper)(W:Env->aA->Prop)(env:Env)(H:aA):Prop:=∃x,y5 P o (ev env) H x/\W (cL env o.dst (.p x)) H
def aw3(P:Program)(own:List Nat)(ops:Array Oper)(o:Oper)(W:Env->aA->Prop)(env:Env)(H:aA):Prop:=∃x,y5 P o (ev env) (pH own ops H) x/\W (cL env o.dst (.p x)) H
def afA(P:Program)(own:List Nat)(ops:Array Oper)(o:Oper)(W:Env->aA->Prop)(env:Env)(H:aA):Prop:=∃v H',afw P own ops o (ev env) H v H'/\W (cL env o.dst v) H'
def ahS(own:List Nat)(o:Oper)(env:Env):Prop:=match o.op with
 | .store _ (.tmp d) _=>∃off,env d = .ptr d off
 |_=>aee own o env
def isS:oE->Bool
 | .s=>true
 |_=>false
def afB(own:List Nat)(ops:Array Oper)(l:List (Oper×oE)):Bool:=l.all λx=>!qc own ops x.1||isS x.2
theorem ajx{o:Oper}{env:Env}(h:qc own ops o=true->ahS own o env):ado own ops o env:=by
 obtain⟨dst,op,t,pos,af,g⟩:=o;refine⟨?_,λha=>?_⟩
 ·cases op<;>try trivial
  case store e a x =>
   cases a<;>try trivial
   rename_i k;intro hn;have h1:qc own ops ⟨dst,.store e (.tmp k) x,t,pos,af,g⟩=true:=by unfold qc;simp only[hn,Bool.true_or]
   exact h h1
 ·have h1:qc own ops ⟨dst,op,t,pos,af,g⟩=true:=by unfold qc;rw[ha,Bool.or_true]
  have h2:=h h1;cases op<;>first|exact h2|skip
  case store e a x=>simp[za,appArg] at ha
def abk(own:List Nat)(o:Oper):Bool:=match o.dst with
 |some d=>!own.contains d
 |none=>true
def gl(P:Program)(N:Nat)(own:List Nat)(ops:Array Oper):List (Oper×oE)->(Env->aA->Prop)->Env->aA->Prop
 | [],K,env,H=>K env H
 |(o,c) :: rest,K,env,H=>uO N o.dst/\match lE ops o env with
  |some true=>(match c with
   | .p=>nc o=true/\abk own o=true/\(match gC P o (ev env) cq with
    |some (pre,v,_)=>pre/\gl P N own ops rest K (cL env o.dst v) H
    |none=>False)
   | .q=>bS own o=true/\(match gC P o (ev env) H with
    |some (pre,v,_)=>pre/\gl P N own ops rest K (cL env o.dst v) H
    |none=>ahR P o (gl P N own ops rest K) env H)
   | .b=>bS own o=true/\(match gC P o (ev env) (tc H) with
    |some (pre,v,_)=>pre/\gl P N own ops rest K (cL env o.dst v) H
    |none=>False)
   | .o=>bS own o=true/\(match gC P o (ev env) (pH own ops H) with
    |some (pre,v,_)=>pre/\gl P N own ops rest K (cL env o.dst v) H
    |none=>aw3 P own ops o (gl P N own ops rest K) env H)
   | .w=>(match gj P own o (ev env) H with
    |some (pre,v,H')=>pre/\gl P N own ops rest K (cL env o.dst v) H'
    |none=>False)
   | .s=>ahS own o env/\(match gj P own o (ev env) H with
    |some (pre,v,H')=>pre/\gl P N own ops rest K (cL env o.dst v) H'
    |none=>False)
   | .f=>bS own o=true/\afA P own ops o (gl P N own ops rest K) env H
   | .t=>opK P own o (gl P N own ops rest K) env H)
  |some false=>gl P N own ops rest K (cL env o.dst (.dW [])) H
  |none=>False
theorem jb:∀ (l:List (Oper×oE)) (env:Env) (H:aA),afB own ops l=true->gl P N own ops l K env H->alh P N own ops l K env H
 | [],env,H,_,h=>h
 |(o,c) :: rest,env,H,hcl,h=>by
  obtain⟨hd,h⟩:=h;refine⟨hd,?_⟩;have rR:afB own ops rest=true:=by unfold afB at hcl ⊢;rw[all_cons,and_eq_true] at hcl;exact hcl.2
  have hc1:isS c=false->ado own ops o env:=λhc=>ajx λhn=>by unfold afB at hcl;rw[all_cons,and_eq_true] at hcl;have:=hcl.1;simp only[hn,hc] at this;cases this
  split at h
  ·rename_i hg;cases c with
   |p =>
    simp only at h;obtain⟨h1,h2,h⟩:=h;split at h
    ·rename_i pre v H' hx;exact .inr ⟨rfl,v,H,.inr ⟨hg,hc1 rfl,pre,asL h1 hx,h.1,rfl,h2⟩,rfl,jb rest _ H rR h.2⟩
    ·exact h.elim
   |q =>
    simp only at h;obtain⟨h1,h⟩:=h;have hno:abk own o=true:=by unfold bS at h1;rw[and_eq_true] at h1;exact h1.1
    have hall:gj P own o (ev env) H=gC P o (ev env) H:=j4 hno;split at h
    ·rename_i pre v H' hx;have:H'=H:=sK h1 (hall.trans hx);subst this;exact .inr ⟨rfl,v,_,.inr ⟨hg,hc1 rfl,h1,rfl,.inl ⟨pre,hx,h.1⟩⟩,rfl,jb rest _ _ rR h.2⟩
    ·rename_i hx;obtain⟨x,hc,hw⟩:=h;exact .inr ⟨rfl,.p x,H,.inr ⟨hg,hc1 rfl,h1,rfl,.inr ⟨x,rfl,hc,hall.trans hx⟩⟩,rfl,jb rest _ H rR hw⟩
   |b =>
    simp only at h;obtain⟨h1,h⟩:=h;have hno:abk own o=true:=by unfold bS at h1;rw[and_eq_true] at h1;exact h1.1
    split at h
    ·rename_i pre v H' hx;have:H'=tc H:=sK h1 ((j4 (H:=tc H) hno).trans hx);subst this;exact .inr ⟨rfl,v,H,.inr ⟨hg,hc1 rfl,h1,rfl,pre,hx,h.1⟩,rfl,jb rest _ _ rR h.2⟩
    ·exact h.elim
   |w =>
    simp only at h;split at h
    ·rename_i pre v H' hx;exact .inr ⟨rfl,v,H',.inr ⟨hg,hc1 rfl,pre,hx,h.1⟩,trivial,jb rest _ H' rR h.2⟩
    ·exact h.elim
   |s =>
    simp only at h;obtain⟨hp,h⟩:=h;split at h
    ·rename_i pre v H' hx;exact .inr ⟨rfl,v,H',.inr ⟨hg,ajx λ_=>hp,pre,hx,h.1⟩,trivial,jb rest _ H' rR h.2⟩
    ·exact h.elim
   |f=>simp only at h;obtain⟨h1,v,H',hc,hw⟩:=h;exact .inr ⟨rfl,v,H',.inr ⟨hg,hc1 rfl,h1,hc⟩,trivial,jb rest _ H' rR hw⟩
   |t=>exact .inl ⟨rfl,.inr ⟨hg,ald (λe G hw=>jb rest e G rR hw) h⟩⟩
   |o =>
    simp only at h;obtain⟨h1,h⟩:=h;have hno:abk own o=true:=by unfold bS at h1;rw[and_eq_true] at h1;exact h1.1
    have hall:gj P own o (ev env) (pH own ops H)=gC P o (ev env) (pH own ops H):=j4 hno;split at h
    ·rename_i pre v H' hx;have:H'=pH own ops H:=sK h1 (hall.trans hx);subst this;exact .inr ⟨rfl,v,H,.inr ⟨hg,hc1 rfl,h1,rfl,.inl ⟨pre,hx,h.1⟩⟩,rfl,jb rest _ _ rR h.2⟩
    ·rename_i hx;obtain⟨x,hc,hw⟩:=h;exact .inr ⟨rfl,.p x,H,.inr ⟨hg,hc1 rfl,h1,rfl,.inr ⟨x,rfl,hc,hall.trans hx⟩⟩,rfl,jb rest _ H rR hw⟩
  ·rename_i hg;cases hc:isT c with
   |true=>exact .inl ⟨rfl,.inl ⟨hg,jb rest _ H rR h⟩⟩
   |false=>exact .inr ⟨rfl,.dW [],H,.inl ⟨hg,rfl,rfl⟩,by cases c<;>trivial,jb rest _ H rR h⟩
  ·exact h.elim
def afC(N:Nat)(ops:Array Oper):Bool:=ops.toList.all λo=>match o.dst with
 |some d=>decide (d<N)
 |none=>true
theorem ze(h:afC N ops=true):∀ (i:Nat) o,ops[i]? = some o->uO N o.dst:=λi o ho=>by
 have:=all_eq_true.1 h o (by
  have:=Array.mem_of_getElem? ho;simpa using this)
 cases hd:o.dst with
 |none=>trivial
 |some d=>rw[hd] at this;show d<N;exact ct this
def aw4(cs:List oE):List (Nat×oE):=(range cs.length).zip cs
def acd(N:Nat)(own:List Nat)(ops:Array Oper)(m:List Nat)(cs:List oE):Bool:=afz own ops m (aw4 cs)&&afC N ops&&cs.length == ops.size&&afB own ops (ops.toList.zip cs)
theorem aeE{l:List Oper}{cs:List oE}(h:cs.length=l.length):((range cs.length).zip cs).filterMap (λx=>l.toArray[x.1]?)=l:=by
 have:((range cs.length).zip cs).filterMap (λx=>l.toArray[x.1]?)=(((range cs.length).zip cs).map (·.1)).filterMap (λi=>l.toArray[i]?):=by rw[filterMap_map];rfl
 rw[this,map_fst_zip (by simp),h];apply ext_getElem?;intro j;have hf:(range l.length).filterMap (λi=>l.toArray[i]?)=l:=by
  have e:∀k,k<=l.length->(range k).filterMap (λi=>l.toArray[i]?)=l.take k:=by
   intro k
   induction k with
   |zero=>intro _;simp
   |succ k ih =>
    intro hk;rw[range_succ,filterMap_append,ih (by omega),take_add_one];congr 1;have:l[k]? = some (l[k]'(by omega)):=by simp
    simp[this]
  rw[e l.length (le_refl _),take_length]
 rw[hf]
theorem asR{l:List Oper}(m:List Nat)(cs:List oE)(hok:acd N own l.toArray m cs=true)(hw:gl P N own l.toArray (l.zip cs) K env H):vI P N own l.toArray K env H:=by
 unfold acd at hok;simp only[and_eq_true,beq_iff_eq] at hok;obtain⟨⟨⟨h1,h2⟩,h3⟩,h4⟩:=hok;have h3:cs.length=l.length:=by simpa using h3
 refine ahQ m (aw4 cs) (l.zip cs) h1 ?_ ?_ (ze h2) (jb _ _ _ (by simpa using h4) hw)
 ·rw[map_fst_zip (by omega)];exact (aeE h3).symm
 ·rw[map_snd_zip (by omega)];unfold aw4;rw[map_snd_zip (by simp)]
theorem asS{l:List Oper}(m:List Nat)(pc:List (Nat×oE))(hok:(afz own l.toArray m pc&&afC N l.toArray)=true)(os:List (Oper×oE))(hcl:afB own l.toArray os=true)(h1:os.map (·.1)=pc.filterMap (λx=>l.toArray[x.1]?))(h2:os.map (·.2)=pc.map (·.2))
  (hw:gl P N own l.toArray os K env H):vI P N own l.toArray K env H:=by
 rw[and_eq_true] at hok;exact ahQ m pc os hok.1 h1 h2 (ze hok.2) (jb _ _ _ hcl hw)
def uR(P : Program)(N : Nat)(own : List Nat)(ops : Array Oper)(c : oE)(o : Oper)(rest : List (Oper × oE))(K : Env → aA → Prop)(env : Env)(H : aA) : Prop := match c with
   | .p=>nc o=true/\abk own o=true/\(match gC P o (ev env) cq with
    |some (pre,v,_)=>pre/\gl P N own ops rest K (cL env o.dst v) H
    |none=>False)
   | .q=>bS own o=true/\(match gC P o (ev env) H with
    |some (pre,v,_)=>pre/\gl P N own ops rest K (cL env o.dst v) H
    |none=>ahR P o (gl P N own ops rest K) env H)
   | .b=>bS own o=true/\(match gC P o (ev env) (tc H) with
    |some (pre,v,_)=>pre/\gl P N own ops rest K (cL env o.dst v) H
    |none=>False)
   | .o=>bS own o=true/\(match gC P o (ev env) (pH own ops H) with
    |some (pre,v,_)=>pre/\gl P N own ops rest K (cL env o.dst v) H
    |none=>aw3 P own ops o (gl P N own ops rest K) env H)
   | .w=>(match gj P own o (ev env) H with
    |some (pre,v,H')=>pre/\gl P N own ops rest K (cL env o.dst v) H'
    |none=>False)
   | .s=>ahS own o env/\(match gj P own o (ev env) H with
    |some (pre,v,H')=>pre/\gl P N own ops rest K (cL env o.dst v) H'
    |none=>False)
   | .f=>bS own o=true/\afA P own ops o (gl P N own ops rest K) env H
   | .t=>opK P own o (gl P N own ops rest K) env H
def aoq(P:Program)(N:Nat)(own:List Nat)(ops:Array Oper)(r:Option (Prop×AV×aA))(o:Oper)(rest:List (Oper×oE))(K:Env->aA->Prop)(env:Env)(H:aA):Prop:=match r with
 |some (pre,v,H')=>pre/\gl P N own ops rest K (cL env o.dst v) H'
 |none=>jF P o (gl P N own ops rest K) env H
def aw5(P:Program)(N:Nat)(own:List Nat)(ops:Array Oper)(r:Option (Prop×AV×aA))(o:Oper)(rest:List (Oper×oE))(K:Env->aA->Prop)(env:Env)(H:aA):Prop:=match r with
 |some (pre,v,_)=>pre/\gl P N own ops rest K (cL env o.dst v) H
 |none=>aw3 P own ops o (gl P N own ops rest K) env H
def wj(P : Program)(N : Nat)(own : List Nat)(ops : Array Oper)(g : Option Bool)(c : oE)(o : Oper)(rest : List (Oper × oE))(K : Env → aA → Prop)(env : Env)(H : aA) : Prop := match g with
  |some true=>uR P N own ops c o rest K env H
  |some false=>gl P N own ops rest K (cL env o.dst (.dW [])) H
  |none=>False
def aor(P:Program)(N:Nat)(own:List Nat)(ops:Array Oper)(r:Option (Prop×AV×aA))(o:Oper)(rest:List (Oper×oE))(K:Env->aA->Prop)(env:Env)(H:aA):Prop:=match r with
 |some (pre,v,_)=>pre/\gl P N own ops rest K (cL env o.dst v) H
 |none=>ahR P o (gl P N own ops rest K) env H
def aos(P:Program)(N:Nat)(own:List Nat)(ops:Array Oper)(r:Option (Prop×AV×aA))(o:Oper)(rest:List (Oper×oE))(K:Env->aA->Prop)(env:Env):Prop:=match r with
 |some (pre,v,H')=>pre/\gl P N own ops rest K (cL env o.dst v) H'
 |none=>False
def aot(P:Program)(N:Nat)(own:List Nat)(ops:Array Oper)(r:Option (Prop×AV×aA))(o:Oper)(rest:List (Oper×oE))(K:Env->aA->Prop)(env:Env)(H:aA):Prop:=match r with
 |some (pre,v,_)=>pre/\gl P N own ops rest K (cL env o.dst v) H
 |none=>False
section
variable(o:Oper)(rest:List (Oper×oE))
theorem asT:gl P N own ops [] K env H=K env H:=rfl
theorem aou(c:oE):gl P N own ops ((o,c) :: rest) K env H=(uO N o.dst/\wj P N own ops (lE ops o env) c o rest K env H):=by rw[gl.eq_def];unfold wj uR;rfl
theorem ali(c:oE):wj P N own ops (some true) c o rest K env H=uR P N own ops c o rest K env H:=rfl
theorem ajy(c:oE):wj P N own ops (some false) c o rest K env H=gl P N own ops rest K (cL env o.dst (.dW [])) H:=rfl
theorem aw6:uR P N own ops .p o rest K env H=(nc o=true/\abk own o=true/\aot P N own ops (gC P o (ev env) cq) o rest K env H):=rfl
theorem aw7:uR P N own ops .q o rest K env H=(bS own o=true/\aor P N own ops (gC P o (ev env) H) o rest K env H):=rfl
theorem aw8:uR P N own ops .b o rest K env H=(bS own o=true/\aot P N own ops (gC P o (ev env) (tc H)) o rest K env H):=rfl
theorem aw9:uR P N own ops .w o rest K env H=aos P N own ops (gj P own o (ev env) H) o rest K env:=rfl
theorem axa:uR P N own ops .o o rest K env H=(bS own o=true/\aw5 P N own ops (gC P o (ev env) (pH own ops H)) o rest K env H):=rfl
theorem axb:uR P N own ops .s o rest K env H=(ahS own o env/\aos P N own ops (gj P own o (ev env) H) o rest K env):=rfl
theorem axc:uR P N own ops .f o rest K env H=(bS own o=true/\afA P own ops o (gl P N own ops rest K) env H):=rfl
theorem axd:uR P N own ops .t o rest K env H=aoq P N own ops (gj P own o (ev env) H) o rest K env H:=rfl
theorem alj(pre:Prop)(v:AV)(H':aA):aoq P N own ops (some (pre,v,H')) o rest K env H=(pre/\gl P N own ops rest K (cL env o.dst v) H'):=rfl
theorem alk:aoq P N own ops none o rest K env H=jF P o (gl P N own ops rest K) env H:=rfl
attribute [go_sem] axd alj alk
theorem alm(pre:Prop)(v:AV)(H':aA):aw5 P N own ops (some (pre,v,H')) o rest K env H=(pre/\gl P N own ops rest K (cL env o.dst v) H):=rfl
theorem aln(pre:Prop)(v:AV)(H':aA):aot P N own ops (some (pre,v,H')) o rest K env H=(pre/\gl P N own ops rest K (cL env o.dst v) H):=rfl
theorem alo(pre:Prop)(v:AV)(H':aA):aor P N own ops (some (pre,v,H')) o rest K env H=(pre/\gl P N own ops rest K (cL env o.dst v) H):=rfl
theorem alp:aor P N own ops none o rest K env H=ahR P o (gl P N own ops rest K) env H:=rfl
theorem alq(pre:Prop)(v:AV)(H':aA):aos P N own ops (some (pre,v,H')) o rest K env=(pre/\gl P N own ops rest K (cL env o.dst v) H'):=rfl
end
section
variable(d:Option Tmp)(t u:TypeId)(pos:String)(af:Array Edge)(g:Option (Nat×Bool))
def pI(own:List Nat):Option Tmp->Bool
 |some d=>!own.contains d
 |none=>true
theorem asU(k:Nat):pI own (some k) = !own.contains k:=rfl
theorem asV(o:Oper):abk own o=pI own o.dst:=rfl
theorem alr(e:TypeId)(k:Nat)(x:Operand):ahS own ⟨d,.store e (.tmp k) x,t,pos,af,g⟩ env = ∃off,env k = .ptr k off:=rfl
theorem aA9(own:List Nat)(ops:Array Oper)(H:aA)(i:Nat):pH own ops H i=if lK own ops i=true then none else H i:=rfl
def bxC:Option Chunk->Option Chunk
 |some (.box cs)=>some (.box cs)
 |_=>none
theorem aBa(H:aA)(i:Nat):tc H i=bxC (H i):=by
 unfold tc bxC;cases H i with
 |none=>rfl
 |some c=>cases c<;>rfl
theorem aBb(cs:List AV):bxC (some (.box cs))=some (.box cs):=rfl
theorem alu(x:Operand):nc ⟨d,.move x,t,pos,af,g⟩=true:=rfl
theorem ag7(x:Operand):nc ⟨d,.assign x,t,pos,af,g⟩=true:=rfl
theorem alv(x y z:Operand):nc ⟨d,.pick x y z,t,pos,af,g⟩=true:=rfl
theorem alw(x:Operand):nc ⟨d,.load u x,t,pos,af,g⟩=true:=rfl
theorem adr(x:Operand)(k:Nat):nc ⟨d,.fieldAddr u x k,t,pos,af,g⟩=true:=rfl
theorem ads(x y:Operand):nc ⟨d,.indexAddr u x y,t,pos,af,g⟩=true:=rfl
theorem afD(x:Operand)(k:Nat):nc ⟨d,.extract x k,t,pos,af,g⟩=true:=rfl
theorem ajz(op:BinOp)(x y:Operand)(v:TypeId):nc ⟨d,.binOp op u x y v,t,pos,af,g⟩=true:=rfl
theorem alx(op:UnOp)(x:Operand):nc ⟨d,.unOp op u x,t,pos,af,g⟩=true:=rfl
theorem ajA(x:Array (Nat×Operand)):nc ⟨d,.build u x,t,pos,af,g⟩=true:=rfl
theorem ace(n:Nat)(x:Array (Nat×Operand)):nc ⟨d,.buildSlice u n x,t,pos,af,g⟩=true:=rfl
theorem ajB(x:Operand)(l h m:Option Operand):nc ⟨d,.slice u x l h m,t,pos,af,g⟩=true:=rfl
theorem aeF(x:Operand):nc ⟨d,.nilCheck x,t,pos,af,g⟩=true:=rfl
theorem aly(c:Call):nc ⟨d,.call c,t,pos,af,g⟩=true:=rfl
theorem quiet_move(x:Operand):bS own ⟨d,.move x,t,pos,af,g⟩=pI own d:=by cases d<;>simp only[bS,pI,Bool.and_true]
theorem quiet_assign(x:Operand):bS own ⟨d,.assign x,t,pos,af,g⟩=pI own d:=by cases d<;>simp only[bS,pI,Bool.and_true]
theorem aov(x y z:Operand):bS own ⟨d,.pick x y z,t,pos,af,g⟩=pI own d:=by cases d<;>simp only[bS,pI,Bool.and_true]
theorem aow(x:Operand):bS own ⟨d,.load u x,t,pos,af,g⟩=pI own d:=by cases d<;>simp only[bS,pI,Bool.and_true]
theorem aeG(x:Operand)(k:Nat):bS own ⟨d,.fieldAddr u x k,t,pos,af,g⟩=pI own d:=by cases d<;>simp only[bS,pI,Bool.and_true]
theorem aeH(x y:Operand):bS own ⟨d,.indexAddr u x y,t,pos,af,g⟩=pI own d:=by cases d<;>simp only[bS,pI,Bool.and_true]
theorem ag8(x:Operand)(k:Nat):bS own ⟨d,.extract x k,t,pos,af,g⟩=pI own d:=by cases d<;>simp only[bS,pI,Bool.and_true]
theorem alz(op:BinOp)(x y:Operand)(v:TypeId):bS own ⟨d,.binOp op u x y v,t,pos,af,g⟩=pI own d:=by cases d<;>simp only[bS,pI,Bool.and_true]
theorem aox(op:UnOp)(x:Operand):bS own ⟨d,.unOp op u x,t,pos,af,g⟩=pI own d:=by cases d<;>simp only[bS,pI,Bool.and_true]
theorem ag9(x:Operand)(v:TypeId):bS own ⟨d,.convert u v x,t,pos,af,g⟩=pI own d:=by cases d<;>simp only[bS,pI,Bool.and_true]
theorem alA(x:Array (Nat×Operand)):bS own ⟨d,.build u x,t,pos,af,g⟩=pI own d:=by cases d<;>simp only[bS,pI,Bool.and_true]
theorem alB(x:Operand)(l h m:Option Operand):bS own ⟨d,.slice u x l h m,t,pos,af,g⟩=pI own d:=by cases d<;>simp only[bS,pI,Bool.and_true]
theorem afE(x:Operand):bS own ⟨d,.nilCheck x,t,pos,af,g⟩=pI own d:=by cases d<;>simp only[bS,pI,Bool.and_true]
theorem alC(f:Operand)(xs:Array Operand)(ts:Array TypeId):bS own ⟨d,.call ⟨.value f,xs,ts⟩,t,pos,af,g⟩=pI own d:=by cases d<;>simp only[bS,pI,Bool.and_true]
theorem asW(xs:Array Operand)(ts:Array TypeId):bS own ⟨d,.call ⟨.builtin .len,xs,ts⟩,t,pos,af,g⟩=pI own d:=by cases d<;>simp only[bS,pI,Bool.and_true]
end
def kL(o:Oper)(ρ:Operand->AV)(H:aA):Option (FuncId×List PV×Bool):=match dP o ρ with
 |some (k,eS)=>(match eC (gR H) eS with
  |some (ps,b)=>some (k,ps,b)
  |none=>none)
 |none=>none
def afF(k:FuncId)(r:Option (List PV×Bool)):Option (FuncId×List PV×Bool):=match r with
 |some (ps,b)=>some (k,ps,b)
 |none=>none
def ajC(f:AV)(eS:List AV)(H:aA):Option (FuncId×List PV×Bool):=match f with
 | .p (.iK (.func k) fs cs)=>afF k (eC (gR H) (fs.map AV.p++eS++cs.map AV.p))
 | .iK (.func k) fs cs=>afF k (eC (gR H) (fs++eS++cs))
 |_=>none
theorem ajD(d:Option Tmp)(t:TypeId)(pos:String)(af:Array Edge)(g:Option (Nat×Bool))(f:Operand)(xs:Array Operand)(ts:Array TypeId)(ρ:Operand->AV) :
  kL ⟨d,.call ⟨.value f,xs,ts⟩,t,pos,af,g⟩ ρ H=ajC (ρ f) (xs.toList.map ρ) H:=by
 unfold kL dP ajC;simp only[];cases ρ f with
 |p x=>cases x with
  |iK fn fs cs=>cases fn<;>rfl
  |_=>rfl
 |iK fn fs cs=>cases fn<;>rfl
 |_=>rfl
theorem axe(k:FuncId)(fs cs:List PV)(eS:List AV):ajC (.p (.iK (.func k) fs cs)) eS H=afF k (eC (gR H) (fs.map AV.p++eS++cs.map AV.p)):=rfl
theorem aoy(k:FuncId)(fs cs eS:List AV):ajC (.iK (.func k) fs cs) eS H=afF k (eC (gR H) (fs++eS++cs)):=rfl
theorem alD(k:FuncId)(ps:List PV)(b:Bool):afF k (some (ps,b))=some (k,ps,b):=rfl
theorem acf{o:Oper}{ρ:Operand->AV}{k:FuncId}{ps:List PV}{b:Bool}{x:PV}(c:aS P k ps λr=>r=x)(he:kL o ρ H=some (k,ps,b))(hb:b=true->x.scalar=true):y5 P o ρ H x:=by
 unfold kL at he;cases ha:dP o ρ with
 |none=>rw[ha] at he;cases he
 |some r =>
  obtain⟨k',eS⟩:=r;rw[ha] at he;simp only[] at he;cases hl:eC (gR H) eS with
  |none=>rw[hl] at he;cases he
  |some q=>obtain⟨ps',b'⟩:=q;rw[hl] at he;simp only[cA,iL] at he;obtain⟨rfl,rfl,rfl⟩:=he;exact⟨_,eS,_,_,ha,hl,c,hb⟩
theorem aX{o:Oper}{W:Env->aA->Prop}{k:FuncId}{ps:List PV}{b:Bool}{x:PV}(c:aS P k ps λr=>r=x)(he:kL o (ev env) H=some (k,ps,b))(hb:b=true->x.scalar=true)
  (hW:W (cL env o.dst (.p x)) H):jF P o W env H:=.inl (.inl ⟨[],xQ (acf c he hb) hW⟩)
theorem jG{o:Oper}{W:Env->aA->Prop}{k:FuncId}{ps:List PV}{b:Bool}{x:PV}(c:aS P k ps λr=>r=x)(he:kL o (ev env) H=some (k,ps,b))(hb:b=true->x.scalar=true)
  (hW:W (cL env o.dst (.p x)) H):ahR P o W env H:=⟨x,acf c he hb,hW⟩
theorem asX{o:Oper}{W:Env->aA->Prop}{k:FuncId}{ps:List PV}{b:Bool}{x:PV}(ids:List Nat)(c:aS P k ps λr=>r=x)(he:kL o (ev env) (eD ids H)=some (k,ps,b))(hb:b=true->x.scalar=true)
  (hW:W (cL env o.dst (.p x)) (eD ids H)):jF P o W env H:=.inl (.inl ⟨ids,xQ (acf c he hb) hW⟩)
theorem sL{o:Oper}{W:Env->aA->Prop}{k:FuncId}{ps:List PV}{b:Bool}{Q:PV->Prop}(c:aS P k ps Q)(he:kL o (ev env) H=some (k,ps,b))
  (hW:∀r,Q r->(b=true->r.scalar=true)/\W (cL env o.dst (.p r)) H):jF P o W env H:=by
 unfold kL at he;cases ha:dP o (ev env) with
 |none=>rw[ha] at he;cases he
 |some r =>
  obtain⟨k',eS⟩:=r;rw[ha] at he;simp only[] at he;cases hl:eC (gR H) eS with
  |none=>rw[hl] at he;cases he
  |some q=>obtain⟨ps',b'⟩:=q;rw[hl] at he;simp only[cA,iL] at he;obtain⟨rfl,rfl,rfl⟩:=he;exact .inl (.inl ⟨[],_,eS,_,_,Q,ha,hl,c,hW⟩)
theorem axf{o:Oper}{W:Env->aA->Prop}{k:FuncId}{ps:List PV}{x:PV}(c:aC6 P k ps x)(he:dP o (ev env)=some (k,ps.map AV.p))(hW:W (cL env o.dst (.p x)) H):jF P o W env H:=.inl (.inr (.inl ⟨k,ps,x,he,c,hW⟩))
theorem b7{b:Bool}{x:PV}(h:x.scalar=true):b=true->x.scalar=true:=λ_=>h
theorem wW{x:PV} : false=true->x.scalar=true:=λh=>by cases h
def nwH(o:Oper)(k:Nat):Bool:=o.dst == some k&&match o.op with
 | .alloc _=>true
 | .box ..=>true
 | .buildSlice ..=>true
 | .makeSlice ..=>true
 |_=>false
theorem asY(k:Nat):lK own (toArray []) k=own.contains (2000000+k):=rfl
theorem aoz(o:Oper)(l:List Oper)(k:Nat):lK own (toArray (o :: l)) k=(nwH o k||lK own (toArray l) k):=by unfold lK;simp only[any_cons,Bool.or_assoc];try rfl
section
variable(d:Option Tmp)(t u:TypeId)(pos:String)(af:Array Edge)(g:Option (Nat×Bool))
theorem asZ(j k:Nat):nwH ⟨some j,.alloc u,t,pos,af,g⟩ k=(j == k):=by unfold nwH;simp only[Bool.and_true];rw[Bool.eq_iff_iff];simp
theorem axg(x:Operand)(k0:Nat):nwH ⟨d,.move x,t,pos,af,g⟩ k0=false:=by unfold nwH;simp only[Bool.and_false]
theorem aoA(x:Operand)(k0:Nat):nwH ⟨d,.assign x,t,pos,af,g⟩ k0=false:=by unfold nwH;simp only[Bool.and_false]
theorem axh(x y z:Operand)(k0:Nat):nwH ⟨d,.pick x y z,t,pos,af,g⟩ k0=false:=by unfold nwH;simp only[Bool.and_false]
theorem axi(x:Operand)(k0:Nat):nwH ⟨d,.load u x,t,pos,af,g⟩ k0=false:=by unfold nwH;simp only[Bool.and_false]
theorem aha(x:Operand)(k:Nat)(k0:Nat):nwH ⟨d,.fieldAddr u x k,t,pos,af,g⟩ k0=false:=by unfold nwH;simp only[Bool.and_false]
theorem ahb(x y:Operand)(k0:Nat):nwH ⟨d,.indexAddr u x y,t,pos,af,g⟩ k0=false:=by unfold nwH;simp only[Bool.and_false]
theorem alE(x:Operand)(k:Nat)(k0:Nat):nwH ⟨d,.extract x k,t,pos,af,g⟩ k0=false:=by unfold nwH;simp only[Bool.and_false]
theorem as0(op:BinOp)(x y:Operand)(v:TypeId)(k0:Nat):nwH ⟨d,.binOp op u x y v,t,pos,af,g⟩ k0=false:=by unfold nwH;simp only[Bool.and_false]
theorem as1(x:Array (Nat×Operand))(k0:Nat):nwH ⟨d,.build u x,t,pos,af,g⟩ k0=false:=by unfold nwH;simp only[Bool.and_false]
theorem afG(n:Nat)(x:Array (Nat×Operand))(j k:Nat):nwH ⟨some j,.buildSlice u n x,t,pos,af,g⟩ k=(j == k):=by unfold nwH;simp only[Bool.and_true];rw[Bool.eq_iff_iff];simp
theorem axj(c:Call)(k0:Nat):nwH ⟨d,.call c,t,pos,af,g⟩ k0=false:=by unfold nwH;simp only[Bool.and_false]
theorem as2(x y:Operand)(k0:Nat):nwH ⟨d,.store u x y,t,pos,af,g⟩ k0=false:=by unfold nwH;simp only[Bool.and_false]
end
attribute [go_sem] asY aoz asZ axg aoA axh axi aha ahb alE as0 as1 afG axj as2 Bool.false_or Bool.or_false Bool.true_or Bool.or_true axa axb axc alm alr aom alb AV.ptr.injEq aA9 ajD axe aoy alD asT aou ali ajy aw6 aw7 aw8 aw9 aBa aBb aln alo alp alq asV asU contains_cons contains_nil alu ag7 alv alw adr ads afD ajz alx ajA ace ajB aeF aly quiet_move quiet_assign aov aow aeG aeH ag8 alz aox ag9 alA alB afE alC asW zip_cons_cons zip_nil_left
end Go.cv
namespace Go.cv
open Go.RowKit
variable{P:Program}{t:TypeId}
theorem axk(d:Int):bnd d none=some d:=rfl
theorem aBc(d:Int)(k:IntKind)(n:Int):bnd d (some (.p (.val (.int k n))))=some n:=rfl
def slS(a b:Option Int)(s:ByteArray):Option (Prop×AV):=match a,b with
 |some l,some h=>some (0<=l/\l<=h/\h<=s.size,.p (.val (.string (s.extract l.toNat h.toNat))))
 |_,_=>none
theorem aoB{s:ByteArray}{lo hi:Option AV}(h:yT P t=true):sY P t (.p (.val (.string s))) lo hi none=slS (bnd 0 lo) (bnd s.size hi) s:=by unfold sY slS;simp only[h];all_goals(cases bnd 0 lo<;>cases bnd s.size hi<;>rfl)
theorem axl(l h:Int)(s:ByteArray):slS (some l) (some h) s=some (0<=l/\l<=h/\h<=s.size,.p (.val (.string (s.extract l.toNat h.toNat)))):=rfl
def slL(e:Option TypeId)(f:TypeId->Option Nat)(a b:Option Int)(es:List (List PV)):Option (Prop×AV):=match e,a,b with
 |some e,some l,some h=>(match f e with
  |some sz=>some ((0<=l/\l<=h/\h<=es.length)/\∀x∈es,x.length=sz,.p (.aU ((es.take h.toNat).drop l.toNat)))
  |none=>none)
 |_,_,_=>none
theorem aoC{es:List (List PV)}{lo hi:Option AV} : sY P t (.p (.aU es)) lo hi none=slL (cG P t) (bl P) (bnd 0 lo) (bnd es.length hi) es:=by unfold sY slL;simp only[];all_goals(cases cG P t<;>cases bnd 0 lo<;>cases bnd es.length hi<;>rfl)
theorem axm(e:TypeId)(f:TypeId->Option Nat)(l h:Int)(es:List (List PV)):slL (some e) f (some l) (some h) es=(match f e with
  |some sz=>some ((0<=l/\l<=h/\h<=es.length)/\∀x∈es,x.length=sz,.p (.aU ((es.take h.toNat).drop l.toNat)))
  |none=>none):=rfl
theorem axn(i:Nat):cq i=none:=rfl
attribute [go_sem] axn axk aBc aoB axl aoC axm Option.map_none Option.map_some
theorem cZ{N:Nat}{own:List Nat}{K:Env->aA->Prop}{env:Env}{H:aA}{l:List Oper}(cs:List oE)(hok:acd N own l.toArray (masks l.toArray) cs=true)(hw:gl P N own l.toArray (l.zip cs) K env H):vI P N own l.toArray K env H:=asR (masks l.toArray) cs hok hw
theorem VR.aBd{I:Mem}{v:Value}(h:VR I v (.val (.slice none 0 0))):VR I v (.aU []):=by cases h;exact .aU none 0 0 [] [] 1 rfl (by simp) rfl (by simp) (by simp) (.inl rfl) (λ_=>⟨rfl,rfl⟩) (le_refl _)
theorem VR.aBe{I:Mem}{v:Value}(h:VR I v .emp):VR I v (.aU []):=by cases h;rename_i a;exact .aU a 0 0 [] [] 1 rfl (by simp) rfl (by simp) (by simp) (.inl rfl) (λ_=>⟨rfl,rfl⟩) (le_refl _)
def PLe(p' p:PV):Prop:=∀I v,VR I v p'->VR I v p
theorem PLe.refl(p:PV):PLe p p:=λ_ _ h=>h
theorem PLe.nil:PLe (.val (.slice none 0 0)) (.aU []):=λ_ _ h=>h.aBd
theorem PLe.emp:PLe .emp (.aU []):=λ_ _ h=>h.aBe
def sM:List PV->List PV->Prop
 | [],[]=>True
 |a :: r,b :: s=>PLe a b/\sM r s
 |_,_=>False
theorem sM.vrs{I:Mem} : ∀ {ps' ps:List PV},sM ps' ps->∀ {vs:List Value},VRs I vs ps'->VRs I vs ps
 | [],[],_,vs,h=>h
 | [],_ :: _,h,_,_=>h.elim
 |_ :: _,[],h,_,_=>h.elim
 |a :: r,b :: s,h,[],hv=>by have:=hv.1;simp at this
 |a :: r,b :: s,h,v :: vs,hv=>by
  have ih:=sM.vrs (I:=I) h.2 (vs:=vs) ⟨by simpa using hv.1,λj u c hu hc=>hv.2 (j+1) u c hu hc⟩;refine⟨by simpa using ih.1,λj u c hu hc=>?_⟩;cases j with
  |zero=>simp at hu hc;subst hu hc;exact h.1 _ _ (hv.2 0 v a rfl rfl)
  |succ j=>exact ih.2 j u c (by simpa using hu) (by simpa using hc)
theorem aS.args{f:FuncId}{ps ps':List PV}{Q:PV->Prop}(h:aS P f ps Q)(hp:sM ps' ps):aS P f ps' Q:=⟨h.1,λI w vs hI hv=>h.2 I w vs hI (hp.vrs hv)⟩
end Go.cv
namespace Go.cv
open Go.RowKit
variable{P:Program}{own:List Nat}{env:Env}{H:aA}
def yy(l:List Oper):List (Nat×oE)->List (Oper×oE)
 | []=>[]
 |(i,c) :: r=>(match l[i]? with
  |some o=>(o,c) :: yy l r
  |none=>yy l r)
theorem as3(l:List Oper):yy l []=[]:=rfl
theorem abl(l:List Oper)(i:Nat)(c:oE)(r:List (Nat×oE)):yy l ((i,c) :: r)=(match l[i]? with
  |some o=>(o,c) :: yy l r
  |none=>yy l r):=rfl
theorem adt(l:List Oper):∀pc:List (Nat×oE),(yy l pc).map (·.1)=pc.filterMap (λx=>l.toArray[x.1]?)
 | []=>rfl
 |(i,c) :: r=>by
  rw[abl,filterMap_cons];cases h:l[i]? with
  |none=>simp[h,adt l r]
  |some o=>simp[h,adt l r]
theorem ahT(l:List Oper):∀pc:List (Nat×oE),(pc.all λx=>decide (x.1<l.length))=true->(yy l pc).map (·.2)=pc.map (·.2)
 | [],_=>rfl
 |(i,c) :: r,h=>by simp only[all_cons,and_eq_true,decide_eq_true_eq] at h;rw[abl,getElem?_eq_getElem h.1];simp[ahT l r h.2]
def aoD(N:Nat)(own:List Nat)(l:List Oper)(pc:List (Nat×oE)):Bool:=afz own l.toArray (masks l.toArray) pc&&afC N l.toArray&&afB own l.toArray (yy l pc)&&pc.all λx=>decide (x.1<l.length)
theorem ajE{N:Nat}{K:Env->aA->Prop}{l:List Oper}(pc:List (Nat×oE))(hok:aoD N own l pc=true)(hw:gl P N own l.toArray (yy l pc) K env H):vI P N own l.toArray K env H:=by unfold aoD at hok;rw[and_eq_true,and_eq_true] at hok;exact asS (masks l.toArray) pc hok.1.1 (yy l pc) hok.1.2 (adt l pc) (ahT l pc hok.2) hw
def nG(c:Option Chunk)(r:Option (Prop×AV×aA)):Option (Prop×AV×aA):=match c with
 |some _=>none
 |none=>r
theorem axo(r:Prop×AV×aA)(b:Bool)(y:Option (Prop×AV×aA)):orE (some r) b y=some r:=rfl
theorem aEn(y:Option (Prop×AV×aA)):orE none true y=y:=rfl
theorem as4(t:TypeId)(n:Nat)(ps:Array (Nat×Operand)):isApp (.buildSlice t n ps)=false:=rfl
theorem aoE(t:TypeId)(a b:Operand):isApp (.makeSlice t a b)=false:=rfl
theorem as5(xs:Array Operand)(ts:Array TypeId):isApp (.call ⟨.builtin .append,xs,ts⟩)=true:=rfl
theorem aoF(f:Operand)(xs:Array Operand)(ts:Array TypeId):isApp (.call ⟨.value f,xs,ts⟩)=false:=rfl
theorem aBf(r:Option (Prop×AV×aA)):nG none r=r:=rfl
def aBg(P:Program)(r:Option (TypeId×List (List PV)))(d:Nat)(H:aA)(n:Nat)(c:Option (TypeId×List AV)):Option (Prop×AV×aA):=match r with
 |some (e,es)=>(match bl P e with
  |some sz=>some (True,.row d 0,bh H d (.row 0 e sz es))
  |none=>none)
 |none=>(match c with
  |some (_,cs)=>some (True,.bsl d n,bh H d (.box cs))
  |none=>none)
theorem as6(d n:Nat)(e:TypeId)(cs:List AV):aBg P none d H n (some (e,cs))=some (True,.bsl d n,bh H d (.box cs)):=rfl
theorem as7(e:TypeId)(es:List (List PV))(d n:Nat)(c:Option (TypeId×List AV)):aBg P (some (e,es)) d H n c=(match bl P e with
  |some sz=>some (True,.row d 0,bh H d (.row 0 e sz es))
  |none=>none):=rfl
def axp(P:Program)(e:Option TypeId)(a b:AV)(d:Nat)(H:aA):Option (Prop×AV×aA):=match a,b,e with
 | .p (.val (.int _ n)), .p (.val (.int _ m)), some e => (match bl P e, cN P e, xK P e with
    | some sz, some zs, some qz => if zs.length = sz ∧ 0 < sz ∧ 0 < qz ∧ zs.all (·.oneCell') = true then
      some ((0<=n/\m=n)/\n * qz<=140737488355328,.row d 0,bh H d (.row 0 e sz (replicate n.toNat (zs.map PV.val)))) else none
    |_,_,_=>none)
 |_,_,_=>none
theorem aoG(k k':IntKind)(n m:Int)(e:TypeId)(d:Nat):axp P (some e) (.p (.val (.int k n))) (.p (.val (.int k' m))) d H=(match bl P e,cN P e,xK P e with
    | some sz, some zs, some qz => if zs.length = sz ∧ 0 < sz ∧ 0 < qz ∧ zs.all (·.oneCell') = true then
      some ((0<=n/\m=n)/\n * qz<=140737488355328,.row d 0,bh H d (.row 0 e sz (replicate n.toNat (zs.map PV.val)))) else none
    |_,_,_=>none):=rfl
def aBh(a:AV)(ty:Option (TypeId×Nat×Nat))(b:Option (List (List PV)))(d:Nat)(H:aA):Option (Prop×AV×aA):=match a,ty,b with
 | .p (.val (.slice none 0 0)),some (e,sz,qz),some es=>some (es.length * qz<=140737488355328/\∀x∈es,x.length=sz,.row d 0,bh H d (.row 0 e sz es))
 |_,_,_=>none
theorem axq(i v:Nat)(ty:Option (TypeId×Nat×Nat))(b:Option (List (List PV)))(d:Nat):aBh (.row i v) ty b d H=none:=rfl
theorem as8(e:TypeId)(sz qz:Nat)(es:List (List PV))(d:Nat):aBh (.p (.val (.slice none 0 0))) (some (e,sz,qz)) (some es) d H=some (es.length * qz<=140737488355328/\∀x∈es,x.length=sz,.row d 0,bh H d (.row 0 e sz es)):=rfl
section
variable(dd:Option Tmp)(ty:TypeId)(pos:String)(af:Array Edge)(g:Option (Nat×Bool))(ρ:Operand->AV)
theorem aBi(t:TypeId)(n:Nat)(ps:Array (Nat×Operand))(d:Nat):exN P ⟨dd,.buildSlice t n ps,ty,pos,af,g⟩ ρ H d=nG (H d) (aBg P (lT P t n (ps.toList.map λx=>(x.1,ρ x.2))) d H n (vF P t n (ps.toList.map λx=>(x.1,ρ x.2)))):=by
 unfold exN nG aBg;cases H d with
 |some c=>rfl
 |none=>rfl
theorem axr(t:TypeId)(l c:Operand)(d:Nat):exN P ⟨dd,.makeSlice t l c,ty,pos,af,g⟩ ρ H d=nG (H d) (axp P (cG P t) (ρ l) (ρ c) d H):=by
 unfold exN nG axp;cases H d with
 |some c=>rfl
 |none=>rfl
theorem aBj(t1 t2:TypeId)(a b:Operand)(d:Nat):exN P ⟨dd,.call ⟨.builtin .append,#[a,b],#[t1,t2]⟩,ty,pos,af,g⟩ ρ H d=nG (H d) (aBh (ρ a) (dy P t1 t2) (vG H (ρ b)) d H):=by
 unfold exN nG aBh;cases H d with
 |some c=>rfl
 |none=>rfl
end
def aCz(H:aA)(Q:RV->Prop)(a:Option AV):Prop:=match a with
 | some a => (match pZ H a with
   |some (r,ids)=>ids.Nodup/\∃r',RLe r r'/\Q r'
   |none=>False)
 |none=>False
theorem axt(rs:List ResultVar)(Q:RV->Prop):aAy P rs Q .ret env H=aCz H Q (pE P env H rs):=rfl
def aCA(Q : RV → Prop)(x : Option (RV × List Nat)) : Prop := match x with
   |some (r,ids)=>ids.Nodup/\∃r',RLe r r'/\Q r'
   |none=>False
theorem aoH(a:AV)(Q:RV->Prop):aCz H Q (some a)=aCA Q (pZ H a):=rfl
theorem aoI(Q:RV->Prop)(r:RV)(ids:List Nat):aCA Q (some (r,ids))=(ids.Nodup/\∃r',RLe r r'/\Q r'):=rfl
theorem aDk(x:PV):pZ H (.p x)=some (.p x,[]):=by simp only[pZ]
def rvR(c : Option Chunk)(id bf : Nat) : Option (RV × List Nat) := match c with
  |some (.row v e sz es)=>if v=bf then some (.row e sz es,[id]) else none
  |some (.shut v es)=>if v=bf then some (.p (.aU es),[]) else none
  |_=>none
theorem axu(id bf:Nat):pZ H (.row id bf)=rvR (H id) id bf:=by unfold rvR;simp only[pZ];try rfl
theorem aBk(v:Nat)(e:TypeId)(sz:Nat)(es:List (List PV))(id bf:Nat):rvR (some (.row v e sz es)) id bf=if v=bf then some (.row e sz es,[id]) else none:=rfl
theorem axv(cs:List AV):pZ H (.agg cs)=(match wU H cs with
  |some (rs,ids)=>some (.agg rs,ids)
  |none=>none):=by simp only[pZ];try rfl
theorem axw(cs:List AV):pZ H (.dW cs)=(match wU H cs with
  |some (rs,ids)=>some (.dW rs,ids)
  |none=>none):=by simp only[pZ];try rfl
theorem as9:wU H []=some ([],[]):=by simp only[wU]
theorem aoJ(a:AV)(r:List AV):wU H (a :: r)=(match pZ H a,wU H r with
  |some (x,i),some (xs,j)=>some (x :: xs,i++j)
  |_,_=>none):=by simp only[wU];try rfl
theorem axx(k:Nat)(x:PV):dw k (.p x)=(.p x,k):=by simp only[dw]
theorem aoK(k:Nat)(e:TypeId)(sz:Nat)(es:List (List PV)):dw k (.row e sz es)=(.row k 0,k+1):=by simp only[dw]
theorem aoL(k:Nat)(rs:List RV):dw k (.agg rs)=(yu (jt k rs).1,(jt k rs).2):=by simp only[dw]
theorem aoM(k:Nat)(rs:List RV):dw k (.dW rs)=(.dW (jt k rs).1,(jt k rs).2):=by simp only[dw]
theorem aoN(k:Nat):jt k []=([],k):=by simp only[jt]
theorem alF(k:Nat)(r:RV)(rs:List RV):jt k (r :: rs)=((dw k r).1 :: (jt (dw k r).2 rs).1,(jt (dw k r).2 rs).2):=by simp only[jt]
theorem axy(k:Nat)(x:PV):iC k H (.p x)=H:=by simp only[iC]
theorem aoO(k:Nat)(e:TypeId)(sz:Nat)(es:List (List PV)):iC k H (.row e sz es)=bh H k (.row 0 e sz es):=by simp only[iC]
theorem aoP(k:Nat)(rs:List RV):iC k H (.agg rs)=kY k H rs:=by simp only[iC]
theorem aoQ(k:Nat)(rs:List RV):iC k H (.dW rs)=kY k H rs:=by simp only[iC]
theorem alG(k:Nat):kY k H []=H:=by simp only[kY]
theorem ajF(k:Nat)(r:RV)(rs:List RV):kY k H (r :: rs)=kY (dw k r).2 (iC k H r) rs:=by simp only[kY]
def nU(H:aA)(id:Nat):Nat->Prop
 |0=>True
 |n+1=>H id=none/\nU H (id+1) n
theorem ata(id:Nat):nU H id 1=(H id=none/\True):=rfl
theorem atb(id:Nat):nU H id 2=(H id=none/\H (id+1)=none/\True):=rfl
theorem alH(id:Nat):nU H id 3=(H id=none/\H (id+1)=none/\H (id+1+1)=none/\True):=rfl
theorem aoR(id:Nat):nU H id 4=(H id=none/\H (id+1)=none/\H (id+1+1)=none/\H (id+1+1+1)=none/\True):=rfl
theorem abm:∀ (n id:Nat),nU H id n->∀i,id<=i->i<id+n->H i=none
 |0,id,_,i,h1,h2=>by omega
 |n+1,id,h,i,h1,h2=>by
  by_cases e:i=id
  ·rw[e];exact h.1
  ·exact abm n (id+1) h.2 i (by omega) (by omega)
section
variable{o:Oper}{W:Env->aA->Prop}{k:FuncId}{ps:List PV}{b:Bool}
theorem ajG(he:kL o (ev env) H=some (k,ps,b)):∃eS,dP o (ev env)=some (k,eS)/\eC (gR H) eS=some (ps,b):=by
 unfold kL at he;cases ha:dP o (ev env) with
 |none=>rw[ha] at he;cases he
 |some r =>
  obtain⟨k',eS⟩:=r;rw[ha] at he;simp only[] at he;cases hl:eC (gR H) eS with
  |none=>rw[hl] at he;cases he
  |some q=>obtain⟨ps',b'⟩:=q;rw[hl] at he;simp only[cA,iL] at he;obtain⟨rfl,rfl,rfl⟩:=he;exact⟨eS,rfl,hl⟩
theorem atc(ids:List Nat)(id:Nat){Q:RV->Prop}(c:bt P k ps Q)(he:kL o (ev env) (eD ids H)=some (k,ps,b))
  (hW:∀r,Q r->(b=true->r.flat=true)/\nU (eD ids H) id ((dw id r).2-id)/\W (cL env o.dst (dw id r).1) (iC id (eD ids H) r)):jF P o W env H:=by
 obtain⟨eS,h1,h2⟩:=ajG he;refine .inl (.inr (.inr ⟨ids,.inl ⟨k,eS,ps,b,Q,id,h1,h2,c,λr hr=>?_⟩⟩));obtain⟨q1,q2,q3⟩:=hW r hr;exact⟨q1,λi hi1 hi2=>abm _ id q2 i hi1 (by omega),q3⟩
theorem pJ(id:Nat){r:RV}(c:bt P k ps λx=>x=r)(he:kL o (ev env) H=some (k,ps,b))(hb:b=true->r.flat=true)
  (hf:nU H id ((dw id r).2-id)) (hW:W (cL env o.dst (dw id r).1) (iC id H r)):jF P o W env H :=
 atc [] id c he λx hx=>by subst hx;exact⟨hb,hf,hW⟩
theorem ahU(ids:List Nat){id v:Nat}{e:TypeId}{sz:Nat}{es:List (List PV)}{eS:List AV}{Q:AV->Option Chunk->Prop}(c:kJ P k v e sz es ps Q)(ha:dP o (ev env)=some (k,.row id v :: eS))(hH:eD ids H id=some (.row v e sz es))
  (he:eC (gR (agZ (eD ids H) id)) eS=some (ps,b))
  (hW:∀a c,Q a c->∃v' e' sz' es' a',c=some (.row v' e' sz' es')/\aqM id a=some a'/\(b=true->(es'.all λx=>x.all isVal)=true/\(match a' with | .p x=>x.scalar|_=>true)=true)/\W (cL env o.dst a') (bh (eD ids H) id (.row v' e' sz' es'))):jF P o W env H :=
 .inl (.inr (.inr ⟨ids,.inr ⟨k,id,v,e,sz,es,eS,ps,b,Q,ha,hH,he,c,hW⟩⟩))
theorem acg{id v:Nat}{e:TypeId}{sz:Nat}{es es':List (List PV)}{eS:List AV}(c:kJ P k v e sz es ps λa c=>a = .dW []/\c=some (.row v e sz es'))(ha:dP o (ev env)=some (k,.row id v :: eS))(hH:H id=some (.row v e sz es))
  (he:eC (gR (agZ H id)) eS=some (ps,b)) (hb:b=true->(es'.all λx=>x.all isVal)=true) (hW:W (cL env o.dst (.dW [])) (bh H id (.row v e sz es'))):jF P o W env H :=
 ahU [] c ha hH he λa c ⟨h1,h2⟩=>by subst h1 h2;exact⟨v,e,sz,es',.dW [],rfl,rfl,λh=>⟨hb h,rfl⟩,hW⟩
theorem vM{r:RV} : false=true->r.flat=true:=λh=>by cases h
theorem aqU{b:Bool}{r:RV}(h:r.flat=true):b=true->r.flat=true:=λ_=>h
end
def aoS(f:AV)(eS:List AV):Option (FuncId×List AV):=match f with
 | .p (.iK (.func k) fs cs)=>some (k,fs.map AV.p++eS++cs.map AV.p)
 | .iK (.func k) fs cs=>some (k,fs++eS++cs)
 |_=>none
theorem bt.toL{f:FuncId}{args:List PV}{e:TypeId}{sz:Nat}{es:List (List PV)}(h:bt P f args λr=>r = .row e sz es):aS P f args λx=>x = .aU es:=h.anJ.mono λx hx=>by rw[hx];simp only[RV.pv]
def axz:Option AV->AV
 |some a=>a
 |none=>.dead
theorem axA(eS:List AV)(t:Nat):aed eS t=axz eS[t]?:=by unfold aed axz;cases eS[t]?<;>rfl
theorem aoT(a:AV):axz (some a)=a:=rfl
def axB(H:aA)(Q:AV->Option Chunk->Prop)(a:Option AV):Prop:=match a with
 |some a=>Q a (H 1000000)
 |none=>False
theorem alI(rs:List ResultVar)(Q:AV->Option Chunk->Prop):aC9 P rs Q .normal env H=axB H Q (pE P env H rs):=rfl
theorem axC(rs:List ResultVar)(Q:AV->Option Chunk->Prop):aC9 P rs Q .ret env H=axB H Q (pE P env H rs):=rfl
theorem aoU(a:AV)(Q:AV->Option Chunk->Prop):axB H Q (some a)=Q a (H 1000000):=rfl
theorem atd:pE P env H []=some (.dW []):=rfl
theorem afH(d:Option Tmp)(t:TypeId)(pos:String)(af:Array Edge)(g:Option (Nat×Bool))(f:Operand)(xs:Array Operand)(ts:Array TypeId)(ρ:Operand->AV) :
  dP ⟨d,.call ⟨.value f,xs,ts⟩,t,pos,af,g⟩ ρ=aoS (ρ f) (xs.toList.map ρ):=by
 unfold dP aoS;simp only[];generalize ρ f=v;cases v with
 |p x=>cases x with
  |iK fn fs cs=>cases fn<;>rfl
  |_=>rfl
 |iK fn fs cs=>cases fn<;>rfl
 |_=>rfl
theorem axD(k:FuncId)(fs cs:List PV)(eS:List AV):aoS (.p (.iK (.func k) fs cs)) eS=some (k,fs.map AV.p++eS++cs.map AV.p):=rfl
theorem VR.tR{I:Mem}{v:Value}(h:VR I v (.aU [])):∃ao cap,v = .slice ao 0 cap/\VR I v (.val (.slice ao 0 cap)):=by
 cases h with
 |aU ao n cap _ us sz hn=>simp only[length_nil] at hn;subst hn;exact⟨ao,cap,rfl,.val _ rfl⟩
theorem bt.tR{f:FuncId}{rest:List PV}{Q:RV->Prop}(hc:gF P f=true)(h:∀ao cap,bt P f (.val (.slice ao 0 cap) :: rest) Q):bt P f (.aU [] :: rest) Q:=by
 refine⟨hc,λI w vs hI hv=>?_⟩;cases vs with
 |nil=>have:=hv.1;simp at this
 |cons v vs =>
  obtain⟨ao,cap,rfl,h1⟩:=(hv.2 0 v _ rfl rfl).tR;refine (h ao cap).2 I w _ hI ⟨by simpa using hv.1,λj u c hu hc=>?_⟩;cases j with
  |zero=>simp at hu hc;subst hu hc;exact h1
  |succ j=>exact hv.2 (j+1) u c hu hc
theorem aS.tR{f:FuncId}{rest:List PV}{Q:PV->Prop}(hc:gF P f=true)(h:∀ao cap,aS P f (.val (.slice ao 0 cap) :: rest) Q):aS P f (.aU [] :: rest) Q:=by
 refine⟨hc,λI w vs hI hv=>?_⟩;cases vs with
 |nil=>have:=hv.1;simp at this
 |cons v vs =>
  obtain⟨ao,cap,rfl,h1⟩:=(hv.2 0 v _ rfl rfl).tR;refine (h ao cap).2 I w _ hI ⟨by simpa using hv.1,λj u c hu hc=>?_⟩;cases j with
  |zero=>simp at hu hc;subst hu hc;exact h1
  |succ j=>exact hv.2 (j+1) u c hu hc
theorem alJ:eD [] H=H:=rfl
theorem ajH(id:Nat)(r:List Nat):eD (id :: r) H=eD r (aqN H id):=rfl
def aCB(H:aA)(id:Nat)(c:Option Chunk):aA:=match c with
 |some (.row v _ _ es)=>bh H id (.shut v es)
 |_=>H
theorem axE(id:Nat):aqN H id=aCB H id (H id):=rfl
theorem ate(id v:Nat)(e:TypeId)(sz:Nat)(es:List (List PV)):aCB H id (some (.row v e sz es))=bh H id (.shut v es):=rfl
def axF:List AV->Option (Prop×AV)
 | .p (.val (.int k n)) :: r=>agY k n r
 |_=>none
section
variable(d:Option Tmp)(ty:TypeId)(pos:String)(af:Array Edge)(g:Option (Nat×Bool))(ρ:Operand->AV)
theorem aBl(xs:Array Operand)(ts:Array TypeId):gC P ⟨d,.call ⟨.builtin .max,xs,ts⟩,ty,pos,af,g⟩ ρ H=up3 (axF (xs.toList.map ρ)) H:=by
 have e:oc P ⟨d,.call ⟨.builtin .max,xs,ts⟩,ty,pos,af,g⟩ ρ=axF (xs.toList.map ρ):=by simp only[oc,sI,axF];generalize xs.toList.map ρ=l;split<;>first|rfl|(split<;>simp_all)
 simp only[gC,e,rL,mO,xG,yw,wK,xH,up3];all_goals(cases axF (xs.toList.map ρ)<;>rfl)
end
theorem axG(k:IntKind)(n:Int)(r:List AV):axF (.p (.val (.int k n)) :: r)=agY k n r:=rfl
theorem axH(k:IntKind)(n:Int):agY k n []=some (True,.p (.val (.int k n))):=rfl
theorem atf(k k':IntKind)(n m:Int)(r:List AV):agY k n (.p (.val (.int k' m)) :: r)=agY k (max n m) r:=rfl
theorem atg(xs:Array Operand)(ts:Array TypeId):isApp (.call ⟨.builtin .max,xs,ts⟩)=false:=rfl
attribute [go_sem] aBl axG axH atf atg
theorem aoV:o5 []=[]:=rfl
theorem aoW(k id v:Nat)(r:List (Nat×AV)):o5 ((k,.row id v) :: r)=id :: o5 r:=rfl
theorem aoX(k:Nat)(cs:List AV)(r:List (Nat×AV)):o5 ((k,.agg cs) :: r)=tQ cs++o5 r:=rfl
theorem alK:tQ []=[]:=rfl
theorem alL(id v:Nat)(r:List AV):tQ (.row id v :: r)=id :: tQ r:=rfl
theorem ath(x:PV)(r:List AV):tQ (.p x :: r)=tQ r:=rfl
def axI(c:Option Chunk)(id bf:Nat):AV:=match c with
 |some (.shut v es)=>if v=bf then .p (.aU es) else .row id bf
 |_=>.row id bf
theorem ati(id bf:Nat):yx H (.row id bf)=axI (H id) id bf:=rfl
theorem atj(id bf:Nat):aaM H (.row id bf)=axI (H id) id bf:=rfl
theorem aoY(v:Nat)(es:List (List PV))(id bf:Nat):axI (some (.shut v es)) id bf=if v=bf then .p (.aU es) else .row id bf:=rfl
theorem aBm(x:PV):aaM H (.p x) = .p x:=rfl
theorem atk(cs:List AV):yx H (.agg cs) = .agg (cs.map (aaM H)):=rfl
theorem zf(n:Int):(n<=n)=True:=eq_true (Int.le_refl n)
attribute [go_sem] aoV aoW aoX alK alL ath ati atj aoY aBm atk
theorem jP{o:Oper}{W:Env->aA->Prop}(ta:Env)(H2:aA){pre:Prop}{v:AV}{H':aA}(hw:dx env H ta H2)(hx:gC P o (ev ta) H2=some (pre,v,H'))(hp:pre)(hW:W (cL ta o.dst v) H'):jF P o W env H :=
 .inr (.inl ⟨ta,H2,hw,.inl ⟨pre,v,H',hx,hp,hW⟩⟩)
theorem ahV{env:Env}{H:aA}(id v:Nat)(e:TypeId)(sz:Nat)(es:List (List PV))(ts:List Nat)(hH:H id=some (.row v e sz es))(ht:holds env id v ts)(hn:ts.Nodup):dx env H (anK (.p (.aU es)) ts env) (bh H id (.shut v es)):=λC I L tm w hs=>⟨_,L,adg (es:=es) (by simp[bh]) ts _ hn (Fr.shut C I L w hH env tm hs) ht⟩
theorem uu{o:Oper}{W:Env->aA->Prop}{ta:Env}{H2:aA}(hw:dx env H ta H2)(h:adh P o W ta H2\/ahF P o W ta H2\/ab3 P o W ta H2):jF P o W env H:=.inr (.inl ⟨ta,H2,hw,.inr h⟩)
theorem aoZ(t:TypeId)(i v:Nat)(lo hi mx:Option AV):sY P t (.row i v) lo hi mx=none:=by cases mx<;>rfl
attribute [go_sem] aoZ avY arN arO anL
theorem wX{o:Oper}{W:Env->aA->Prop}{k:FuncId}{ps:List PV}{b:Bool}{id v:Nat}{e:TypeId}{sz:Nat}{es es':List (List PV)}{eS:List AV}(c:kJ P k v e sz es ps λa c=>a = .row 1000000 (v+1)/\c=some (.row (v+1) e sz es'))
  (ha:dP o (ev env)=some (k,.row id v :: eS)) (hH:H id=some (.row v e sz es))
  (he:eC (gR (agZ H id)) eS=some (ps,b)) (hb:b=true->(es'.all λx=>x.all isVal)=true) (hW:W (cL env o.dst (.row id (v+1))) (bh H id (.row (v+1) e sz es'))):jF P o W env H :=
 ahU [] c ha hH he λa c ⟨h1,h2⟩=>by subst h1 h2;exact⟨v+1,e,sz,es',.row id (v+1),rfl,rfl,λh=>⟨hb h,rfl⟩,hW⟩
attribute [go_sem] axA aoT alI axC aoU atd afH axD as3 abl arS anV axq axo aEn as4 aoE as5 aoF aBf as7 as6 aoG as8 aBi axr aBj axt aoH aoI aDk axu aBk axv axw as9 aoJ axx aoK aoL aoM aoN alF axy aoO aoP aoQ alG ajF ata atb alH aoR alJ ajH axE ate Nat.add_sub_cancel_left Nat.sub_self
end Go.cv
namespace Go.Proofs.YtjhkgjlmiolfoaaGreat.Ty
open Go Go.cv
theorem mixed:Tryz.prog.follows .mixedOrders=true:=by kernel_rfl
@[go_sem] theorem byt3:xK pw 3=some 8:=by kernel_rfl
@[go_sem] theorem aJE:bl pw 3=some 1:=by kernel_rfl
@[go_sem] theorem agg3:fT pw 3=some false:=by kernel_rfl
@[go_sem] theorem aJF:cN pw 3=some [.int .i64 0]:=by kernel_rfl
@[go_sem] theorem int3:ahz pw 3=some .i64:=by kernel_rfl
@[go_sem] theorem und3:(Program.underlying pw 3).isSome=true:=by kernel_rfl
@[go_sem] theorem aJG:bl pw 4=some 1:=by kernel_rfl
@[go_sem] theorem agg4:fT pw 4=some false:=by kernel_rfl
@[go_sem] theorem aJH:bl pw 5=some 1:=by kernel_rfl
@[go_sem] theorem agg5:fT pw 5=some false:=by kernel_rfl
@[go_sem] theorem und5:(Program.underlying pw 5).isSome=true:=by kernel_rfl
@[go_sem] theorem aJI:bl pw 9=some 1:=by kernel_rfl
@[go_sem] theorem agg9:fT pw 9=some false:=by kernel_rfl
@[go_sem] theorem aJJ:cN pw 9=some [.string ⟨#[]⟩]:=by kernel_rfl
@[go_sem] theorem str9:yT pw 9=true:=by kernel_rfl
@[go_sem] theorem aHI:bl pw 22=some 1:=by kernel_rfl
@[go_sem] theorem aJK:fT pw 22=some false:=by kernel_rfl
@[go_sem] theorem aHJ:cG pw 22=some 162:=by kernel_rfl
@[go_sem] theorem aHK:isSlice pw 22=true:=by kernel_rfl
@[go_sem] theorem aHL:bl pw 23=some 1:=by kernel_rfl
@[go_sem] theorem aJL:fT pw 23=some false:=by kernel_rfl
@[go_sem] theorem aHM:cG pw 23=some 159:=by kernel_rfl
@[go_sem] theorem aHN:isSlice pw 23=true:=by kernel_rfl
@[go_sem] theorem aHO:bl pw 25=some 2:=by kernel_rfl
@[go_sem] theorem aJM:fT pw 25=some true:=by kernel_rfl
@[go_sem] theorem aHP:cN pw 25=some [.slice none 0 0,.slice none 0 0]:=by kernel_rfl
@[go_sem] theorem pl25:fh pw 25=some [(0,1),(1,1)]:=by kernel_rfl
@[go_sem] theorem aF6:bP pw 25 0=some (0,1):=by kernel_rfl
@[go_sem] theorem aF7:bP pw 25 1=some (1,1):=by kernel_rfl
@[go_sem] theorem aHQ:bl pw 27=some 7:=by kernel_rfl
@[go_sem] theorem aJN:fT pw 27=some true:=by kernel_rfl
@[go_sem] theorem aF8:bP pw 27 0=some (0,1):=by kernel_rfl
@[go_sem] theorem aF9:bP pw 27 1=some (1,1):=by kernel_rfl
@[go_sem] theorem aGa:bP pw 27 2=some (2,2):=by kernel_rfl
@[go_sem] theorem aGb:bP pw 27 3=some (4,1):=by kernel_rfl
@[go_sem] theorem aGc:bP pw 27 4=some (5,1):=by kernel_rfl
@[go_sem] theorem aGd:bP pw 27 5=some (6,1):=by kernel_rfl
@[go_sem] theorem aHR:bl pw 28=some 1:=by kernel_rfl
@[go_sem] theorem aJO:fT pw 28=some false:=by kernel_rfl
@[go_sem] theorem aHS:cG pw 28=some 165:=by kernel_rfl
@[go_sem] theorem aHT:isSlice pw 28=true:=by kernel_rfl
@[go_sem] theorem aJP:dy pw 28 28=some (165,4,56):=by kernel_rfl
@[go_sem] theorem aHU:bl pw 29=some 1:=by kernel_rfl
@[go_sem] theorem aJQ:fT pw 29=some false:=by kernel_rfl
@[go_sem] theorem aHV:cG pw 29=some 170:=by kernel_rfl
@[go_sem] theorem aHW:isSlice pw 29=true:=by kernel_rfl
@[go_sem] theorem aJR:dy pw 29 29=some (170,7,64):=by kernel_rfl
@[go_sem] theorem aHX:bl pw 31=some 2:=by kernel_rfl
@[go_sem] theorem aJS:fT pw 31=some true:=by kernel_rfl
@[go_sem] theorem aHY:cN pw 31=some [.slice none 0 0,.slice none 0 0]:=by kernel_rfl
@[go_sem] theorem pl31:fh pw 31=some [(0,1),(1,1)]:=by kernel_rfl
@[go_sem] theorem aGe:bP pw 31 0=some (0,1):=by kernel_rfl
@[go_sem] theorem aGf:bP pw 31 1=some (1,1):=by kernel_rfl
@[go_sem] theorem aHZ:bl pw 32=some 1:=by kernel_rfl
@[go_sem] theorem aJT:fT pw 32=some false:=by kernel_rfl
@[go_sem] theorem zero32:cN pw 32=some [.slice none 0 0]:=by kernel_rfl
@[go_sem] theorem aH0:cG pw 32=some 3:=by kernel_rfl
@[go_sem] theorem aH1:isSlice pw 32=true:=by kernel_rfl
@[go_sem] theorem aJU:dy pw 32 32=some (3,1,8):=by kernel_rfl
@[go_sem] theorem aH2:bl pw 33=some 1:=by kernel_rfl
@[go_sem] theorem aJV:fT pw 33=some false:=by kernel_rfl
@[go_sem] theorem aH3:cG pw 33=some 175:=by kernel_rfl
@[go_sem] theorem aH4:isSlice pw 33=true:=by kernel_rfl
@[go_sem] theorem aJW:dy pw 33 33=some (175,3,24):=by kernel_rfl
@[go_sem] theorem aH5:bl pw 35=some 2:=by kernel_rfl
@[go_sem] theorem aJX:fT pw 35=some true:=by kernel_rfl
@[go_sem] theorem aH6:cN pw 35=some [.slice none 0 0,.slice none 0 0]:=by kernel_rfl
@[go_sem] theorem pl35:fh pw 35=some [(0,1),(1,1)]:=by kernel_rfl
@[go_sem] theorem aGg:bP pw 35 0=some (0,1):=by kernel_rfl
@[go_sem] theorem aGh:bP pw 35 1=some (1,1):=by kernel_rfl
@[go_sem] theorem aH7:bl pw 36=some 1:=by kernel_rfl
@[go_sem] theorem aJY:fT pw 36=some false:=by kernel_rfl
@[go_sem] theorem aH8:cG pw 36=some 32:=by kernel_rfl
@[go_sem] theorem aH9:isSlice pw 36=true:=by kernel_rfl
@[go_sem] theorem aJZ:dy pw 36 36=some (32,1,24):=by kernel_rfl
@[go_sem] theorem aIa:bl pw 38=some 3:=by kernel_rfl
@[go_sem] theorem aJ0:fT pw 38=some true:=by kernel_rfl
@[go_sem] theorem aIb:cN pw 38=some [.slice none 0 0,.slice none 0 0,.slice none 0 0]:=by kernel_rfl
@[go_sem] theorem pl38:fh pw 38=some [(0,2),(2,1)]:=by kernel_rfl
@[go_sem] theorem aGi:bP pw 38 0=some (0,2):=by kernel_rfl
@[go_sem] theorem aGj:bP pw 38 1=some (2,1):=by kernel_rfl
@[go_sem] theorem aIc:bl pw 40=some 6:=by kernel_rfl
@[go_sem] theorem aJ1:fT pw 40=some true:=by kernel_rfl
@[go_sem] theorem aId:cN pw 40=some [.slice none 0 0,.slice none 0 0,.slice none 0 0,.slice none 0 0,.slice none 0 0,.int .i64 0]:=by kernel_rfl
@[go_sem] theorem pl40:fh pw 40=some [(0,3),(3,1),(4,1),(5,1)]:=by kernel_rfl
@[go_sem] theorem aGk:bP pw 40 0=some (0,3):=by kernel_rfl
@[go_sem] theorem aGl:bP pw 40 1=some (3,1):=by kernel_rfl
@[go_sem] theorem aGm:bP pw 40 2=some (4,1):=by kernel_rfl
@[go_sem] theorem aGn:bP pw 40 3=some (5,1):=by kernel_rfl
@[go_sem] theorem aIe:bl pw 41=some 1:=by kernel_rfl
@[go_sem] theorem aJ2:fT pw 41=some false:=by kernel_rfl
@[go_sem] theorem aIf:cG pw 41=some 75:=by kernel_rfl
@[go_sem] theorem aIg:isSlice pw 41=true:=by kernel_rfl
@[go_sem] theorem aJ3:dy pw 41 41=some (75,3,40):=by kernel_rfl
@[go_sem] theorem aIh:bl pw 42=some 1:=by kernel_rfl
@[go_sem] theorem aJ4:fT pw 42=some false:=by kernel_rfl
@[go_sem] theorem aIi:cG pw 42=some 102:=by kernel_rfl
@[go_sem] theorem aIj:isSlice pw 42=true:=by kernel_rfl
@[go_sem] theorem aJ5:dy pw 42 42=some (102,4,32):=by kernel_rfl
@[go_sem] theorem aIk:bl pw 43=some 1:=by kernel_rfl
@[go_sem] theorem aJ6:fT pw 43=some false:=by kernel_rfl
@[go_sem] theorem aIl:cG pw 43=some 105:=by kernel_rfl
@[go_sem] theorem aIm:isSlice pw 43=true:=by kernel_rfl
@[go_sem] theorem aJ7:dy pw 43 43=some (105,4,32):=by kernel_rfl
@[go_sem] theorem aIn:bl pw 44=some 2:=by kernel_rfl
@[go_sem] theorem aJ8:fT pw 44=some true:=by kernel_rfl
@[go_sem] theorem aIo:cN pw 44=some [.int .i64 0,.int .i64 0]:=by kernel_rfl
@[go_sem] theorem aJ9:wN pw 44=some (2,3):=by kernel_rfl
@[go_sem] theorem pl44:fh pw 44=some [(0,1),(1,1)]:=by kernel_rfl
@[go_sem] theorem aIp:bl pw 46=some 7:=by kernel_rfl
@[go_sem] theorem aKa:fT pw 46=some true:=by kernel_rfl
@[go_sem] theorem aIq:cN pw 46=some [.slice none 0 0,.slice none 0 0,.slice none 0 0,.slice none 0 0,.slice none 0 0,.int .i64 0,.int .i64 0]:=by kernel_rfl
@[go_sem] theorem pl46:fh pw 46=some [(0,1),(1,1),(2,1),(3,1),(4,1),(5,2)]:=by kernel_rfl
@[go_sem] theorem aGo:bP pw 46 0=some (0,1):=by kernel_rfl
@[go_sem] theorem aGp:bP pw 46 1=some (1,1):=by kernel_rfl
@[go_sem] theorem aGq:bP pw 46 2=some (2,1):=by kernel_rfl
@[go_sem] theorem aGr:bP pw 46 3=some (3,1):=by kernel_rfl
@[go_sem] theorem aGs:bP pw 46 4=some (4,1):=by kernel_rfl
@[go_sem] theorem aGt:bP pw 46 5=some (5,2):=by kernel_rfl
@[go_sem] theorem aIr:bl pw 48=some 20:=by kernel_rfl
@[go_sem] theorem aKb:fT pw 48=some true:=by kernel_rfl
@[go_sem] theorem aIs:cN pw 48=some [.slice none 0 0,.slice none 0 0,.slice none 0 0,.slice none 0 0,.slice none 0 0,.int .i64 0,.slice none 0 0,.slice none 0 0,.slice none 0 0,.slice none 0 0,.slice none 0 0,.int .i64 0,.int .i64 0,.slice none 0 0,.slice none 0 0,.slice none 0 0,.slice none 0 0,.slice none 0 0,.int .i64 0,.int .i64 0]:=by kernel_rfl
@[go_sem] theorem pl48:fh pw 48=some [(0,6),(6,7),(13,7)]:=by kernel_rfl
@[go_sem] theorem aGu:bP pw 48 0=some (0,6):=by kernel_rfl
@[go_sem] theorem aGv:bP pw 48 1=some (6,7):=by kernel_rfl
@[go_sem] theorem aGw:bP pw 48 2=some (13,7):=by kernel_rfl
@[go_sem] theorem aIt:bl pw 52=some 1:=by kernel_rfl
@[go_sem] theorem aKc:fT pw 52=some false:=by kernel_rfl
@[go_sem] theorem aIu:cN pw 52=some [.slice none 0 0]:=by kernel_rfl
@[go_sem] theorem aIv:cG pw 52=some 57:=by kernel_rfl
@[go_sem] theorem aIw:isSlice pw 52=true:=by kernel_rfl
@[go_sem] theorem aEo:dy pw 52 52=some (57,3,24):=by kernel_rfl
@[go_sem] theorem aIx:bl pw 57=some 3:=by kernel_rfl
@[go_sem] theorem aKd:fT pw 57=some true:=by kernel_rfl
@[go_sem] theorem aIy:cN pw 57=some [.int .i64 0,.int .i64 0,.int .i64 0]:=by kernel_rfl
@[go_sem] theorem pl57:fh pw 57=some [(0,1),(1,1),(2,1)]:=by kernel_rfl
@[go_sem] theorem aGx:bP pw 57 0=some (0,1):=by kernel_rfl
@[go_sem] theorem aGy:bP pw 57 1=some (1,1):=by kernel_rfl
@[go_sem] theorem aGz:bP pw 57 2=some (2,1):=by kernel_rfl
@[go_sem] theorem aIz:bl pw 75=some 3:=by kernel_rfl
@[go_sem] theorem aKe:fT pw 75=some true:=by kernel_rfl
@[go_sem] theorem aIA:cN pw 75=some [.int .i64 0,.int .i64 0,.slice none 0 0]:=by kernel_rfl
@[go_sem] theorem pl75:fh pw 75=some [(0,1),(1,1),(2,1)]:=by kernel_rfl
@[go_sem] theorem aGA:bP pw 75 0=some (0,1):=by kernel_rfl
@[go_sem] theorem aGB:bP pw 75 1=some (1,1):=by kernel_rfl
@[go_sem] theorem aGC:bP pw 75 2=some (2,1):=by kernel_rfl
@[go_sem] theorem aGD:bl pw 102=some 4:=by kernel_rfl
@[go_sem] theorem aIB:fT pw 102=some true:=by kernel_rfl
@[go_sem] theorem aGE:cN pw 102=some [.int .i64 0,.int .i64 0,.int .i64 0,.int .i64 0]:=by kernel_rfl
@[go_sem] theorem aKf:fh pw 102=some [(0,1),(1,1),(2,1),(3,1)]:=by kernel_rfl
@[go_sem] theorem aEp:bP pw 102 0=some (0,1):=by kernel_rfl
@[go_sem] theorem aEq:bP pw 102 1=some (1,1):=by kernel_rfl
@[go_sem] theorem aEr:bP pw 102 2=some (2,1):=by kernel_rfl
@[go_sem] theorem aEs:bP pw 102 3=some (3,1):=by kernel_rfl
@[go_sem] theorem aGF:bl pw 105=some 4:=by kernel_rfl
@[go_sem] theorem aIC:fT pw 105=some true:=by kernel_rfl
@[go_sem] theorem aGG:cN pw 105=some [.int .i64 0,.int .i64 0,.int .i64 0,.int .i64 0]:=by kernel_rfl
@[go_sem] theorem aKg:fh pw 105=some [(0,1),(1,1),(2,1),(3,1)]:=by kernel_rfl
@[go_sem] theorem aEt:bP pw 105 0=some (0,1):=by kernel_rfl
@[go_sem] theorem aEu:bP pw 105 1=some (1,1):=by kernel_rfl
@[go_sem] theorem aEv:bP pw 105 2=some (2,1):=by kernel_rfl
@[go_sem] theorem aEw:bP pw 105 3=some (3,1):=by kernel_rfl
@[go_sem] theorem aID:ahz pw 121=some .u64:=by kernel_rfl
@[go_sem] theorem aIE:(Program.underlying pw 121).isSome=true:=by kernel_rfl
@[go_sem] theorem aGH:bl pw 126=some 14:=by kernel_rfl
@[go_sem] theorem aIF:fT pw 126=some true:=by kernel_rfl
@[go_sem] theorem aGI:cN pw 126=some [.slice none 0 0,.slice none 0 0,.slice none 0 0,.slice none 0 0,.slice none 0 0,.int .i64 0,.int .i64 0,.slice none 0 0,.slice none 0 0,.slice none 0 0,.slice none 0 0,.slice none 0 0,.int .i64 0,.int .i64 0]:=by kernel_rfl
@[go_sem] theorem aIG:wN pw 126=some (2,46):=by kernel_rfl
@[go_sem] theorem aKh:fh pw 126=some [(0,7),(7,7)]:=by kernel_rfl
@[go_sem] theorem aGJ:bl pw 159=some 3:=by kernel_rfl
@[go_sem] theorem aIH:fT pw 159=some true:=by kernel_rfl
@[go_sem] theorem aII:wN pw 159=some (3,5):=by kernel_rfl
@[go_sem] theorem aGK:bl pw 162=some 2:=by kernel_rfl
@[go_sem] theorem aIJ:fT pw 162=some true:=by kernel_rfl
@[go_sem] theorem aGL:cN pw 162=some [.int .u8 0,.int .u8 0]:=by kernel_rfl
@[go_sem] theorem aIK:wN pw 162=some (2,5):=by kernel_rfl
@[go_sem] theorem aKi:fh pw 162=some [(0,1),(1,1)]:=by kernel_rfl
@[go_sem] theorem aGM:bl pw 163=some 1:=by kernel_rfl
@[go_sem] theorem aIL:fT pw 163=some false:=by kernel_rfl
@[go_sem] theorem aGN:cG pw 163=some 168:=by kernel_rfl
@[go_sem] theorem aGO:isSlice pw 163=true:=by kernel_rfl
@[go_sem] theorem aIM:dy pw 163 163=some (168,4,56):=by kernel_rfl
@[go_sem] theorem aGP:bl pw 165=some 4:=by kernel_rfl
@[go_sem] theorem aIN:fT pw 165=some true:=by kernel_rfl
@[go_sem] theorem aGQ:cN pw 165=some [.string ⟨#[]⟩,.int .i64 0,.bool false,.slice none 0 0]:=by kernel_rfl
@[go_sem] theorem aKj:fh pw 165=some [(0,1),(1,1),(2,1),(3,1)]:=by kernel_rfl
@[go_sem] theorem aEx:bP pw 165 0=some (0,1):=by kernel_rfl
@[go_sem] theorem aEy:bP pw 165 1=some (1,1):=by kernel_rfl
@[go_sem] theorem aEz:bP pw 165 2=some (2,1):=by kernel_rfl
@[go_sem] theorem aEA:bP pw 165 3=some (3,1):=by kernel_rfl
@[go_sem] theorem aGR:bl pw 166=some 1:=by kernel_rfl
@[go_sem] theorem aIO:fT pw 166=some false:=by kernel_rfl
@[go_sem] theorem aGS:cG pw 166=some 9:=by kernel_rfl
@[go_sem] theorem aGT:isSlice pw 166=true:=by kernel_rfl
@[go_sem] theorem aIP:dy pw 166 166=some (9,1,16):=by kernel_rfl
@[go_sem] theorem aGU:bl pw 168=some 4:=by kernel_rfl
@[go_sem] theorem aIQ:fT pw 168=some true:=by kernel_rfl
@[go_sem] theorem aGV:cN pw 168=some [.string ⟨#[]⟩,.int .i64 0,.int .i64 0,.slice none 0 0]:=by kernel_rfl
@[go_sem] theorem aKk:fh pw 168=some [(0,1),(1,1),(2,1),(3,1)]:=by kernel_rfl
@[go_sem] theorem aEB:bP pw 168 0=some (0,1):=by kernel_rfl
@[go_sem] theorem aEC:bP pw 168 1=some (1,1):=by kernel_rfl
@[go_sem] theorem aED:bP pw 168 2=some (2,1):=by kernel_rfl
@[go_sem] theorem aEE:bP pw 168 3=some (3,1):=by kernel_rfl
@[go_sem] theorem aGW:bl pw 170=some 7:=by kernel_rfl
@[go_sem] theorem aIR:fT pw 170=some true:=by kernel_rfl
@[go_sem] theorem aGX:cN pw 170=some [.string ⟨#[]⟩,.int .i64 0,.int .i64 0,.int .i64 0,.int .i64 0,.int .i64 0,.int .i64 0]:=by kernel_rfl
@[go_sem] theorem aKl:fh pw 170=some [(0,1),(1,1),(2,1),(3,1),(4,1),(5,1),(6,1)]:=by kernel_rfl
@[go_sem] theorem aEF:bP pw 170 0=some (0,1):=by kernel_rfl
@[go_sem] theorem aEG:bP pw 170 1=some (1,1):=by kernel_rfl
@[go_sem] theorem aEH:bP pw 170 2=some (2,1):=by kernel_rfl
@[go_sem] theorem aEI:bP pw 170 3=some (3,1):=by kernel_rfl
@[go_sem] theorem aEJ:bP pw 170 4=some (4,1):=by kernel_rfl
@[go_sem] theorem aEK:bP pw 170 5=some (5,1):=by kernel_rfl
@[go_sem] theorem aEL:bP pw 170 6=some (6,1):=by kernel_rfl
@[go_sem] theorem aGY:bl pw 175=some 3:=by kernel_rfl
@[go_sem] theorem aIS:fT pw 175=some true:=by kernel_rfl
@[go_sem] theorem aGZ:cN pw 175=some [.int .i64 0,.int .i64 0,.int .i64 0]:=by kernel_rfl
@[go_sem] theorem aKm:fh pw 175=some [(0,1),(1,1),(2,1)]:=by kernel_rfl
@[go_sem] theorem aEM:bP pw 175 0=some (0,1):=by kernel_rfl
@[go_sem] theorem aEN:bP pw 175 1=some (1,1):=by kernel_rfl
@[go_sem] theorem aEO:bP pw 175 2=some (2,1):=by kernel_rfl
@[go_sem] theorem aG0:cG pw 179=some 46:=by kernel_rfl
@[go_sem] theorem aG1:isSlice pw 179=true:=by kernel_rfl
@[go_sem] theorem aG2:cG pw 180=some 126:=by kernel_rfl
@[go_sem] theorem aG3:isSlice pw 180=true:=by kernel_rfl
@[go_sem] theorem aG4:bl pw 185=some 1:=by kernel_rfl
@[go_sem] theorem aIT:fT pw 185=some false:=by kernel_rfl
@[go_sem] theorem aG5:cN pw 185=some [.slice none 0 0]:=by kernel_rfl
@[go_sem] theorem aG6:cG pw 185=some 188:=by kernel_rfl
@[go_sem] theorem aG7:isSlice pw 185=true:=by kernel_rfl
@[go_sem] theorem aDl:dy pw 185 185=some (188,3,24):=by kernel_rfl
@[go_sem] theorem aG8:bl pw 188=some 3:=by kernel_rfl
@[go_sem] theorem aIU:fT pw 188=some true:=by kernel_rfl
@[go_sem] theorem aG9:cN pw 188=some [.int .i64 0,.int .i64 0,.bool false]:=by kernel_rfl
@[go_sem] theorem aKn:fh pw 188=some [(0,1),(1,1),(2,1)]:=by kernel_rfl
@[go_sem] theorem aEP:bP pw 188 0=some (0,1):=by kernel_rfl
@[go_sem] theorem aEQ:bP pw 188 1=some (1,1):=by kernel_rfl
@[go_sem] theorem aHa:bl pw 197=some 2:=by kernel_rfl
@[go_sem] theorem aIV:fT pw 197=some true:=by kernel_rfl
@[go_sem] theorem aHb:cN pw 197=some [.slice none 0 0,.slice none 0 0]:=by kernel_rfl
@[go_sem] theorem aKo:fh pw 197=some [(0,1),(1,1)]:=by kernel_rfl
@[go_sem] theorem aER:bP pw 197 0=some (0,1):=by kernel_rfl
@[go_sem] theorem aES:bP pw 197 1=some (1,1):=by kernel_rfl
@[go_sem] theorem aHc:bl pw 227=some 2:=by kernel_rfl
@[go_sem] theorem aHd:cN pw 227=some [.slice none 0 0,.slice none 0 0]:=by kernel_rfl
@[go_sem] theorem aKp:fh pw 227=some [(0,1),(1,1)]:=by kernel_rfl
@[go_sem] theorem aET:bP pw 227 0=some (0,1):=by kernel_rfl
@[go_sem] theorem aEU:bP pw 227 1=some (1,1):=by kernel_rfl
@[go_sem] theorem aHe:cG pw 238=some 241:=by kernel_rfl
@[go_sem] theorem aHf:isSlice pw 238=true:=by kernel_rfl
@[go_sem] theorem aIW:dy pw 238 238=some (241,3,24):=by kernel_rfl
@[go_sem] theorem aHg:bl pw 241=some 3:=by kernel_rfl
@[go_sem] theorem aIX:fT pw 241=some true:=by kernel_rfl
@[go_sem] theorem aHh:cN pw 241=some [.int .i64 0,.int .i64 0,.bool false]:=by kernel_rfl
@[go_sem] theorem aKq:fh pw 241=some [(0,1),(1,1),(2,1)]:=by kernel_rfl
@[go_sem] theorem aEV:bP pw 241 0=some (0,1):=by kernel_rfl
@[go_sem] theorem aEW:bP pw 241 1=some (1,1):=by kernel_rfl
@[go_sem] theorem aHi:cG pw 247=some 52:=by kernel_rfl
@[go_sem] theorem aHj:isSlice pw 247=true:=by kernel_rfl
@[go_sem] theorem aHk:cG pw 258=some 185:=by kernel_rfl
@[go_sem] theorem aHl:isSlice pw 258=true:=by kernel_rfl
@[go_sem] theorem aHm:cG pw 260=some 264:=by kernel_rfl
@[go_sem] theorem aHn:isSlice pw 260=true:=by kernel_rfl
@[go_sem] theorem aIY:dy pw 260 260=some (264,4,32):=by kernel_rfl
@[go_sem] theorem aHo:bl pw 264=some 4:=by kernel_rfl
@[go_sem] theorem aIZ:fT pw 264=some true:=by kernel_rfl
@[go_sem] theorem aHp:cN pw 264=some [.int .i64 0,.int .i64 0,.int .i64 0,.bool false]:=by kernel_rfl
@[go_sem] theorem aKr:fh pw 264=some [(0,1),(1,1),(2,1),(3,1)]:=by kernel_rfl
@[go_sem] theorem aEX:bP pw 264 0=some (0,1):=by kernel_rfl
@[go_sem] theorem aEY:bP pw 264 1=some (1,1):=by kernel_rfl
@[go_sem] theorem aEZ:bP pw 264 3=some (3,1):=by kernel_rfl
@[go_sem] theorem aHq:bl pw 312=some 1:=by kernel_rfl
@[go_sem] theorem aI0:fT pw 312=some false:=by kernel_rfl
@[go_sem] theorem aHr:bl pw 362=some 3:=by kernel_rfl
@[go_sem] theorem aI1:fT pw 362=some true:=by kernel_rfl
@[go_sem] theorem aHs:cN pw 362=some [.int .i64 0,.string ⟨#[]⟩,.int .i64 0]:=by kernel_rfl
@[go_sem] theorem aKs:fh pw 362=some [(0,1),(1,1),(2,1)]:=by kernel_rfl
@[go_sem] theorem aE0:bP pw 362 0=some (0,1):=by kernel_rfl
@[go_sem] theorem aE1:bP pw 362 1=some (1,1):=by kernel_rfl
@[go_sem] theorem sk57:vD pw 57=some [.i,.i,.i]:=by kernel_rfl
@[go_sem] theorem aKt:vD pw 102=some [.i,.i,.i,.i]:=by kernel_rfl
@[go_sem] theorem aKu:vD pw 188=some [.i,.i,.b]:=by kernel_rfl
@[go_sem] theorem aKv:vD pw 241=some [.i,.i,.b]:=by kernel_rfl
end Go.Proofs.YtjhkgjlmiolfoaaGreat.Ty
namespace Go.cv
theorem aE2{α β:Type}(f:α->β)(l:List α)(n:Nat):(l.map f).take n=(l.take n).map f:=(map_take ..).symm
theorem aE3{α β:Type}(f:α->β)(l:List α)(n:Nat):(l.map f).drop n=(l.drop n).map f:=(map_drop ..).symm
attribute [go_sem] Nat.reduceEqDiff Nat.reduceLT Nat.reduceLeDiff Nat.reduceMul Nat.reduceAdd Nat.reduceBEq Nat.reduceSub Int.reduceToNat reduceIte reduceCtorEq
attribute [go_sem] aE2 aE3 le_refl not_lt_zero zero_le Nat.zero_lt_succ decide_true decide_false Bool.not_not exists_eq'
end Go.cv
namespace Go.Proofs.YtjhkgjlmiolfoaaGreat
open Go.cv
def encI(n:Int):List PV:=[.val (.int .i64 n)]
def iQ(s:ByteArray):List PV:=[.val (.string s)]
def bk(l:List Int):PV:=.aU (l.map encI)
def cV(l:List ByteArray):PV:=.aU (l.map iQ)
structure Attr where
 name:ByteArray
 low:Int
 high:Int
 names:List ByteArray
structure gT where
 name:ByteArray
 parent:Int
 abs:Bool
 attrs:List Attr
structure l8 where
 name:ByteArray
 src:Int
 dst:Int
 nN:Int
 j5:Int
 tH:Int
 oh:Int
structure Types where
 nodes:List gT
 ak:List l8
structure aKw where
 nodes:List Int
 ak:List Int
structure Edge where
 type:Int
 src:Int
 dst:Int
structure eY where
 nodes:List Int
 ak:List Edge
structure Host where
 graph:eY
 values:List (List Int)
structure aE4 where
 a:Int
 b:Int
instance:Inhabited ByteArray:=⟨.empty⟩
instance:Inhabited Attr:=⟨⟨.empty,0,0,[]⟩⟩
instance:Inhabited gT:=⟨⟨.empty,0,false,[]⟩⟩
instance:Inhabited l8:=⟨⟨.empty,0,0,0,0,0,0⟩⟩
instance:Inhabited Edge:=⟨⟨0,0,0⟩⟩
instance:Inhabited aE4:=⟨⟨0,0⟩⟩
def aV(a:Attr):List PV:=[.val (.string a.name),.val (.int .i64 a.low),.val (.int .i64 a.high),cV a.names]
def aJ(n:gT):List PV:=[.val (.string n.name),.val (.int .i64 n.parent),.val (.bool n.abs),.aU (n.attrs.map aV)]
def aP(e:l8):List PV:=[.val (.string e.name),.val (.int .i64 e.src),.val (.int .i64 e.dst),.val (.int .i64 e.nN),.val (.int .i64 e.j5),.val (.int .i64 e.tH),.val (.int .i64 e.oh)]
def aZ(e:Edge):List PV:=[.val (.int .i64 e.type),.val (.int .i64 e.src),.val (.int .i64 e.dst)]
def bJ(l:List Int):List PV:=[bk l]
def aH(t:Types):PV:=.agg [.aU (t.nodes.map aJ),.aU (t.ak.map aP)]
def fk(g:eY):PV:=.agg [bk g.nodes,.aU (g.ak.map aZ)]
def cM(h:Host):PV:=.agg [bk h.graph.nodes,.aU (h.graph.ak.map aZ),.aU (h.values.map bJ)]
theorem getD_map{α:Type} [Inhabited α](f:α->List PV){l:List α}{n:Nat}(h:n<l.length):(l.map f).getD n []=f (l.getD n default):=by simp[h]
theorem om{α:Type} [Inhabited α]{l:List α}{n:Nat}(h:n<l.length):l.take (n+1)=l.take n++[l.getD n default]:=by rw[take_add_one];simp[h]
theorem bw{k n:Nat}(h:k<n)(hn:n<=4611686018427387904):i64.wrap ((k:Int)+1)=((k+1:Nat):Int):=by rw[IntWalk.i64_in _ (by omega)];omega
section
variable{P:Program}{N:Nat}{own:List Nat}{ops:Array Oper}{K:Env->aA->Prop}{env:Env}{H:aA}
theorem ajr(x:PV):gR H (.p x)=some (x,false):=rfl
theorem jQ(ps:List PV):eC (gR H) (ps.map AV.p)=some (ps,false):=by
 induction ps with
 |nil=>rfl
 |cons a r ih=>simp[eC,ajr,ih]
theorem jR(qs bs:List AV):eC (gR H) (qs++bs)=(match eC (gR H) qs,eC (gR H) bs with|some (xs,b),some (ys,c)=>some (xs++ys,b||c)|_,_=>none):=by
 induction qs with
 |nil =>
  simp only[nil_append,eC];cases eC (gR H) bs with
  |none=>rfl
  |some r=>obtain⟨ys,c⟩:=r;simp
 |cons a r ih =>
  simp only[cons_append,eC,ih];cases gR H a with
  |none=>rfl
  |some q =>
   cases eC (gR H) r with
   |none=>rfl
   |some r1 =>
    cases eC (gR H) bs with
    |none=>rfl
    |some r2=>simp[Bool.or_assoc]
theorem aW{b:Bool}{x y:Code}{K:qB}(h1:b=true->ab5 P N own (.p (.val (.bool false))) x y K env H)(h2:b=false->ab5 P N own (.p (.val (.bool true))) x y K env H):ab5 P N own (.p (.val (.bool !b))) x y K env H:=by
 cases b
 ·exact h2 rfl
 ·exact h1 rfl
theorem bL{b:Bool}{o:Oper}{rest:List Oper}(h1:b=true->aaN P N own ops (some true) o rest K env H)(h2:b=false->aaN P N own ops (some false) o rest K env H):aaN P N own ops (some b) o rest K env H:=by
 cases b
 ·exact h2 rfl
 ·exact h1 rfl
theorem bQ{b:Bool}{o:Oper}{rest:List Oper}(h1:b=true->aaN P N own ops (some false) o rest K env H)(h2:b=false->aaN P N own ops (some true) o rest K env H):aaN P N own ops (some !b) o rest K env H:=by
 cases b
 ·exact h2 rfl
 ·exact h1 rfl
theorem pK{b:Bool}{c:oE}{o:Oper}{rest:List (Oper×oE)}(h1:b=true->wj P N own ops (some false) c o rest K env H)(h2:b=false->wj P N own ops (some true) c o rest K env H):wj P N own ops (some !b) c o rest K env H:=by
 cases b
 ·exact h2 rfl
 ·exact h1 rfl
theorem oG{b:Bool}{c:oE}{o:Oper}{rest:List (Oper×oE)}(h1:b=true->wj P N own ops (some true) c o rest K env H)(h2:b=false->wj P N own ops (some false) c o rest K env H):wj P N own ops (some b) c o rest K env H:=by
 cases b
 ·exact h2 rfl
 ·exact h1 rfl
end
end Go.Proofs.YtjhkgjlmiolfoaaGreat
namespace Go.cv
theorem aE5{P:Program}{f:FuncId}{fn:Func}{c:Code}{args:List PV}{Q:PV->Prop}(own:List Nat)(hf:P.funcs[f]? = some fn)(h:cw P fn.ntmps own c (aAx P fn.results.toList Q) (iw args) cq)(hm:P.follows .mixedOrders=true:=by exact Ty.mixed)(hb:fn.body=some c:=by rfl)(hc:gF P f=true:=by kernel_rfl)(hn:args.length<=fn.ntmps:=by first|decide|simp):aS P f args Q:=aeb own hm hf hb hc hn h
theorem aE6{P:Program}{f:FuncId}{fn:Func}{c:Code}{args:List PV}{Q:RV->Prop}(own:List Nat)(hf:P.funcs[f]? = some fn)(h:cw P fn.ntmps own c (aAy P fn.results.toList Q) (iw args) cq)(hm:P.follows .mixedOrders=true:=by exact Ty.mixed)(hb:fn.body=some c:=by rfl)(hc:gF P f=true:=by kernel_rfl)(hn:args.length<=fn.ntmps:=by first|decide|simp):bt P f args Q:=aec own hm hf hb hc hn h
theorem aR{P:Program}{f:FuncId}{fn:Func}{c:Code}{args:List PV}{Q:PV->Prop}{n:Nat}{rs:Array ResultVar}(own:List Nat)(hf:P.funcs[f]? = some fn)(hx:fn.ntmps=n)(hy:fn.results=rs)(h:cw P n own c (aAx P rs.toList Q) (iw args) cq)(hm:P.follows .mixedOrders=true:=by exact Ty.mixed)(hb:fn.body=some c:=by rfl)(hc:gF P f=true:=by kernel_rfl)(hn:args.length<=fn.ntmps:=by first|decide|simp):aS P f args Q:=aeb own hm hf hb hc hn (by rw[hx,hy];exact h)
theorem bF{P:Program}{f:FuncId}{fn:Func}{c:Code}{args:List PV}{Q:RV->Prop}{n:Nat}{rs:Array ResultVar}(own:List Nat)(hf:P.funcs[f]? = some fn)(hx:fn.ntmps=n)(hy:fn.results=rs)(h:cw P n own c (aAy P rs.toList Q) (iw args) cq)(hm:P.follows .mixedOrders=true:=by exact Ty.mixed)(hb:fn.body=some c:=by rfl)(hc:gF P f=true:=by kernel_rfl)(hn:args.length<=fn.ntmps:=by first|decide|simp):bt P f args Q:=aec own hm hf hb hc hn (by rw[hx,hy];exact h)
end Go.cv
namespace Go.Proofs.YtjhkgjlmiolfoaaGreat
open Go.cv
theorem aaQ(n a b:Int):aS pw 154 [.val (.int .i64 n),.val (.int .i64 a),.val (.int .i64 b)] (λr=>r = .val (.bool (decide (a<=n)&&decide (n<=b)))):=by refine aR [] func154 ntmps154 results154 ?_;simp only[go_sem];refine bL (λh=>?_) (λh=>?_)<;>simp only[go_sem,h]
theorem aav(n m:Int):aS pw 228 [.val (.int .i64 n),.val (.int .i64 m)] (λr=>r = .val (.bool (decide (0<=n)&&decide (n<=m)))):=by refine aR [] func228 ntmps228 results228 ?_;simp only[go_sem];refine bL (λh=>?_) (λh=>?_)<;>simp only[go_sem,h]
def wk(a b:Int):Bool:=(decide (0<=a)&&decide (a<=40))&&(decide (b = -1)||(decide (a<=b)&&decide (b<=40)))
theorem afI(a b:Int):aS pw 226 [.val (.int .i64 a),.val (.int .i64 b)] (λr=>r = .val (.bool (wk a b))):=by
 unfold wk;refine aR [] func226 ntmps226 results226 ?_;simp only[go_sem]
 repeat' first|done|(refine bQ (λh=>?_) (λh=>?_)<;>try simp only[go_sem,h])|(refine bL (λh=>?_) (λh=>?_)<;>try simp only[go_sem,h])|(refine aW (λh=>?_) (λh=>?_)<;>try simp only[go_sem,h])|(refine aL (λh=>?_) (λh=>?_)<;>try simp only[go_sem,h])
theorem alM(a b:Int):aS pw 237 [.val (.int .i64 a),.val (.int .i64 b)] (λr=>r = .val (.bool (wk a b))):=by
 unfold wk;refine aR [] func237 ntmps237 results237 ?_;simp only[go_sem];refine aX (aaQ a 0 40) (by simp only[go_sem]<;>rfl) (b7 rfl) ?_;simp only[go_sem]
 repeat' first|done|(refine bQ (λh=>?_) (λh=>?_)<;>try simp only[go_sem,h])|(refine bL (λh=>?_) (λh=>?_)<;>try simp only[go_sem,h])|(refine aW (λh=>?_) (λh=>?_)<;>try simp only[go_sem,h])|(refine aL (λh=>?_) (λh=>?_)<;>try simp only[go_sem,h])
 all_goals
  refine aX (aaQ b a 40) (by simp only[go_sem]<;>rfl) (b7 rfl) ?_;simp only[go_sem, *]
def qG(n:Int):Bool:=(decide (97<=n)&&decide (n<=122))||(decide (65<=n)&&decide (n<=90))
def wm(n:Int):Bool:=decide (48<=n)&&decide (n<=57)
def aaR(n:Int):Bool:=(qG n||wm n)||decide (n=95)
theorem ahW(n:Int):aS pw 396 [.val (.int .u8 n)] (λr=>r = .val (.bool (qG n))):=by
 unfold qG;refine aR [] func396 ntmps396 results396 ?_;simp only[go_sem]
 repeat' first|done|(refine bQ (λh=>?_) (λh=>?_)<;>try simp only[go_sem,h])|(refine bL (λh=>?_) (λh=>?_)<;>try simp only[go_sem,h])|(refine aW (λh=>?_) (λh=>?_)<;>try simp only[go_sem,h])|(refine aL (λh=>?_) (λh=>?_)<;>try simp only[go_sem,h])
end Go.Proofs.YtjhkgjlmiolfoaaGreat
namespace Go.cv
theorem bU{e e':Env}{H H':aA}(h1:afr e' e:=by repeat (first|exact awV _|refine aAX ?_ (by first|rfl|simp[cE])))(h2:HSub H' H:=by repeat (first|exact aEj _|refine asC ?_ (by first|rfl|simp[bh])))(h3:adk e' H':=by repeat (first|exact awW _|refine aAY ?_ (by simp[pF,mZ,bh])))(h4:qC H' H':=by repeat (first|exact aAZ _|refine aoj ?_|refine ak6 ?_|refine alN ?_|refine alO ?_|refine aoi ?_ (by simp[pF,mZ,bh])))(h5:l6 H H':=by repeat (first|exact aCy _|refine ak7 (by decide) ?_|refine asD (by simp[bh]) ?_)):dx e H e' H':=aA0 h1 h2 h3 h4 h5
end Go.cv
namespace Go.Proofs.YtjhkgjlmiolfoaaGreat
open Go.cv
def idxOf{α:Type}(p:α->Bool)(l:List α):Int:=match l.findIdx? p with
 |some i=>i
 |none=>-1
theorem pL{α:Type} [Inhabited α]{p:α->Bool}{l:List α}{k:Nat}(hk:k<l.length)(h1:∀j,j<k->p (l.getD j default)=false)(h2:p (l.getD k default)=true):idxOf p l=k:=by
 have:l.findIdx? p=some k:=by
  rw[findIdx?_eq_some_iff_getElem];refine⟨hk,by simpa[hk] using h2,λj hj=>?_⟩;have:=h1 j hj;have hjl:j<l.length:=by omega
  simpa[hjl] using this
 simp[idxOf,this]
theorem lF{α:Type} [Inhabited α]{p:α->Bool}{l:List α}(h1:∀j,j<l.length->p (l.getD j default)=false):idxOf p l = -1:=by
 have:l.findIdx? p=none:=by rw[findIdx?_eq_none_iff];intro x hx;obtain⟨j,hj,rfl⟩:=getElem_of_mem hx;have:=h1 j hj;simpa[hj] using this
 simp[idxOf,this]
theorem kQ{α:Type}{p:α->Bool}{l:List α} : decide (0<=idxOf p l)=l.any p:=by
 unfold idxOf;cases h:l.findIdx? p with
 |none =>
  rw[findIdx?_eq_none_iff] at h;have:l.any p=false:=by simpa using h
  simp[this]
 |some i=>rw[findIdx?_eq_some_iff_getElem] at h;obtain⟨hi,h,_⟩:=h;have:l.any p=true:=any_eq_true.2 ⟨_,nS hi,h⟩;simp[this]
def pA(cs:List PV):PV:=.agg cs
def pV(cs:List PV):PV:=cs.getD 0 .emp
theorem ao0(p:Attr->Bool)(l:List Attr)(hl:l.length<=1000000)(k:FuncId)(fs cs:List PV)(hp:∀x∈l,aS pw k (fs++[pA (aV x)]++cs) (λr=>r = .val (.bool (p x)))) :
  aS pw 345 [.aU (l.map aV),.iK (.func k) fs cs] (λr=>r = .val (.int .i64 (idxOf p l))):=by
 refine aR [] func345 ntmps345 results345 ?_;simp only[go_sem];refine bM (σ:=Nat) (λx=>(cE (cE (cE (cE fS 0 (.p (.aU (l.map aV)))) 1 (.p (.iK (.func k) fs cs))) 7 (.p (.val (.int .i64 l.length)))) 8 (.p (.val (.int .i64 x))))) (λx=>cq)
  (λx=>x<=l.length/\∀j,j<x->p (l.getD j default)=false) (λx=>l.length-x) 0 ⟨zero_le _,λj hj=>absurd hj (not_lt_zero j)⟩ bU ?_
 rintro x ⟨hx,hq⟩;simp only[go_sem];refine aL (λhc=>?_) (λhc=>?_)
 ·have hlt:x<l.length:=by simpa using hc
  simp only[go_sem,getD_map aV hlt,hlt,aV];refine aX (hp (l.getD x default) (by simp[hlt])) (by simp only[go_sem,jR,jQ,aV,pA,Bool.or_false,Bool.false_or]<;>rfl) (b7 rfl) ?_;simp only[go_sem];refine aL (λhb=>?_) (λhb=>?_)<;>simp only[go_sem]
  ·exact (pL hlt hq hb).symm
  ·refine bO (x+1) ⟨hlt,λj hj=>?_⟩ (by omega) ?_
   ·rcases lt_succ_iff_lt_or_eq.1 hj with h|h
    ·exact hq j h
    ·rw[h];exact hb
   ·rw[bw hlt (by omega)];exact bU
 ·have hge:l.length<=x:=by simpa using hc
  simp only[go_sem,hc];rw[lF λj hj=>hq j (by omega)]
theorem ahc(p:Attr->Bool)(l:List Attr)(hl:l.length<=1000000)(k:FuncId)(fs cs:List PV)(hp:∀x∈l,aS pw k (fs++[pA (aV x)]++cs) (λr=>r = .val (.bool (p x)))) :
  aS pw 288 [.aU (l.map aV),.iK (.func k) fs cs] (λr=>r = .val (.bool (l.any p))):=by
 refine aR [] func288 ntmps288 results288 ?_;simp only[go_sem];refine aX (ao0 p l hl k fs cs hp) (by simp only[go_sem]<;>rfl) (b7 rfl) ?_;simp only[go_sem];exact kQ
theorem ao2(p:gT->Bool)(l:List gT)(hl:l.length<=1000000)(k:FuncId)(fs cs:List PV)(hp:∀x∈l,aS pw k (fs++[pA (aJ x)]++cs) (λr=>r = .val (.bool (p x)))) :
  aS pw 287 [.aU (l.map aJ),.iK (.func k) fs cs] (λr=>r = .val (.int .i64 (idxOf p l))):=by
 refine aR [] func287 ntmps287 results287 ?_;simp only[go_sem];refine bM (σ:=Nat) (λx=>(cE (cE (cE (cE fS 0 (.p (.aU (l.map aJ)))) 1 (.p (.iK (.func k) fs cs))) 7 (.p (.val (.int .i64 l.length)))) 8 (.p (.val (.int .i64 x))))) (λx=>cq)
  (λx=>x<=l.length/\∀j,j<x->p (l.getD j default)=false) (λx=>l.length-x) 0 ⟨zero_le _,λj hj=>absurd hj (not_lt_zero j)⟩ bU ?_
 rintro x ⟨hx,hq⟩;simp only[go_sem];refine aL (λhc=>?_) (λhc=>?_)
 ·have hlt:x<l.length:=by simpa using hc
  simp only[go_sem,getD_map aJ hlt,hlt,aJ];refine aX (hp (l.getD x default) (by simp[hlt])) (by simp only[go_sem,jR,jQ,aJ,pA,Bool.or_false,Bool.false_or]<;>rfl) (b7 rfl) ?_;simp only[go_sem];refine aL (λhb=>?_) (λhb=>?_)<;>simp only[go_sem]
  ·exact (pL hlt hq hb).symm
  ·refine bO (x+1) ⟨hlt,λj hj=>?_⟩ (by omega) ?_
   ·rcases lt_succ_iff_lt_or_eq.1 hj with h|h
    ·exact hq j h
    ·rw[h];exact hb
   ·rw[bw hlt (by omega)];exact bU
 ·have hge:l.length<=x:=by simpa using hc
  simp only[go_sem,hc];rw[lF λj hj=>hq j (by omega)]
theorem ahd(p:gT->Bool)(l:List gT)(hl:l.length<=1000000)(k:FuncId)(fs cs:List PV)(hp:∀x∈l,aS pw k (fs++[pA (aJ x)]++cs) (λr=>r = .val (.bool (p x)))) :
  aS pw 219 [.aU (l.map aJ),.iK (.func k) fs cs] (λr=>r = .val (.bool (l.any p))):=by
 refine aR [] func219 ntmps219 results219 ?_;simp only[go_sem];refine aX (ao2 p l hl k fs cs hp) (by simp only[go_sem]<;>rfl) (b7 rfl) ?_;simp only[go_sem];exact kQ
theorem alP(p:l8->Bool)(l:List l8)(hl:l.length<=1000000)(k:FuncId)(fs cs:List PV)(hp:∀x∈l,aS pw k (fs++[pA (aP x)]++cs) (λr=>r = .val (.bool (p x)))) :
  aS pw 291 [.aU (l.map aP),.iK (.func k) fs cs] (λr=>r = .val (.int .i64 (idxOf p l))):=by
 refine aR [] func291 ntmps291 results291 ?_;simp only[go_sem];refine bM (σ:=Nat) (λx=>(cE (cE (cE (cE fS 0 (.p (.aU (l.map aP)))) 1 (.p (.iK (.func k) fs cs))) 7 (.p (.val (.int .i64 l.length)))) 8 (.p (.val (.int .i64 x))))) (λx=>cq)
  (λx=>x<=l.length/\∀j,j<x->p (l.getD j default)=false) (λx=>l.length-x) 0 ⟨zero_le _,λj hj=>absurd hj (not_lt_zero j)⟩ bU ?_
 rintro x ⟨hx,hq⟩;simp only[go_sem];refine aL (λhc=>?_) (λhc=>?_)
 ·have hlt:x<l.length:=by simpa using hc
  simp only[go_sem,getD_map aP hlt,hlt,aP];refine aX (hp (l.getD x default) (by simp[hlt])) (by simp only[go_sem,jR,jQ,aP,pA,Bool.or_false,Bool.false_or]<;>rfl) (b7 rfl) ?_;simp only[go_sem];refine aL (λhb=>?_) (λhb=>?_)<;>simp only[go_sem]
  ·exact (pL hlt hq hb).symm
  ·refine bO (x+1) ⟨hlt,λj hj=>?_⟩ (by omega) ?_
   ·rcases lt_succ_iff_lt_or_eq.1 hj with h|h
    ·exact hq j h
    ·rw[h];exact hb
   ·rw[bw hlt (by omega)];exact bU
 ·have hge:l.length<=x:=by simpa using hc
  simp only[go_sem,hc];rw[lF λj hj=>hq j (by omega)]
theorem afJ(p:l8->Bool)(l:List l8)(hl:l.length<=1000000)(k:FuncId)(fs cs:List PV)(hp:∀x∈l,aS pw k (fs++[pA (aP x)]++cs) (λr=>r = .val (.bool (p x)))) :
  aS pw 224 [.aU (l.map aP),.iK (.func k) fs cs] (λr=>r = .val (.bool (l.any p))):=by
 refine aR [] func224 ntmps224 results224 ?_;simp only[go_sem];refine aX (alP p l hl k fs cs hp) (by simp only[go_sem]<;>rfl) (b7 rfl) ?_;simp only[go_sem];exact kQ
theorem ao3(p:Edge->Bool)(l:List Edge)(hl:l.length<=1000000)(k:FuncId)(fs cs:List PV)(hp:∀x∈l,aS pw k (fs++[pA (aZ x)]++cs) (λr=>r = .val (.bool (p x)))) :
  aS pw 292 [.aU (l.map aZ),.iK (.func k) fs cs] (λr=>r = .val (.int .i64 (idxOf p l))):=by
 refine aR [] func292 ntmps292 results292 ?_;simp only[go_sem];refine bM (σ:=Nat) (λx=>(cE (cE (cE (cE fS 0 (.p (.aU (l.map aZ)))) 1 (.p (.iK (.func k) fs cs))) 7 (.p (.val (.int .i64 l.length)))) 8 (.p (.val (.int .i64 x))))) (λx=>cq)
  (λx=>x<=l.length/\∀j,j<x->p (l.getD j default)=false) (λx=>l.length-x) 0 ⟨zero_le _,λj hj=>absurd hj (not_lt_zero j)⟩ bU ?_
 rintro x ⟨hx,hq⟩;simp only[go_sem];refine aL (λhc=>?_) (λhc=>?_)
 ·have hlt:x<l.length:=by simpa using hc
  simp only[go_sem,getD_map aZ hlt,hlt,aZ];refine aX (hp (l.getD x default) (by simp[hlt])) (by simp only[go_sem,jR,jQ,aZ,pA,Bool.or_false,Bool.false_or]<;>rfl) (b7 rfl) ?_;simp only[go_sem];refine aL (λhb=>?_) (λhb=>?_)<;>simp only[go_sem]
  ·exact (pL hlt hq hb).symm
  ·refine bO (x+1) ⟨hlt,λj hj=>?_⟩ (by omega) ?_
   ·rcases lt_succ_iff_lt_or_eq.1 hj with h|h
    ·exact hq j h
    ·rw[h];exact hb
   ·rw[bw hlt (by omega)];exact bU
 ·have hge:l.length<=x:=by simpa using hc
  simp only[go_sem,hc];rw[lF λj hj=>hq j (by omega)]
theorem ahe(p:Edge->Bool)(l:List Edge)(hl:l.length<=1000000)(k:FuncId)(fs cs:List PV)(hp:∀x∈l,aS pw k (fs++[pA (aZ x)]++cs) (λr=>r = .val (.bool (p x)))) :
  aS pw 229 [.aU (l.map aZ),.iK (.func k) fs cs] (λr=>r = .val (.bool (l.any p))):=by
 refine aR [] func229 ntmps229 results229 ?_;simp only[go_sem];refine aX (ao3 p l hl k fs cs hp) (by simp only[go_sem]<;>rfl) (b7 rfl) ?_;simp only[go_sem];exact kQ
theorem atl(p:Int->Bool)(l:List Int)(hl:l.length<=1000000)(k:FuncId)(fs cs:List PV)(hp:∀x∈l,aS pw k (fs++[pV (encI x)]++cs) (λr=>r = .val (.bool (p x)))) :
  aS pw 123 [.aU (l.map encI),.iK (.func k) fs cs] (λr=>r = .val (.int .i64 (idxOf p l))):=by
 refine aR [] func123 ntmps123 results123 ?_;simp only[go_sem];refine bM (σ:=Nat) (λx=>(cE (cE (cE (cE fS 0 (.p (.aU (l.map encI)))) 1 (.p (.iK (.func k) fs cs))) 7 (.p (.val (.int .i64 l.length)))) 8 (.p (.val (.int .i64 x))))) (λx=>cq)
  (λx=>x<=l.length/\∀j,j<x->p (l.getD j default)=false) (λx=>l.length-x) 0 ⟨zero_le _,λj hj=>absurd hj (not_lt_zero j)⟩ bU ?_
 rintro x ⟨hx,hq⟩;simp only[go_sem];refine aL (λhc=>?_) (λhc=>?_)
 ·have hlt:x<l.length:=by simpa using hc
  simp only[go_sem,getD_map encI hlt,hlt,encI];refine aX (hp (l.getD x default) (by simp[hlt])) (by simp only[go_sem,jR,jQ,encI,pV,Bool.or_false,Bool.false_or]<;>rfl) (b7 rfl) ?_;simp only[go_sem];refine aL (λhb=>?_) (λhb=>?_)<;>simp only[go_sem]
  ·exact (pL hlt hq hb).symm
  ·refine bO (x+1) ⟨hlt,λj hj=>?_⟩ (by omega) ?_
   ·rcases lt_succ_iff_lt_or_eq.1 hj with h|h
    ·exact hq j h
    ·rw[h];exact hb
   ·rw[bw hlt (by omega)];exact bU
 ·have hge:l.length<=x:=by simpa using hc
  simp only[go_sem,hc];rw[lF λj hj=>hq j (by omega)]
theorem ach(p:Int->Bool)(l:List Int)(hl:l.length<=1000000)(k:FuncId)(fs cs:List PV)(hp:∀x∈l,aS pw k (fs++[pV (encI x)]++cs) (λr=>r = .val (.bool (p x)))) :
  aS pw 65 [.aU (l.map encI),.iK (.func k) fs cs] (λr=>r = .val (.bool (l.any p))):=by
 refine aR [] func65 ntmps65 results65 ?_;simp only[go_sem];refine aX (atl p l hl k fs cs hp) (by simp only[go_sem]<;>rfl) (b7 rfl) ?_;simp only[go_sem];exact kQ
theorem aDm(l:List Int)(y:Int)(hl:l.length<=1000000) :
  aS pw 63 [.aU (l.map encI),.val (.int .i64 y)] (λr=>r = .val (.int .i64 (idxOf (λx=>decide (y=x)) l))):=by
 refine aR [] func63 ntmps63 results63 ?_;simp only[go_sem];refine bM (σ:=Nat) (λx=>(cE (cE (cE (cE fS 0 (.p (.aU (l.map encI)))) 1 (.p (.val (.int .i64 y)))) 7 (.p (.val (.int .i64 l.length)))) 8 (.p (.val (.int .i64 x))))) (λx=>cq)
  (λx=>x<=l.length/\∀j,j<x->decide (y=l.getD j default)=false) (λx=>l.length-x) 0 ⟨zero_le _,λj hj=>absurd hj (not_lt_zero j)⟩ bU ?_
 rintro x ⟨hx,hq⟩;simp only[go_sem];refine aL (λhc=>?_) (λhc=>?_)
 ·have hlt:x<l.length:=by simpa using hc
  simp only[go_sem,getD_map encI hlt,hlt,encI];refine aL (λhb=>?_) (λhb=>?_)<;>simp only[go_sem]
  ·exact (pL (p:=λx=>decide (y=x)) hlt hq hb).symm
  ·refine bO (x+1) ⟨hlt,λj hj=>?_⟩ (by omega) ?_
   ·rcases lt_succ_iff_lt_or_eq.1 hj with h|h
    ·exact hq j h
    ·rw[h];exact hb
   ·rw[bw hlt (by omega)];exact bU
 ·have hge:l.length<=x:=by simpa using hc
  simp only[go_sem,hc];rw[lF λj hj=>hq j (by omega)]
theorem aBn(l:List Int)(y:Int)(hl:l.length<=1000000) :
  aS pw 25 [.aU (l.map encI),.val (.int .i64 y)] (λr=>r = .val (.bool (l.any λx=>decide (y=x)))):=by
 refine aR [] func25 ntmps25 results25 ?_;simp only[go_sem];refine aX (aDm l y hl) (by simp only[go_sem]<;>rfl) (b7 rfl) ?_;simp only[go_sem];exact kQ
theorem aDn(l:List ByteArray)(y:ByteArray)(hl:l.length<=1000000) :
  aS pw 403 [.aU (l.map iQ),.val (.string y)] (λr=>r = .val (.int .i64 (idxOf (λx=>decide (y=x)) l))):=by
 refine aR [] func403 ntmps403 results403 ?_;simp only[go_sem];refine bM (σ:=Nat) (λx=>(cE (cE (cE (cE fS 0 (.p (.aU (l.map iQ)))) 1 (.p (.val (.string y)))) 7 (.p (.val (.int .i64 l.length)))) 8 (.p (.val (.int .i64 x))))) (λx=>cq)
  (λx=>x<=l.length/\∀j,j<x->decide (y=l.getD j default)=false) (λx=>l.length-x) 0 ⟨zero_le _,λj hj=>absurd hj (not_lt_zero j)⟩ bU ?_
 rintro x ⟨hx,hq⟩;simp only[go_sem];refine aL (λhc=>?_) (λhc=>?_)
 ·have hlt:x<l.length:=by simpa using hc
  simp only[go_sem,getD_map iQ hlt,hlt,iQ];refine aL (λhb=>?_) (λhb=>?_)<;>simp only[go_sem]
  ·exact (pL (p:=λx=>decide (y=x)) hlt hq hb).symm
  ·refine bO (x+1) ⟨hlt,λj hj=>?_⟩ (by omega) ?_
   ·rcases lt_succ_iff_lt_or_eq.1 hj with h|h
    ·exact hq j h
    ·rw[h];exact hb
   ·rw[bw hlt (by omega)];exact bU
 ·have hge:l.length<=x:=by simpa using hc
  simp only[go_sem,hc];rw[lF λj hj=>hq j (by omega)]
theorem aqV(l:List ByteArray)(y:ByteArray)(hl:l.length<=1000000) :
  aS pw 346 [.aU (l.map iQ),.val (.string y)] (λr=>r = .val (.bool (l.any λx=>decide (y=x)))):=by
 refine aR [] func346 ntmps346 results346 ?_;simp only[go_sem];refine aX (aDn l y hl) (by simp only[go_sem]<;>rfl) (b7 rfl) ?_;simp only[go_sem];exact kQ
theorem afK(n:Int):aS pw 399 [.val (.int .u8 n)] (λr=>r = .val (.bool (wm n))):=by
 unfold wm;refine aR [] func399 ntmps399 results399 ?_;simp only[go_sem]
 repeat' first|done|(refine bQ (λh=>?_) (λh=>?_)<;>try simp only[go_sem,h])|(refine bL (λh=>?_) (λh=>?_)<;>try simp only[go_sem,h])|(refine aW (λh=>?_) (λh=>?_)<;>try simp only[go_sem,h])|(refine aL (λh=>?_) (λh=>?_)<;>try simp only[go_sem,h])
theorem aBo(n:Int):aS pw 398 [.val (.int .u8 n)] (λr=>r = .val (.bool (aaR n))):=by
 unfold aaR;refine aR [] func398 ntmps398 results398 ?_;simp only[go_sem];refine aX (ahW n) (by simp only[go_sem]<;>rfl) (b7 rfl) ?_;simp only[go_sem];refine bQ (λh=>?_) (λh=>?_)<;>simp only[go_sem,h]
 refine aX (afK n) (by simp only[go_sem]<;>rfl) (b7 rfl) ?_;simp only[go_sem];refine bQ (λh=>?_) (λh=>?_)<;>simp only[go_sem,h]
def alQ(n:Int):Bool:=(decide (32<=n)&&decide (n<=126)) && !decide (n=34)
theorem axJ(n:Int):aS pw 431 [.val (.int .u8 n)] (λr=>r = .val (.bool (alQ n))):=by
 unfold alQ;refine aR [] func431 ntmps431 results431 ?_;simp only[go_sem]
 repeat' first|done|(refine bQ (λh=>?_) (λh=>?_)<;>try simp only[go_sem,h])|(refine bL (λh=>?_) (λh=>?_)<;>try simp only[go_sem,h])|(refine aW (λh=>?_) (λh=>?_)<;>try simp only[go_sem,h])|(refine aL (λh=>?_) (λh=>?_)<;>try simp only[go_sem,h])
def aeI(p:Int->Bool)(s:ByteArray)(a:Nat):Nat:=((range (s.size-a)).takeWhile λj=>p (lJ s (a+j))).length
theorem aeJ(q:Nat->Bool):∀ (m n:Nat),n<=m->(∀j,j<n->q j=true)->(n=m\/q n=false)->((range m).takeWhile q).length=n:=by
 intro m n hn h1 h2;have e:range m=range n++(range (m-n)).map (n + ·):=by rw[<-range_add];congr 1;omega
 rw[e,takeWhile_append_of_pos (by intro j hj;exact h1 j (mem_range.1 hj))];rcases h2 with rfl|h2
 ·simp
 ·cases hm:m-n with
  |zero=>simp
  |succ r=>simp[range_succ_eq_map,h2]
theorem aeY{p:Int->Bool}{s:ByteArray}{a n:Nat}(hn:a+n<=s.size)(h1:∀j,j<n->p (lJ s (a+j))=true)(h2:a+n=s.size\/p (lJ s (a+n))=false):aeI p s a=n:=aeJ _ _ _ (by omega) h1 (by rcases h2 with h|h;exact .inl (by omega);exact .inr h)
theorem ajI(p:Int->Bool)(s:ByteArray)(a:Nat):aeI p s a<=s.size-a:=by unfold aeI;exact le_trans (takeWhile_sublist _).length_le (by simp)
theorem ao4(p:Int->Bool)(s:ByteArray)(hl:s.size<=1000000)(k:FuncId)(fs cs:List PV)(hp:∀n,aS pw k (fs++[.val (.int .u8 n)]++cs) (λr=>r = .val (.bool (p n)))) :
  aS pw 397 [.val (.string s),.iK (.func k) fs cs] (λr=>r = .val (.int .i64 (aeI p s 0))):=by
 refine aR [] func397 ntmps397 results397 ?_;simp only[go_sem];refine bM (σ:=Nat) (λx=>(cE (cE (cE fS 0 (.p (.val (.string s)))) 1 (.p (.iK (.func k) fs cs))) 5 (.p (.val (.int .i64 x))))) (λx=>cq)
  (λx=>x<=s.size/\∀j,j<x->p (lJ s (0+j))=true) (λx=>s.size-x) 0 ⟨zero_le _,λj hj=>absurd hj (not_lt_zero j)⟩ bU ?_
 rintro x ⟨hx,hq⟩;simp only[go_sem];refine bL (λhc=>?_) (λhc=>?_)
 ·have hlt:x<s.size:=by simpa using hc
  simp only[go_sem,hlt,hc];refine aX (hp (lJ s x)) (by simp only[go_sem,jR,jQ,Bool.or_false,Bool.false_or]<;>rfl) (b7 rfl) ?_;simp only[go_sem,hc];refine aL (λhb=>?_) (λhb=>?_)<;>simp only[go_sem]
  ·refine bO (x+1) ⟨hlt,λj hj=>?_⟩ (by omega) ?_
   ·rcases lt_succ_iff_lt_or_eq.1 hj with h|h
    ·simpa using hq j h
    ·rw[h];exact hb
   ·rw[bw hlt (by omega)];exact bU
  ·rw[aeY (by omega) hq (.inr (by rw[Nat.zero_add];exact hb))]
 ·have hge:s.size<=x:=by simpa using hc
  simp only[go_sem,hc];rw[aeY (by omega) hq (.inl (by omega))]
theorem atm(s:ByteArray)(hl:s.size<=1000000)(h0:0<s.size):aS pw 400 [.val (.string s)] (λr=>∃n e:Int,r = .dW [.val (.int .i64 n),.val (.int .i64 e)]):=by
 have h1:((s.extract 1 s.size).size:Int)=s.size-1:=by simp;omega
 have h2:=ajI alQ (s.extract 1 s.size) 0;generalize hm:aeI alQ (s.extract 1 s.size) 0=m at h2;have h3:i64.wrap (1+(m:Int))=((m+1:Nat):Int):=by rw[IntWalk.i64_in _ (by omega)];omega
 refine aR [] func400 ntmps400 results400 ?_;simp only[go_sem];refine⟨⟨by omega,by omega,by omega⟩,?_⟩;refine aX (ao4 alQ (s.extract 1 s.size) (by simp;omega) _ [] [] axJ) (by simp only[go_sem]<;>rfl) (b7 rfl) ?_;simp only[go_sem,hm,h3];refine bQ (λh=>?_) (λh=>?_)
 ·simp only[go_sem,h];exact⟨_,_,rfl,rfl⟩
 ·have hne:m+1≠s.size:=by intro e;rw[e] at h;simp at h
  have hlt:m+1<s.size:=by simp at h2;omega
  simp only[go_sem,h,h3,hlt];refine aL (λhb=>?_) (λhb=>?_)<;>simp only[go_sem]
  ·exact⟨_,_,rfl,rfl⟩
  ·refine aL (λhb=>?_) (λhb=>?_)<;>simp only[go_sem]
   ·exact⟨_,_,rfl,rfl⟩
   ·exact⟨_,_,rfl,rfl⟩
def aE7:List ByteArray:=[⟨#[45,62]⟩,⟨#[60,61]⟩,⟨#[62,61]⟩,⟨#[61,61]⟩,⟨#[33,61]⟩]
theorem aBp(s:ByteArray):aS pw 401 [.val (.string s)] (λr=>∃b:Bool,r = .val (.bool b)):=by
 refine aR [] func401 ntmps401 results401 ?_;simp only[go_sem];refine bL (λh=>?_) (λh=>?_)
 ·have h2:(2:Int)<=s.size:=ct h;simp only[go_sem,h];refine⟨⟨by decide,by decide,h2⟩,?_⟩;refine aX (aqV aE7 (s.extract 0 2) (by decide)) (by simp only[go_sem]<;>rfl) (b7 rfl) ?_;simp only[go_sem,h];all_goals exact⟨_,rfl⟩
 ·simp only[go_sem,h];all_goals exact⟨_,rfl⟩
theorem aBq(s:ByteArray)(n:Int):aC6 pw 443 [.val (.string s),.val (.int .u8 n)] (.val (.int .i64 (Lib.indexByte s.data.toList n.toNat.toUInt8))):=by
 intro I w us hu;obtain⟨hl,hv⟩:=hu
 match us,hl,hv with
 | [a,b],_,hv=>have ha:=hv 0 a _ rfl rfl;have hb:=hv 1 b _ rfl rfl;cases ha;cases hb;refine⟨_,?_,.val _ rfl⟩;rw[run_callFunc_extern func443 (by kernel_rfl) (by kernel_rfl) (by kernel_rfl) (e:=Extern.BytealgIndexByte.indexByte) (by kernel_rfl)];rw[Lib.run_indexByteString];try rfl
theorem aBr(s:ByteArray)(n:Int):aS pw 432 [.val (.string s),.val (.int .u8 n)] (λr=>∃m:Int,r = .val (.int .i64 m)):=by refine aR [] func432 ntmps432 results432 ?_;simp only[go_sem];refine axf (aBq s n) rfl ?_;simp only[go_sem];all_goals exact⟨_,rfl⟩
theorem aBs(s:ByteArray)(n:Int):aS pw 402 [.val (.string s),.val (.int .u8 n)] (λr=>∃m:Int,r = .val (.int .i64 m)):=by refine aR [] func402 ntmps402 results402 ?_;simp only[go_sem];refine sL (aBr s n) (by simp only[go_sem]<;>rfl) ?_;rintro r ⟨m,rfl⟩;refine⟨b7 rfl,?_⟩;simp only[go_sem];all_goals exact⟨_,rfl⟩
def lM(s:ByteArray):Bool:=decide (s.size≠0)&&qG (lJ s 0)&&decide (aeI aaR s 0=s.size)&&decide (s.size<=20)
theorem aaw(s:ByteArray):lM s=true↔s.size≠0/\qG (lJ s 0)=true/\aeI aaR s 0=s.size/\s.size<=20:=by unfold lM;simp only[and_eq_true,decide_eq_true_eq,and_assoc]
theorem aBt(s:ByteArray)(hl:s.size<=1000000)(h0:0<s.size):aS pw 344 [.val (.string s)] (λr =>
  ∃k n e:Int,r = .dW [.val (.int .i64 k),.val (.int .i64 n),.val (.int .i64 e)]/\((e=0/\k=1/\n=s.size)↔lM s=true)):=by
 have h0':(0:Int)<s.size:=by omega
 refine aR [] func344 ntmps344 results344 ?_;simp only[go_sem];refine⟨⟨by decide,h0'⟩,?_⟩;refine aX (ahW (lJ s 0)) (by simp only[go_sem]<;>rfl) (b7 rfl) ?_;simp only[go_sem];refine aL (λhc=>?_) (λhc=>?_)<;>simp only[go_sem]
 ·refine aX (ao4 aaR s hl _ [] [] aBo) (by simp only[go_sem]<;>rfl) (b7 rfl) ?_;simp only[go_sem];refine aL (λhd=>?_) (λhd=>?_)<;>simp only[go_sem]
  ·have hd':=ct hd;refine⟨_,_,_,⟨rfl,rfl,rfl⟩,?_⟩;rw[aaw];constructor
   ·rintro⟨h,_⟩;omega
   ·rintro⟨_,_,h1,h2⟩;omega
  ·have hd':=dV hd;refine⟨_,_,_,⟨rfl,rfl,rfl⟩,?_⟩;rw[aaw];constructor
   ·rintro⟨_,_,h⟩;exact⟨by omega,hc,by omega,by omega⟩
   ·rintro⟨_,_,h1,h2⟩;exact⟨rfl,rfl,by omega⟩
 ·have hn:lM s=false:=by simp[lM,hc]
  refine aX (afK (lJ s 0)) (by simp only[go_sem]<;>rfl) (b7 rfl) ?_;simp only[go_sem];refine aL (λhd=>?_) (λhd=>?_)<;>simp only[go_sem]
  ·refine aX (ao4 wm s hl _ [] [] afK) (by simp only[go_sem]<;>rfl) (b7 rfl) ?_;simp only[go_sem];refine aL (λhd=>?_) (λhd=>?_)<;>simp only[go_sem]
   ·exact⟨_,_,_,⟨rfl,rfl,rfl⟩,by simp[hn]⟩
   ·exact⟨_,_,_,⟨rfl,rfl,rfl⟩,by simp[hn]⟩
  ·refine aL (λhq=>?_) (λhq=>?_)<;>simp only[go_sem]
   ·refine sL (atm s hl h0) (by simp only[go_sem]<;>rfl) ?_;rintro r ⟨n,e,rfl⟩;refine⟨b7 rfl,?_⟩;simp only[go_sem];exact⟨_,_,_,⟨rfl,rfl,rfl⟩,by simp[hn]⟩
   ·refine sL (aBp s) (by simp only[go_sem]<;>rfl) ?_;rintro r ⟨b,rfl⟩;refine⟨b7 rfl,?_⟩;simp only[go_sem];refine aL (λhp=>?_) (λhp=>?_)<;>simp only[go_sem]
    ·exact⟨_,_,_,⟨rfl,rfl,rfl⟩,by simp[hn]⟩
    ·refine sL (aBs _ _) (by simp only[go_sem]<;>rfl) ?_;rintro r ⟨b,rfl⟩;refine⟨b7 rfl,?_⟩;simp only[go_sem];refine aL (λhp=>?_) (λhp=>?_)<;>simp only[go_sem]
     ·exact⟨_,_,_,⟨rfl,rfl,rfl⟩,by simp[hn]⟩
     ·exact⟨_,_,_,⟨rfl,rfl,rfl⟩,by simp[hn]⟩
def okT(b:Bool):PV:=.val (.bool b)
theorem axK(s:ByteArray)(hl:s.size<=1000000):aS pw 286 [.agg [.val (.int .i64 1),.val (.string s),.val (.int .i64 0)]] (λr=>∃u:ByteArray,r = .dW [.val (.string u),.val (.bool (lM s))]):=by
 refine aR [] func286 ntmps286 results286 ?_;simp only[go_sem,reduceEq];refine aL (λhc=>?_) (λhc=>?_)<;>simp only[go_sem]
 ·have he:s=⟨#[]⟩:=ct hc;have:lM s=false:=by rw[he];try rfl
  rw[this];exact⟨_,rfl,rfl⟩
 ·have he:s≠⟨#[]⟩:=dV hc;have h0:0<s.size:=by
   rcases Nat.eq_zero_or_pos s.size with h|h
   ·exact absurd (ByteArray.ext (Array.eq_empty_of_size_eq_zero h)) he
   ·exact h
  refine sL (aBt s hl h0) (by simp only[go_sem]<;>rfl) ?_;rintro r ⟨k,n,e,rfl,hiff⟩;refine⟨b7 rfl,?_⟩;have hn:lM s=((decide (e=0)&&decide (k=1))&&decide (n=s.size)):=by rw[Bool.eq_iff_iff,<-hiff];simp only[and_eq_true,decide_eq_true_eq,and_assoc]
  rw[hn];simp only[go_sem];refine bL (λh=>?_) (λh=>?_)<;>simp only[go_sem,h,exists_eq',exists_and_right,and_true,true_and]
  refine bL (λh'=>?_) (λh'=>?_)<;>simp only[go_sem,h,h',exists_eq',exists_and_right,and_true,true_and]
theorem aax(s:ByteArray)(hl:s.size<=1000000):aS pw 218 [.val (.string s)] (λr=>r = .val (.bool (lM s))):=by refine aR [] func218 ntmps218 results218 ?_;simp only[go_sem];refine sL (axK s hl) (by simp only[go_sem]<;>rfl) ?_;rintro r ⟨u,rfl⟩;refine⟨b7 rfl,?_⟩;simp only[go_sem]
theorem afL(n:Int):aS pw 404 [.val (.int .u8 n)] (λr=>r = .val (.bool (qG n))):=by
 unfold qG;refine aR [] func404 ntmps404 results404 ?_;simp only[go_sem]
 repeat' first|done|(refine bQ (λh=>?_) (λh=>?_)<;>try simp only[go_sem,h])|(refine bL (λh=>?_) (λh=>?_)<;>try simp only[go_sem,h])|(refine aW (λh=>?_) (λh=>?_)<;>try simp only[go_sem,h])|(refine aL (λh=>?_) (λh=>?_)<;>try simp only[go_sem,h])
theorem uv(n:Int):aS pw 405 [.val (.int .u8 n)] (λr=>r = .val (.bool (wm n))):=by
 unfold wm;refine aR [] func405 ntmps405 results405 ?_;simp only[go_sem]
 repeat' first|done|(refine bQ (λh=>?_) (λh=>?_)<;>try simp only[go_sem,h])|(refine bL (λh=>?_) (λh=>?_)<;>try simp only[go_sem,h])|(refine aW (λh=>?_) (λh=>?_)<;>try simp only[go_sem,h])|(refine aL (λh=>?_) (λh=>?_)<;>try simp only[go_sem,h])
def rS(digits:Bool)(n:Int):Bool:=wm n||(!digits&&(qG n||decide (n=95)))
theorem ajJ:rS false=aaR:=by funext n;unfold rS aaR;cases wm n<;>cases qG n<;>simp
theorem aqW(s:ByteArray)(hl:s.size<=1000000)(b:Bool) :
  aS pw 406 [.val (.string s),.val (.int .i64 0),.val (.bool b)] (λr=>r = .val (.int .i64 (aeI (rS b) s 0))):=by
 refine aR [] func406 ntmps406 results406 ?_;simp only[go_sem];refine bM (σ:=Nat) (λx=>(cE (cE (cE (cE fS 0 (.p (.val (.string s)))) 1 (.p (.val (.int .i64 0)))) 2 (.p (.val (.bool b)))) 7 (.p (.val (.int .i64 x))))) (λx=>cq)
  (λx=>x<=s.size/\∀j,j<x->rS b (lJ s (0+j))=true) (λx=>s.size-x) 0 ⟨zero_le _,λj hj=>absurd hj (not_lt_zero j)⟩ bU ?_
 rintro x ⟨hx,hq⟩;have hw:i64.wrap (0+(x:Int))=x:=by rw[IntWalk.i64_in _ (by omega)];omega
 simp only[go_sem,hw];refine bL (λhc=>?_) (λhc=>?_)
 ·have hlt:x<s.size:=by simpa using hc
  have fin (h:rS b (lJ s x)=false):((x:Nat):Int)=(aeI (rS b) s 0:Nat):=by rw[aeY (by omega) hq (.inr (by rw[Nat.zero_add];exact h))]
  simp only[go_sem,hlt,hc,hw];refine aX (uv (lJ s x)) (by simp only[go_sem]<;>rfl) (b7 rfl) ?_;simp only[go_sem,hc,hw];refine bQ (λh1=>?_) (λh1=>?_)<;>simp only[go_sem,h1,hc,hw]
  ·refine bO (x+1) ⟨hlt,λj hj=>?_⟩ (by omega) ?_
   ·rcases lt_succ_iff_lt_or_eq.1 hj with h|h
    ·simpa using hq j h
    ·rw[h];simp[rS,h1]
   ·rw[bw hlt (by omega)];exact bU
  ·refine bQ (λh2=>?_) (λh2=>?_)<;>simp only[go_sem,h1,h2,hc,hw]
   ·subst h2;exact fin (by simp[rS,h1])
   ·subst h2;refine⟨hlt,?_⟩;refine aX (afL (lJ s x)) (by simp only[go_sem]<;>rfl) (b7 rfl) ?_;simp only[go_sem,hc,hw];refine bQ (λh3=>?_) (λh3=>?_)<;>simp only[go_sem,h1,h3,hc,hw,hlt]
    ·refine bO (x+1) ⟨hlt,λj hj=>?_⟩ (by omega) ?_
     ·rcases lt_succ_iff_lt_or_eq.1 hj with h|h
      ·simpa using hq j h
      ·rw[h];simp[rS,h3]
     ·rw[bw hlt (by omega)];exact bU
    ·refine aL (λh4=>?_) (λh4=>?_)<;>simp only[go_sem]
     ·refine bO (x+1) ⟨hlt,λj hj=>?_⟩ (by omega) ?_
      ·rcases lt_succ_iff_lt_or_eq.1 hj with h|h
       ·simpa using hq j h
       ·rw[h];simp[rS,h4]
      ·rw[bw hlt (by omega)];exact bU
     ·exact fin (by simp[rS,h1,h3,h4])
 ·have hge:s.size<=x:=by simpa using hc
  simp only[go_sem,hc];rw[aeY (by omega) hq (.inl (by omega))]
theorem ao5(s:ByteArray)(hl:s.size<=1000000):aS pw 407 [.val (.string s),.val (.int .i64 0)] (λr=>∃n:Nat,r = .val (.int .i64 n)/\(n=0\/(2<=n/\n<=s.size))):=by
 refine aR [] func407 ntmps407 results407 ?_;simp only[go_sem];refine bM (σ:=Nat) (λx=>(cE (cE (cE fS 0 (.p (.val (.string s)))) 1 (.p (.val (.int .i64 0)))) 5 (.p (.val (.int .i64 x))))) (λx=>cq)
  (λx=>1<=x/\x<=s.size+1) (λx=>s.size+1-x) 1 ⟨le_refl _,by omega⟩ bU ?_
 rintro x ⟨hx1,hx⟩;have hw:i64.wrap (0+(x:Int))=x:=by rw[IntWalk.i64_in _ (by omega)];omega
 simp only[go_sem,hw];refine aL (λhc=>?_) (λhc=>?_)
 ·have hlt:x<s.size:=by simpa using hc
  simp only[go_sem,hlt,hw];refine aL (λh1=>?_) (λh1=>?_)<;>simp only[go_sem]
  ·rw[bw hlt (by omega)];exact⟨x+1,rfl,.inr ⟨by omega,by omega⟩⟩
  ·refine bQ (λh2=>?_) (λh2=>?_)<;>simp only[go_sem,h2]
   ·exact⟨0,rfl,.inl rfl⟩
   ·refine aL (λh3=>?_) (λh3=>?_)<;>simp only[go_sem]
    ·exact⟨0,rfl,.inl rfl⟩
    ·refine bO (x+1) ⟨by omega,by omega⟩ (by omega) ?_;rw[bw hlt (by omega)];exact bU
 ·simp only[go_sem];exact⟨0,rfl,.inl rfl⟩
def aci:List ByteArray:=[⟨#[45,62]⟩,⟨#[60,61]⟩,⟨#[62,61]⟩,⟨#[61,61]⟩,⟨#[33,61]⟩,⟨#[123]⟩,⟨#[125]⟩,⟨#[40]⟩,⟨#[41]⟩,⟨#[91]⟩,⟨#[93]⟩,⟨#[44]⟩,⟨#[59]⟩,⟨#[58]⟩,⟨#[61]⟩,⟨#[43]⟩,⟨#[45]⟩,⟨#[42]⟩,⟨#[60]⟩,⟨#[62]⟩,⟨#[33]⟩,⟨#[38]⟩,⟨#[124]⟩,⟨#[46]⟩,⟨#[63]⟩]
theorem axL:aS pw 408 [] (λr=>r = .aU (aci.map iQ)):=by refine aR [] func408 ntmps408 results408 ?_;simp only[go_sem];try rfl
theorem ajK{n:Int}(h:qG n=true):wm n=false:=by unfold qG wm at *;simp at *;omega
theorem aDo(s:ByteArray)(hl:s.size<=1000000)(h0:0<s.size):aS pw 349 [.val (.string s),.val (.int .i64 0)] (λr =>
  ∃ (k n e:Int) (u:ByteArray),r = .dW [.agg [.val (.int .i64 k),.val (.string u),.val (.int .i64 0)],.val (.int .i64 n),.val (.int .i64 e)]/\((e=0/\k=1/\n=s.size)↔lM s=true)):=by
 have h0':(0:Int)<s.size:=by omega
 refine aR [] func349 ntmps349 results349 ?_;simp only[go_sem];refine⟨⟨by decide,h0'⟩,?_⟩;refine aX (afL (lJ s 0)) (by simp only[go_sem]<;>rfl) (b7 rfl) ?_;simp only[go_sem];refine bQ (λh1=>?_) (λh1=>?_)<;>simp only[go_sem,h1]
 ·have hd:=ajK h1;refine aX (uv (lJ s 0)) (by simp only[go_sem]<;>rfl) (b7 rfl) ?_;simp only[go_sem,hd];refine aX (aqW s hl false) (by simp only[go_sem]<;>rfl) (b7 rfl) ?_;simp only[go_sem,ajJ];refine aX (uv (lJ s 0)) (by simp only[go_sem]<;>rfl) (b7 rfl) ?_;simp only[go_sem,hd];refine aL (λh2=>?_) (λh2=>?_)<;>simp only[go_sem]
  ·have hd':=ct h2;refine⟨_,_,_,_,⟨⟨rfl,rfl⟩,rfl,rfl⟩,?_⟩;rw[aaw];constructor
   ·rintro⟨h,_⟩;omega
   ·rintro⟨_,_,h3,h4⟩;omega
  ·have hd':=dV h2;have hr:=ajI aaR s 0;have hw:i64.wrap (0+(aeI aaR s 0:Int))=aeI aaR s 0:=by rw[IntWalk.i64_in _ (by omega)];omega
   rw[hw];refine⟨⟨by omega,by omega,by omega⟩,_,_,_,_,⟨⟨rfl,rfl⟩,rfl,rfl⟩,?_⟩;rw[aaw];constructor
   ·rintro⟨_,_,h⟩;exact⟨by omega,h1,by omega,by omega⟩
   ·rintro⟨_,_,h3,h4⟩;exact⟨rfl,rfl,by omega⟩
 ·have hn:lM s=false:=by simp[lM,h1]
  rw[hn];refine aX (uv (lJ s 0)) (by simp only[go_sem]<;>rfl) (b7 rfl) ?_;simp only[go_sem];refine aL (λh2=>?_) (λh2=>?_)<;>simp only[go_sem]
  ·refine aX (uv (lJ s 0)) (by simp only[go_sem]<;>rfl) (b7 rfl) ?_;simp only[go_sem,h2];refine aX (aqW s hl true) (by simp only[go_sem]<;>rfl) (b7 rfl) ?_;simp only[go_sem];refine aX (uv (lJ s 0)) (by simp only[go_sem]<;>rfl) (b7 rfl) ?_;simp only[go_sem,h2];have hr:=ajI (rS true) s 0;generalize aeI (rS true) s 0=m at hr;have hw:i64.wrap (0+(m:Int))=m:=by rw[IntWalk.i64_in _ (by omega)];omega
   refine aL (λh2=>?_) (λh2=>?_)<;>simp only[go_sem,hw]
   ·exact⟨_,_,_,_,⟨⟨rfl,rfl⟩,rfl,rfl⟩,by simp⟩
   ·exact⟨by omega,_,_,_,_,⟨⟨rfl,rfl⟩,rfl,rfl⟩,by simp⟩
  ·refine aL (λh3=>?_) (λh3=>?_)<;>simp only[go_sem]
   ·refine sL (ao5 s hl) (by simp only[go_sem]<;>rfl) ?_;rintro r ⟨n,rfl,hr⟩;refine⟨b7 rfl,?_⟩;simp only[go_sem];refine aL (λh4=>?_) (λh4=>?_)<;>simp only[go_sem]
    ·exact⟨_,_,_,_,⟨⟨rfl,rfl⟩,rfl,rfl⟩,by simp⟩
    ·have h5:2<=n/\n<=s.size:=by have:=dV h4;omega
     refine aL (λh6=>?_) (λh6=>?_)<;>simp only[go_sem]
     ·exact⟨_,_,_,_,⟨⟨rfl,rfl⟩,rfl,rfl⟩,by simp⟩
     ·have w1:i64.wrap (0+1)=1:=by rfl
      have w2:i64.wrap (0+(n:Int))=n:=by rw[IntWalk.i64_in _ (by omega)];omega
      have w3:i64.wrap ((n:Int)-1)=n-1:=by rw[IntWalk.i64_in _ (by omega)]
      simp only[w1,w2,w3];exact⟨by omega,_,_,_,_,⟨⟨rfl,rfl⟩,rfl,rfl⟩,by simp⟩
   ·refine aX (axL) (by simp only[go_sem]<;>rfl) (wW) ?_;simp only[go_sem];refine bM (σ:=Nat) (λx=>(cE (cE (cE (cE (cE fS 0 (.p (.val (.string s)))) 1 (.p (.val (.int .i64 0)))) 4 (.ptr 4 0)) 12 (.p (.aU (aci.map iQ)))) 13 (.p (.val (.int .i64 x)))))
     (λx=>(bh cq 4 (.box [.p (.val (.int .i64 0)),.p (.val (.string ⟨#[]⟩)),.p (.val (.int .i64 0))]))) (λx=>x<=aci.length) (λx=>aci.length-x) 0 (zero_le _) bU ?_
    rintro x hx;simp only[go_sem];refine aL (λhc=>?_) (λhc=>?_)
    ·have hlt:x<aci.length:=by simpa using hc
     simp only[go_sem];refine cZ [.q,.q,.q,.q,.q,.q,.q,.q,.q,.q,.q,.q,.q,.q,.q,.q,.q,.q,.q,.q,.q,.q,.q,.q,.q,.q,.q] (by kernel_rfl) ?_;simp only[go_sem,getD_map iQ hlt,iQ,hlt,length_map];have hu:(aci.getD x default).size<=2:=by
      have:∀u∈aci,u.size<=2:=by decide
      exact this _ (by simp[hlt])
     have hw:i64.wrap (0+((aci.getD x default).size:Int))=(aci.getD x default).size:=by rw[IntWalk.i64_in _ (by omega)];omega
     refine oG (λh4=>?_) (λh4=>?_)
     ·rw[hw] at h4;have h5:=ct h4;simp only[go_sem,hw,h4,h5,getD_map iQ hlt,iQ,hlt,length_map];refine⟨by omega,?_⟩;refine aL (λh6=>?_) (λh6=>?_)<;>simp only[go_sem]
      ·refine cZ [.p,.p,.p,.p,.p,.p,.p,.p,.p,.p,.w,.q,.q] (by kernel_rfl) ?_;simp only[go_sem,getD_map iQ hlt,iQ,hlt,length_map];exact⟨_,_,_,_,⟨⟨rfl,rfl⟩,rfl,rfl⟩,by simp⟩
      ·rw[bw hlt (by decide)];exact bO (x+1) hlt (by omega) bU
     ·rw[hw] at h4;simp only[go_sem,h4,hw];rw[bw hlt (by decide)];exact bO (x+1) hlt (by omega) bU
    ·simp only[go_sem];exact⟨_,_,_,_,⟨⟨rfl,rfl⟩,rfl,rfl⟩,by simp⟩
theorem aBu(s:ByteArray):aS pw 348 [.agg [.val (.int .i64 1),.val (.string s),.val (.int .i64 0)]] (λr=>r = .val (.string s)):=by refine aR [] func348 ntmps348 results348 ?_;simp only[go_sem,reduceEq]
theorem axM(s:ByteArray)(hl:s.size<=1000000):aS pw 296 [.agg [.val (.int .i64 1),.val (.string s),.val (.int .i64 0)]] (λr=>r = .val (.bool (lM s))):=by
 refine aR [] func296 ntmps296 results296 ?_;simp only[go_sem];refine aX (aBu s) (by simp only[go_sem]<;>rfl) (b7 rfl) ?_;simp only[go_sem,reduceEq];refine aL (λhc=>?_) (λhc=>?_)<;>simp only[go_sem]
 ·have he:s=⟨#[]⟩:=ct hc;rw[he];try rfl
 ·have he:s≠⟨#[]⟩:=dV hc;have h0:0<s.size:=by
   rcases Nat.eq_zero_or_pos s.size with h|h
   ·exact absurd (ByteArray.ext (Array.eq_empty_of_size_eq_zero h)) he
   ·exact h
  refine sL (aDo s hl h0) (by simp only[go_sem]<;>rfl) ?_;rintro r ⟨k,n,e,u,rfl,hiff⟩;refine⟨b7 rfl,?_⟩;have hn:lM s=((decide (e=0)&&decide (n=s.size))&&decide (k=1)):=by
   rw[Bool.eq_iff_iff,<-hiff];simp only[and_eq_true,decide_eq_true_eq,and_assoc];constructor
   ·rintro⟨h1,h2,h3⟩;exact⟨h1,h3,h2⟩
   ·rintro⟨h1,h2,h3⟩;exact⟨h1,h3,h2⟩
  rw[hn];simp only[go_sem];refine bL (λh=>?_) (λh=>?_)<;>simp only[go_sem,h]
  refine bL (λh'=>?_) (λh'=>?_)<;>simp only[go_sem,h,h']
theorem xT(s:ByteArray)(hl:s.size<=1000000):aS pw 235 [.val (.string s)] (λr=>r = .val (.bool (lM s))):=by refine aR [] func235 ntmps235 results235 ?_;simp only[go_sem];refine aX (axM s hl) (by simp only[go_sem]<;>rfl) (b7 rfl) ?_;simp only[go_sem]
structure fm(t:Types):Prop where
 nodes:t.nodes.length<=20
 ak:t.ak.length<=30
 attrs:∀n∈t.nodes,n.attrs.length<=30
 name:∀n∈t.nodes,n.name.size<=40
 aCC:∀n∈t.nodes,∀a∈n.attrs,a.name.size<=40
 names:∀n∈t.nodes,∀a∈n.attrs,a.names.length<=25
 word:∀n∈t.nodes,∀a∈n.attrs,∀s∈a.names,s.size<=40
 axN:∀e∈t.ak,e.name.size<=40
def qH(t:Types)(n:Nat):Prop:=∀j,j<n->-1<=(t.nodes.getD j default).parent/\(t.nodes.getD j default).parent<j
def o7(t:Types):Nat->Nat->List Attr
 |0,_=>[]
 |k+1,a=>(if 0<=(t.nodes.getD a default).parent then o7 t k (t.nodes.getD a default).parent.toNat else [])++(t.nodes.getD a default).attrs
def bg(t:Types)(a:Nat):List Attr:=o7 t (a+1) a
theorem aeg{t:Types} : ∀ (k k' a:Nat),qH t (a+1)->a<k->a<k'->o7 t k a=o7 t k' a
 |0,_,_,_,h,_=>by omega
 |_+1,0,_,_,_,h=>by omega
 |k+1,k'+1,a,hp,h,h'=>by
  unfold o7;split
  ·rename_i h0;have hq:=hp a (by omega);rw[aeg k k' (t.nodes.getD a default).parent.toNat (λj hj=>hp j (by omega)) (by omega) (by omega)]
  ·rfl
theorem rT{t:Types}{a:Nat}(hp:qH t (a+1)):bg t a=(if 0<=(t.nodes.getD a default).parent then bg t (t.nodes.getD a default).parent.toNat else [])++(t.nodes.getD a default).attrs:=by
 conv=>lhs;unfold bg o7
 split
 ·rename_i h0;have hq:=hp a (by omega);unfold bg;rw[aeg a ((t.nodes.getD a default).parent.toNat+1) _ (λj hj=>hp j (by omega)) (by omega) (by omega)]
 ·rfl
theorem iD{α:Type} [Inhabited α]{l:List α}{a:Nat}(ha:a<l.length):l.getD a default∈l:=by
 have:l.getD a default=l[a]:=by simp[ha]
 rw[this];exact nS _
theorem afM{t:Types}(hf:fm t):∀ (k a:Nat),a<t.nodes.length->qH t (a+1)->(o7 t k a).length<=k * 30
 |0,_,_,_=>by simp[o7]
 |k+1,a,ha,hp=>by
  unfold o7;have h1:(t.nodes.getD a default).attrs.length<=30:=hf.attrs _ (iD ha);have hq:=hp a (by omega);rw[length_append];generalize hlx:(t.nodes.getD a default).attrs.length=lx at h1 ⊢;split
  ·have:=afM hf k (t.nodes.getD a default).parent.toNat (by omega) (λj hj=>hp j (by omega));omega
  ·simp;omega
theorem mQ{t:Types}(hf:fm t){a:Nat}(ha:a<t.nodes.length)(hp:qH t (a+1)):(bg t a).length<=600:=by have:=afM hf (a+1) a ha hp;have:=hf.nodes;unfold bg;omega
theorem afN{t:Types}(hf:fm t):∀ (k a:Nat),a<t.nodes.length->qH t (a+1)->∀x∈o7 t k a,∃n∈t.nodes,x∈n.attrs
 |0,_,_,_,x,hx=>by simp[o7] at hx
 |k+1,a,ha,hp,x,hx=>by
  unfold o7 at hx;have hq:=hp a (by omega);rcases mem_append.1 hx with h|h
  ·split at h
   ·exact afN hf k (t.nodes.getD a default).parent.toNat (by omega) (λj hj=>hp j (by omega)) x h
   ·cases h
  ·exact⟨_,iD ha,h⟩
theorem zg(l:List Attr):∀x∈l.map aV,x.length=4:=by intro x hx;obtain⟨a,_,rfl⟩:=mem_map.1 hx;rfl
theorem alR(t:Types)(hf:fm t):∀ (a:Nat),a<t.nodes.length->qH t (a+1)->bt pw 221 [aH t,.val (.int .i64 a)] (λr=>r = .row 168 4 ((bg t a).map aV)):=by
 intro a
 induction a using Nat.strongRecOn with
 |_ a ih =>
  intro ha hp;have hq:=hp a (by omega);have h1:=hf.attrs _ (iD ha);have hlen:=mQ hf ha hp;refine bF [25] func221 ntmps221 results221 ?_;simp only[go_sem,aH,getD_map aJ ha,ha,aJ];refine aL (λh0=>?_) (λh0=>?_)<;>simp only[go_sem,getD_map aJ ha,ha,aJ]
  ·have h0':=ct h0;obtain⟨q,hqq⟩:∃q:Nat,(t.nodes.getD a default).parent=q:=⟨_,(toNat_of_nonneg h0').symm⟩;have hqa:q<a:=by have:=hq.2;rw[hqq] at this;omega
   rw[hqq];refine pJ 17 (ih q hqa (by omega) (λj hj=>hp j (by omega))) (by simp only[go_sem,getD_map aJ ha,ha,aJ]<;>rfl) (vM) (by simp only[go_sem,getD_map aJ ha,ha,aJ]) ?_;simp only[go_sem,getD_map aJ ha,ha,aJ];have e:bg t a=bg t q++(t.nodes.getD a default).attrs:=by rw[rT hp,if_pos h0',hqq];try rfl
   rw[e,length_append] at hlen;exact⟨⟨by omega,zg _⟩,by decide,_,.refl _,by rw[e,map_append]⟩
  ·have h0':=dV h0;have e:bg t a=(t.nodes.getD a default).attrs:=by rw[rT hp,if_neg h0'];try rfl
   exact⟨⟨by omega,zg _⟩,by decide,_,.refl _,by rw[e]⟩
def kC(f:Nat->Int)(s n:Nat):Option Nat:=(range' s (n-s)).find? λi=>decide (f i≠0)
def oo(f:Nat->Int)(s n:Nat):Int:=match kC f s n with
 |some k=>f k
 |none=>0
theorem mb{f:Nat->Int}{s n k:Nat}(hs:s<=k)(hk:k<n)(h0:∀j,s<=j->j<k->f j=0)(h1:f k≠0):kC f s n=some k:=by unfold kC;rw[find?_range'_eq_some];refine⟨by simpa using h1,by simp[mem_range'_1];omega,λj hj1 hj2=>by simpa using h0 j hj1 hj2⟩
theorem gG{f:Nat->Int}{s n:Nat}(h0:∀j,s<=j->j<n->f j=0):kC f s n=none:=by unfold kC;rw[find?_eq_none];intro j hj;rw[mem_range'_1] at hj;have:=h0 j hj.1 (by omega);simpa using this
theorem wY{f:Nat->Int}{s n k:Nat}(hs:s<=k)(hk:k<n)(h0:∀j,s<=j->j<k->f j=0)(h1:f k≠0):oo f s n=f k:=by unfold oo;rw[mb hs hk h0 h1]
theorem qd{f:Nat->Int}{s n:Nat}(h0:∀j,s<=j->j<n->f j=0):oo f s n=0:=by unfold oo;rw[gG h0]
theorem rU{f:Nat->Int}{n k:Nat}(hk:k<n)(h0:∀j,j<k->f j=0)(h1:f k≠0):oo f 0 n=f k:=wY (zero_le _) hk (λj _=>h0 j) h1
theorem tS{f:Nat->Int}{n:Nat}(h0:∀j,j<n->f j=0):oo f 0 n=0:=qd λj _=>h0 j
theorem all_succ{f:Nat->Int}{x:Nat}(h:∀j,j<x->f j=0)(hx:f x=0):∀j,j<x+1->f j=0:=λj hj=>by
 rcases lt_succ_iff_lt_or_eq.1 hj with h'|h'
 ·exact h j h'
 ·rw[h'];exact hx
def uS(l:List ByteArray)(i:Nat):Int:=if lM (l.getD i default)=false then 2 else if (l.take i).any (λx=>decide (l.getD i default=x))=true then 5 else 0
def zh(l:List ByteArray):Int:=if 20<l.length then 3 else oo (uS l) 0 l.length
theorem axO(l:List ByteArray)(hl:l.length<=25)(hw:∀s∈l,s.size<=40):aS pw 290 [.aU (l.map iQ)] (λr=>r = .val (.int .i64 (zh l))):=by
 unfold zh;refine aR [] func290 ntmps290 results290 ?_;simp only[go_sem];refine aL (λh0=>?_) (λh0=>?_)<;>simp only[go_sem]
 ·have h0':20<l.length:=by have:=ct h0;omega
  rw[if_pos h0']
 ·have h0':¬ 20<l.length:=by have:=dV h0;omega
  rw[if_neg h0'];refine bM (σ:=Nat) (λx=>(cE (cE (cE (cE fS 0 (.p (.aU (l.map iQ)))) 8 (.p (.aU (l.map iQ)))) 9 (.p (.val (.int .i64 l.length)))) 10 (.p (.val (.int .i64 x))))) (λx=>cq)
   (λx=>x<=l.length/\∀j,j<x->uS l j=0) (λx=>l.length-x) 0 ⟨zero_le _,λj hj=>absurd hj (not_lt_zero j)⟩ bU ?_
  rintro x ⟨hx,hq⟩;simp only[go_sem];refine aL (λhc=>?_) (λhc=>?_)
  ·have hlt:x<l.length:=by simpa using hc
   simp only[go_sem,getD_map iQ hlt,hlt,iQ];refine aX (aax (l.getD x default) (le_trans (hw _ (iD hlt)) (by decide))) (by simp only[go_sem,getD_map iQ hlt,hlt,iQ]<;>rfl) (b7 rfl) ?_;simp only[go_sem,getD_map iQ hlt,hlt,iQ];refine aW (λh1=>?_) (λh1=>?_)<;>simp only[go_sem,getD_map iQ hlt,hlt,iQ]
   ·refine⟨⟨⟨by omega,by omega⟩,λx hx=>by obtain⟨a,_,rfl⟩:=mem_map.1 hx;rfl⟩,?_⟩;refine aX (aqV (l.take x) (l.getD x default) (by simp;omega)) (by simp only[go_sem,getD_map iQ hlt,hlt,iQ]<;>rfl) (b7 rfl) ?_;simp only[go_sem,getD_map iQ hlt,hlt,iQ];refine aL (λh2=>?_) (λh2=>?_)<;>simp only[go_sem,getD_map iQ hlt,hlt,iQ]
    ·have:uS l x=5:=by unfold uS;rw[if_neg (by rw[h1];decide),if_pos h2]
     rw[rU hlt hq (by rw[this];decide),this]
    ·have:uS l x=0:=by unfold uS;rw[if_neg (by rw[h1];decide),if_neg (by rw[h2];decide)]
     exact bO (x+1) ⟨hlt,all_succ hq this⟩ (by omega) (by rw[bw hlt (by omega)];exact bU)
   ·have:uS l x=2:=by unfold uS;rw[if_pos h1]
    rw[rU hlt hq (by rw[this];decide),this]
  ·have hge:l.length<=x:=by simpa using hc
   simp only[go_sem];rw[tS λj hj=>hq j (by omega)]
theorem ahf(x y:Attr):aS pw 289 [.agg (aV y),.ee (aV x) 0] (λr=>r = .val (.bool (decide (y.name=x.name)))):=by refine aR [] func289 ntmps289 results289 ?_;simp only[go_sem,aV,cV]
theorem axP(x y:gT):aS pw 220 [.agg (aJ y),.ee (aJ x) 0] (λr=>r = .val (.bool (decide (y.name=x.name)))):=by refine aR [] func220 ntmps220 results220 ?_;simp only[go_sem,aJ,cV]
theorem axQ(x y:l8):aS pw 225 [.agg (aP y),.ee (aP x) 0] (λr=>r = .val (.bool (decide (y.name=x.name)))):=by refine aR [] func225 ntmps225 results225 ?_;simp only[go_sem,aP,cV]
structure aDp(x:Attr):Prop where
 name:x.name.size<=40
 names:x.names.length<=25
 word:∀s∈x.names,s.size<=40
def abn(x:Attr):Bool:=if 0<x.names.length then decide (x.low=0)&&decide (x.high=(x.names.length:Int)-1) else (decide (-1000000<=x.low)&&decide (x.low<=x.high))&&decide (x.high<=1000000)
theorem uT(x:Attr):abn x=true↔(0<x.names.length/\x.low=0/\x.high=(x.names.length:Int)-1)\/(x.names.length=0/\-1000000<=x.low/\x.low<=x.high/\x.high<=1000000):=by
 unfold abn;split
 ·simp only[and_eq_true,decide_eq_true_eq];omega
 ·simp only[and_eq_true,decide_eq_true_eq];omega
def vN(x:Attr):Int:=if zh x.names≠0 then zh x.names else if abn x=true then 0 else 6
def tI(before:List Attr)(x:Attr):Int:=if lM x.name=false then 2 else if before.any (λy=>decide (y.name=x.name))=true then 5 else vN x
theorem ajL(x:Attr)(before:List Attr)(hx:aDp x)(hb:before.length<=10000):aS pw 222 [.agg (aV x),.aU (before.map aV)] (λr=>r = .val (.int .i64 (tI before x))):=by
 have hn:=hx.names;refine aR [] func222 ntmps222 results222 ?_;simp only[go_sem,aV,cV];refine aX (aax x.name (le_trans hx.name (by decide))) (by simp only[go_sem,aV,cV]<;>rfl) (b7 rfl) ?_;simp only[go_sem,aV,cV];refine aW (λh1=>?_) (λh1=>?_)<;>simp only[go_sem,aV,cV]
 ·refine aX (ahc (λy=>decide (y.name=x.name)) before (by omega) _ [] [.ee (aV x) 0] (λy _=>ahf x y)) (by simp only[go_sem,aV,cV]<;>rfl) (b7 rfl) ?_;simp only[go_sem,aV,cV];refine aL (λh2=>?_) (λh2=>?_)<;>simp only[go_sem,aV,cV]
  ·unfold tI;rw[if_neg (by rw[h1];decide),if_pos h2]
  ·have e:tI before x=vN x:=by unfold tI;rw[if_neg (by rw[h1];decide),if_neg (by rw[h2];decide)]
   rw[e];refine aX (axO x.names hx.names hx.word) (by simp only[go_sem,aV,cV]<;>rfl) (b7 rfl) ?_;simp only[go_sem,aV,cV];refine aW (λh3=>?_) (λh3=>?_)<;>simp only[go_sem,aV,cV]
   ·have h3':=ct h3;have e2:vN x=if abn x=true then 0 else 6:=by unfold vN;rw[if_neg (by rw[h3'];decide)]
    rw[e2];have hw:i64.wrap ((x.names.length:Int)-1)=(x.names.length:Int)-1:=IntWalk.i64_in _ (by omega)
    repeat' first|done|(refine bQ (λh=>?_) (λh=>?_)<;>try simp only[go_sem,h,hw,aV,cV])|(refine bL (λh=>?_) (λh=>?_)<;>try simp only[go_sem,h,hw,aV,cV])|(refine aW (λh=>?_) (λh=>?_)<;>try simp only[go_sem,h,hw,aV,cV])|(refine aL (λh=>?_) (λh=>?_)<;>try simp only[go_sem,h,hw,aV,cV])
    all_goals
     simp only[not_eq_true',not_eq_false',decide_eq_true_eq,decide_eq_false_iff_not,Decidable.not_not] at *;split<;>rename_i hr<;>rw[uT] at hr<;>omega
   ·have h3':=dV h3;unfold vN;rw[if_pos h3']
 ·unfold tI;rw[if_pos h1]
theorem fm.aBv{t:Types}(hf:fm t){a:Nat}(ha:a<t.nodes.length)(hp:qH t (a+1)){x:Attr}(hx:x∈bg t a):aDp x:=by obtain⟨n,hn,h⟩:=afN hf _ a ha hp x hx;exact⟨hf.aCC n hn x h,hf.names n hn x h,hf.word n hn x h⟩
def kK(t:Types)(i:Nat):Int :=
 if lM (t.nodes.getD i default).name=false then 2
 else if (t.nodes.take i).any (λy=>decide (y.name=(t.nodes.getD i default).name))=true then 5
 else if ¬ (-1<=(t.nodes.getD i default).parent/\(t.nodes.getD i default).parent<i) then 6
 else if 4<(t.nodes.getD i default).attrs.length then 3
 else if 8<(bg t i).length then 3
 else oo (λk=>tI ((bg t i).take k) ((bg t i).getD k default)) ((bg t i).length-(t.nodes.getD i default).attrs.length) (bg t i).length
theorem atn{t:Types}{i:Nat}(h:kK t i=0) : -1<=(t.nodes.getD i default).parent/\(t.nodes.getD i default).parent<i:=by
 unfold kK at h;split at h
 ·cases h
 ·split at h
  ·cases h
  ·split at h
   ·cases h
   ·rename_i h1;exact Decidable.of_not_not h1
theorem aBw(t:Types)(hf:fm t)(i:Nat)(hi:i<t.nodes.length)(hp:qH t i):aS pw 132 [aH t,.val (.int .i64 i)] (λr=>r = .val (.int .i64 (kK t i))):=by
 have hn:=hf.nodes;have lS:=hf.attrs _ (iD hi);refine aR [] func132 ntmps132 results132 ?_;simp only[go_sem,aH,getD_map aJ hi,hi,aJ];refine aX (aax (t.nodes.getD i default).name (le_trans (hf.name _ (iD hi)) (by decide))) (by simp only[go_sem,aH,getD_map aJ hi,hi,aJ]<;>rfl) (b7 rfl) ?_;simp only[go_sem,aH,getD_map aJ hi,hi,aJ];refine aW (λh1=>?_) (λh1=>?_)<;>simp only[go_sem,aH,getD_map aJ hi,hi,aJ]
 ·refine⟨⟨⟨by omega,by omega⟩,λx hx=>by obtain⟨a,_,rfl⟩:=mem_map.1 hx;rfl⟩,?_⟩;refine aX (ahd (λy=>decide (y.name=(t.nodes.getD i default).name)) (t.nodes.take i) (by simp;omega) _ [] [.ee (aJ (t.nodes.getD i default)) 0] (λy _=>axP _ y)) (by simp only[go_sem,aH,getD_map aJ hi,hi,aJ]<;>rfl) (b7 rfl) ?_;simp only[go_sem,aH,getD_map aJ hi,hi,aJ];refine aL (λh2=>?_) (λh2=>?_)<;>simp only[go_sem,aH,getD_map aJ hi,hi,aJ]
  ·unfold kK;rw[if_neg (by rw[h1];decide),if_pos h2]
  ·have e1 : kK t i = if ¬ (-1 ≤ (t.nodes.getD i default).parent ∧ (t.nodes.getD i default).parent < i) then 6
     else if 4<(t.nodes.getD i default).attrs.length then 3 else if 8<(bg t i).length then 3
     else oo (λk=>tI ((bg t i).take k) ((bg t i).getD k default)) ((bg t i).length-(t.nodes.getD i default).attrs.length) (bg t i).length:=by
    unfold kK;rw[if_neg (by rw[h1];decide),if_neg (by rw[h2];decide)]
   rw[e1];clear e1;refine bQ (λh3=>?_) (λh3=>?_)<;>simp only[go_sem,h3,aH,getD_map aJ hi,hi,aJ]
   ·have h3':=ct h3;rw[if_pos (by omega)]
   ·have h3':=dV h3;refine aL (λh4=>?_) (λh4=>?_)<;>simp only[go_sem,aH,getD_map aJ hi,hi,aJ]
    ·have zi:=ct h4;rw[if_pos (by omega)]
    ·have zi:=dV h4;rw[if_neg (by omega)];refine aL (λh5=>?_) (λh5=>?_)<;>simp only[go_sem,aH,getD_map aJ hi,hi,aJ]
     ·have h5':=ct h5;rw[if_pos (by omega)]
     ·have h5':=dV h5;rw[if_neg (by omega)];have hp':qH t (i+1):=λj hj=>by
       rcases lt_succ_iff_lt_or_eq.1 hj with h|h
       ·exact hp j h
       ·subst h;omega
      have hlen:=mQ hf hi hp';have hat:(t.nodes.getD i default).attrs.length<=(bg t i).length:=by rw[rT hp',length_append];omega
      generalize hs:(bg t i).length-(t.nodes.getD i default).attrs.length=s;have hw:i64.wrap (((bg t i).length:Int)-((t.nodes.getD i default).attrs.length:Int))=s:=by rw[IntWalk.i64_in _ (by omega)];omega
      refine aX ((alR t hf i hi hp').toL) (by simp only[go_sem,aH,getD_map aJ hi,hi,aJ]<;>rfl) (wW) ?_;simp only[go_sem,aH,getD_map aJ hi,hi,aJ];refine aL (λh6=>?_) (λh6=>?_)<;>simp only[go_sem,aH,getD_map aJ hi,hi,aJ]
      ·have h6':=ct h6;rw[if_pos (by omega)]
      ·have h6':=dV h6;rw[if_neg (by omega),hw];generalize hf':(λk=>tI ((bg t i).take k) ((bg t i).getD k default))=f;refine bM (σ:=Nat) (λx=>(cE (cE (cE (cE (cE fS 1 (.p (.val (.int .i64 i)))) 2 (.ptr 2 0)) 5 (.ptr 5 0)) 6 (.p (.aU ((bg t i).map aV)))) 7 (.p (.val (.int .i64 x)))))
        (λx=>(bh (bh cq 2 (.box [.p (.aU (t.nodes.map aJ)),.p (.aU (t.ak.map aP))])) 5 (.box [.p (.val (.string (t.nodes.getD i default).name)),.p (.val (.int .i64 (t.nodes.getD i default).parent)),.p (.val (.bool (t.nodes.getD i default).abs)),.p (.aU ((t.nodes.getD i default).attrs.map aV))])))
        (λx=>(s<=x/\x<=(bg t i).length)/\∀j,s<=j->j<x->f j=0) (λx=>(bg t i).length-x) s ⟨⟨le_refl _,by omega⟩,λj hj hj'=>absurd hj' (by omega)⟩ bU ?_
       rintro x ⟨⟨hsx,hx⟩,hq⟩;simp only[go_sem,aH,getD_map aJ hi,hi,aJ];refine aL (λhc=>?_) (λhc=>?_)
       ·have hlt:x<(bg t i).length:=by have:=ct hc;omega
        simp only[go_sem,aH,getD_map aJ hi,hi,aJ,getD_map aV hlt,hlt,aV];refine cZ [.q,.q,.q,.q,.q,.q,.q,.q,.q] (by kernel_rfl) ?_;simp only[go_sem,aH,getD_map aJ hi,hi,aJ,getD_map aV hlt,hlt,aV];refine⟨⟨⟨by omega,by omega⟩,zg _⟩,?_⟩;refine jG (ajL ((bg t i).getD x default) ((bg t i).take x) (hf.aBv hi hp' (iD hlt)) (by simp;omega)) (by simp only[go_sem,aH,getD_map aJ hi,hi,aJ,getD_map aV hlt,hlt,aV]<;>rfl) (b7 rfl) ?_;simp only[go_sem,aH,getD_map aJ hi,hi,aJ,getD_map aV hlt,hlt,aV];have e:f x=tI ((bg t i).take x) ((bg t i).getD x default):=by rw[<-hf']
        rw[<-e];refine aW (λh7=>?_) (λh7=>?_)<;>simp only[go_sem,aH,getD_map aJ hi,hi,aJ,getD_map aV hlt,hlt,aV]
        ·have h7':=ct h7;exact bO (x+1) ⟨⟨by omega,hlt⟩,λj hj hj'=>by
          rcases lt_succ_iff_lt_or_eq.1 hj' with h|h
          ·exact hq j hj h
          ·rw[h];exact h7'⟩ (by omega) (by rw[bw hlt (by omega)];exact bU)
        ·have h7':=dV h7;rw[wY hsx hlt hq h7']
       ·have hge:(bg t i).length<=x:=by have:=dV hc;omega
        simp only[go_sem,aH,getD_map aJ hi,hi,aJ];rw[qd λj hj hj'=>hq j hj (by omega)]
 ·unfold kK;rw[if_pos h1]
def inB(t:Types)(n:Int):Bool:=decide (0<=n)&&decide (n<t.nodes.length)
theorem ahX(t:Types)(n:Int):aS pw 223 [.val (.int .i64 n),.ee [.aU (t.nodes.map aJ),.aU (t.ak.map aP)] 0] (λr=>r = .val (.bool (inB t n))):=by
 unfold inB;refine aR [] func223 ntmps223 results223 ?_;simp only[go_sem]
 repeat' first|done|(refine bQ (λh=>?_) (λh=>?_)<;>try simp only[go_sem,h])|(refine bL (λh=>?_) (λh=>?_)<;>try simp only[go_sem,h])|(refine aW (λh=>?_) (λh=>?_)<;>try simp only[go_sem,h])|(refine aL (λh=>?_) (λh=>?_)<;>try simp only[go_sem,h])
def nV(t:Types)(i:Nat):Int :=
 if lM (t.ak.getD i default).name=false then 2
 else if (t.ak.take i).any (λy=>decide (y.name=(t.ak.getD i default).name))=true then 5
 else if ((inB t (t.ak.getD i default).src&&inB t (t.ak.getD i default).dst)&&(wk (t.ak.getD i default).nN (t.ak.getD i default).j5&&wk (t.ak.getD i default).tH (t.ak.getD i default).oh))=true then 0 else 6
theorem aBx(t:Types)(hf:fm t)(i:Nat)(hi:i<t.ak.length):aS pw 133 [aH t,.val (.int .i64 i)] (λr=>r = .val (.int .i64 (nV t i))):=by
 have hn:=hf.ak;refine aR [] func133 ntmps133 results133 ?_;simp only[go_sem,aH,getD_map aP hi,hi,aP];refine aX (aax (t.ak.getD i default).name (le_trans (hf.axN _ (iD hi)) (by decide))) (by simp only[go_sem,aH,getD_map aP hi,hi,aP]<;>rfl) (b7 rfl) ?_;simp only[go_sem,aH,getD_map aP hi,hi,aP];refine aW (λh1=>?_) (λh1=>?_)<;>simp only[go_sem,aH,getD_map aP hi,hi,aP]
 ·refine⟨⟨⟨by omega,by omega⟩,λx hx=>by obtain⟨a,_,rfl⟩:=mem_map.1 hx;rfl⟩,?_⟩;refine aX (afJ (λy=>decide (y.name=(t.ak.getD i default).name)) (t.ak.take i) (by simp;omega) _ [] [.ee (aP (t.ak.getD i default)) 0] (λy _=>axQ _ y)) (by simp only[go_sem,aH,getD_map aP hi,hi,aP]<;>rfl) (b7 rfl) ?_;simp only[go_sem,aH,getD_map aP hi,hi,aP];refine aL (λh2=>?_) (λh2=>?_)<;>simp only[go_sem,aH,getD_map aP hi,hi,aP]
  ·unfold nV;rw[if_neg (by rw[h1];decide),if_pos h2]
  ·have e1:nV t i=if ((inB t (t.ak.getD i default).src&&inB t (t.ak.getD i default).dst)&&(wk (t.ak.getD i default).nN (t.ak.getD i default).j5&&wk (t.ak.getD i default).tH (t.ak.getD i default).oh))=true then 0 else 6:=by unfold nV;rw[if_neg (by rw[h1];decide),if_neg (by rw[h2];decide)]
   rw[e1];clear e1;refine aX (ahX t (t.ak.getD i default).src) (by simp only[go_sem,aH,getD_map aP hi,hi,aP]<;>rfl) (b7 rfl) ?_;simp only[go_sem,aH,getD_map aP hi,hi,aP];refine bL (λh3=>?_) (λh3=>?_)<;>simp only[go_sem,h3,aH,getD_map aP hi,hi,aP]
   refine aX (ahX t (t.ak.getD i default).dst) (by simp only[go_sem,aH,getD_map aP hi,hi,aP]<;>rfl) (b7 rfl) ?_;simp only[go_sem,h3,aH,getD_map aP hi,hi,aP];refine aW (λh4=>?_) (λh4=>?_)<;>simp only[go_sem,h4,aH,getD_map aP hi,hi,aP]
   refine aX (afI (t.ak.getD i default).nN (t.ak.getD i default).j5) (by simp only[go_sem,aH,getD_map aP hi,hi,aP]<;>rfl) (b7 rfl) ?_;simp only[go_sem,aH,getD_map aP hi,hi,aP];refine bL (λh5=>?_) (λh5=>?_)<;>simp only[go_sem,h5,aH,getD_map aP hi,hi,aP]
   refine aX (afI (t.ak.getD i default).tH (t.ak.getD i default).oh) (by simp only[go_sem,aH,getD_map aP hi,hi,aP]<;>rfl) (b7 rfl) ?_;simp only[go_sem,aH,getD_map aP hi,hi,aP];refine aW (λh6=>?_) (λh6=>?_)<;>simp only[go_sem,h6,aH,getD_map aP hi,hi,aP]
 ·unfold nV;rw[if_pos h1]
def gH(t:Types):ByteArray×Int :=
 if t.nodes.length=0 then (⟨#[]⟩,7)
 else if 12<t.nodes.length\/20<t.ak.length then (⟨#[]⟩,3)
 else match kC (kK t) 0 t.nodes.length with
  |some k=>((t.nodes.getD k default).name,kK t k)
  |none=>match kC (nV t) 0 t.ak.length with
   |some k=>((t.ak.getD k default).name,nV t k)
   |none=>(⟨#[]⟩,0)
theorem afO{t:Types}{n:Nat}(h:∀j,j<n->kK t j=0):qH t n:=λj hj=>atn (h j hj)
theorem alS(t:Types)(hf:fm t):aS pw 73 [aH t] (λr=>r = .dW [.val (.string (gH t).1),.val (.int .i64 (gH t).2)]):=by
 have hn:=hf.nodes;have hm:=hf.ak;refine aR [] func73 ntmps73 results73 ?_;simp only[go_sem,aH];refine aL (λh1=>?_) (λh1=>?_)<;>simp only[go_sem,aH]
 ·have ur:=ct h1;unfold gH;rw[if_pos (by omega)];exact⟨rfl,rfl⟩
 ·have ur:=dV h1;have hN:t.nodes.length≠0:=by omega
  have xI:12<t.nodes.length\/20<t.ak.length->gH t=(⟨#[]⟩,3):=λh=>by unfold gH;rw[if_neg hN,if_pos h]
  refine bQ (λh2=>?_) (λh2=>?_)<;>simp only[go_sem,h2,aH]
  ·have h2':=ct h2;rw[xI (by omega)];exact⟨rfl,rfl⟩
  ·have h2':=dV h2;refine aL (λh3=>?_) (λh3=>?_)<;>simp only[go_sem,aH]
   ·have h3':=ct h3;rw[xI (by omega)];exact⟨rfl,rfl⟩
   ·have h3':=dV h3
    have hV : gH t = match kC (kK t) 0 t.nodes.length with
      |some k=>((t.nodes.getD k default).name,kK t k)
      |none=>match kC (nV t) 0 t.ak.length with
       |some k=>((t.ak.getD k default).name,nV t k)
       |none=>(⟨#[]⟩,0):=by unfold gH;rw[if_neg hN,if_neg (by omega)]
    clear xI;refine bM (σ:=Nat) (λx=>(cE (cE (cE (cE fS 1 (.ptr 1 0)) 27 (.p (.aU (t.nodes.map aJ)))) 28 (.p (.val (.int .i64 t.nodes.length)))) 29 (.p (.val (.int .i64 x)))))
     (λx=>(bh cq 1 (.box [.p (.aU (t.nodes.map aJ)),.p (.aU (t.ak.map aP))])))
     (λx=>x<=t.nodes.length/\∀j,j<x->kK t j=0) (λx=>t.nodes.length-x) 0 ⟨zero_le _,λj hj=>absurd hj (not_lt_zero j)⟩ bU ?_
    rintro x ⟨hx,hq⟩;simp only[go_sem,aH];refine aL (λhc=>?_) (λhc=>?_)
    ·have hlt:x<t.nodes.length:=by simpa using hc
     simp only[go_sem,aH,getD_map aJ hlt,hlt,aJ];refine aX (aBw t hf x hlt (afO hq)) (by simp only[go_sem,aH,getD_map aJ hlt,hlt,aJ]<;>rfl) (b7 rfl) ?_;simp only[go_sem,aH,getD_map aJ hlt,hlt,aJ];refine aW (λh4=>?_) (λh4=>?_)<;>simp only[go_sem,aH,getD_map aJ hlt,hlt,aJ]
     ·have zi:=ct h4;exact bO (x+1) ⟨hlt,all_succ hq zi⟩ (by omega) (by rw[bw hlt (by omega)];exact bU)
     ·have zi:=dV h4;rw[hV,mb (zero_le _) hlt (λj _=>hq j) zi];exact⟨rfl,rfl⟩
    ·have hge:t.nodes.length<=x:=by simpa using hc
     have hN0:kC (kK t) 0 t.nodes.length=none:=gG λj _ hj=>hq j (by omega)
     rw[hN0] at hV;simp only[] at hV;simp only[go_sem,aH];refine bM (σ:=Nat) (λx=>(cE (cE (cE (cE fS 1 (.ptr 1 0)) 44 (.p (.aU (t.ak.map aP)))) 45 (.p (.val (.int .i64 t.ak.length)))) 46 (.p (.val (.int .i64 x)))))
      (λx=>(bh cq 1 (.box [.p (.aU (t.nodes.map aJ)),.p (.aU (t.ak.map aP))])))
      (λx=>x<=t.ak.length/\∀j,j<x->nV t j=0) (λx=>t.ak.length-x) 0 ⟨zero_le _,λj hj=>absurd hj (not_lt_zero j)⟩ bU ?_
     rintro y ⟨hy,hq'⟩;simp only[go_sem,aH];refine aL (λqE=>?_) (λqE=>?_)
     ·have hlt:y<t.ak.length:=by simpa using qE
      simp only[go_sem,aH,getD_map aP hlt,hlt,aP];refine aX (aBx t hf y hlt) (by simp only[go_sem,aH,getD_map aP hlt,hlt,aP]<;>rfl) (b7 rfl) ?_;simp only[go_sem,aH,getD_map aP hlt,hlt,aP];refine aW (λh4=>?_) (λh4=>?_)<;>simp only[go_sem,aH,getD_map aP hlt,hlt,aP]
      ·have zi:=ct h4;exact bO (y+1) ⟨hlt,all_succ hq' zi⟩ (by omega) (by rw[bw hlt (by omega)];exact bU)
      ·have zi:=dV h4;rw[hV,mb (zero_le _) hlt (λj _=>hq' j) zi];exact⟨rfl,rfl⟩
     ·have hge:t.ak.length<=y:=by simpa using qE
      simp only[go_sem,aH];rw[hV,gG λj _ hj=>hq' j (by omega)];exact⟨rfl,rfl⟩
theorem sx{α:Type} [Inhabited α]{p:α->Bool}{l:List α}{x j:Nat}(hj:j<x)(hx:x<=l.length)(h:p (l.getD j default)=true):(l.take x).any p=true:=by
 have hjl:j<l.length:=by omega
 refine any_eq_true.2 ⟨l[j],mem_iff_getElem.2 ⟨j,by simp;omega,by simp⟩,?_⟩;simpa[hjl] using h
theorem oq{α:Type} [Inhabited α]{p:α->Bool}{l:List α}{x:Nat}(hx:x<=l.length)(h:∀j,j<x->p (l.getD j default)=false):(l.take x).any p=false:=by
 rw[any_eq_false];intro a ha;obtain⟨j,hj,rfl⟩:=mem_iff_getElem.1 ha;simp only[length_take] at hj;have:=h j (by omega);have hjl:j<l.length:=by omega
 simpa[hjl] using this
theorem alT{α:Type} [DecidableEq α]{a b:α}{c:Bool}(h:decide (a=b)=c):decide (b=a)=c:=by rw[<-h];simp[eq_comm]
theorem uw{p:Nat->Bool}{x:Nat}(h:∀j,j<x->p j=false)(hx:p x=false):∀j,j<x+1->p j=false:=λj hj=>by
 rcases lt_succ_iff_lt_or_eq.1 hj with h'|h'
 ·exact h j h'
 ·rw[h'];exact hx
theorem ato(l:List ByteArray)(hl:l.length<=25)(hw:∀s∈l,s.size<=40):aS pw 297 [.aU (l.map iQ)] (λr=>r = .val (.int .i64 (zh l))):=by
 unfold zh;refine aR [] func297 ntmps297 results297 ?_;simp only[go_sem];refine aL (λh0=>?_) (λh0=>?_)<;>simp only[go_sem]
 ·have h0':20<l.length:=by have:=ct h0;omega
  rw[if_pos h0']
 ·have h0':¬ 20<l.length:=by have:=dV h0;omega
  rw[if_neg h0'];refine bM (σ:=Nat) (λx=>(cE (cE fS 0 (.p (.aU (l.map iQ)))) 3 (.p (.val (.int .i64 x))))) (λx=>cq)
   (λx=>x<=l.length/\∀j,j<x->uS l j=0) (λx=>l.length-x) 0 ⟨zero_le _,λj hj=>absurd hj (not_lt_zero j)⟩ bU ?_
  rintro x ⟨hx,hq⟩;simp only[go_sem];refine aL (λhc=>?_) (λhc=>?_)
  ·have hlt:x<l.length:=by simpa using hc
   simp only[go_sem,getD_map iQ hlt,hlt,iQ];refine aX (xT (l.getD x default) (le_trans (hw _ (iD hlt)) (by decide))) (by simp only[go_sem,getD_map iQ hlt,hlt,iQ]<;>rfl) (b7 rfl) ?_;simp only[go_sem,getD_map iQ hlt,hlt,iQ];refine aW (λh1=>?_) (λh1=>?_)<;>simp only[go_sem,getD_map iQ hlt,hlt,iQ]
   ·refine bM (σ:=Nat) (λy=>(cE (cE (cE fS 0 (.p (.aU (l.map iQ)))) 3 (.p (.val (.int .i64 x)))) 4 (.p (.val (.int .i64 y))))) (λ_=>cq)
     (λy=>y<=x/\∀j,j<y->decide (l.getD x default=l.getD j default)=false) (λy=>x-y) 0 ⟨zero_le _,λj hj=>absurd hj (not_lt_zero j)⟩ bU ?_
    rintro y ⟨hy,hqy⟩;simp only[go_sem,getD_map iQ hlt,hlt,iQ];refine aL (λqE=>?_) (λqE=>?_)
    ·have hlty:y<x:=by simpa using qE
     have adu:y<l.length:=by omega
     simp only[go_sem,getD_map iQ hlt,hlt,iQ,getD_map iQ adu,adu];refine cZ [.q,.q,.q,.q,.q,.q,.q,.q,.q] (by kernel_rfl) ?_;simp only[go_sem,getD_map iQ hlt,hlt,iQ,getD_map iQ adu,adu];refine aL (λh2=>?_) (λh2=>?_)<;>simp only[go_sem,getD_map iQ hlt,hlt,iQ,getD_map iQ adu,adu]
     ·have:uS l x=5:=by unfold uS;rw[if_neg (by rw[h1];decide),if_pos (sx hlty hx (alT h2))]
      rw[rU hlt hq (by rw[this];decide),this]
     ·exact bO (y+1) ⟨hlty,uw hqy (alT h2)⟩ (by omega) (by rw[bw hlty (by omega)];exact bU)
    ·have hge:x<=y:=by simpa using qE
     simp only[go_sem,getD_map iQ hlt,hlt,iQ];have:uS l x=0:=by unfold uS;rw[if_neg (by rw[h1];decide),if_neg (by rw[oq (p:=λz=>decide (l.getD x default=z)) hx λj hj=>hqy j (by omega)];decide)]
     exact bO (x+1) ⟨hlt,all_succ hq this⟩ (by omega) (by rw[bw hlt (by omega)];exact bU)
   ·have:uS l x=2:=by unfold uS;rw[if_pos h1]
    rw[rU hlt hq (by rw[this];decide),this]
  ·have hge:l.length<=x:=by simpa using hc
   simp only[go_sem];rw[tS λj hj=>hq j (by omega)]
theorem ahg(x:Attr)(hx:aDp x):aS pw 236 [.agg (aV x)] (λr=>r = .val (.int .i64 (vN x))):=by
 have hn:=hx.names;refine aR [] func236 ntmps236 results236 ?_;simp only[go_sem,aV,cV];have hw:i64.wrap ((x.names.length:Int)-1)=(x.names.length:Int)-1:=IntWalk.i64_in _ (by omega);have hnil:x.names.length=0->zh x.names=0:=λh=>by have:x.names=[]:=length_eq_zero_iff.1 h;rw[this];try rfl
 refine aL (λh1=>?_) (λh1=>?_)<;>simp only[go_sem,aV,cV]
 ·have ur:=ct h1;have e:vN x=if abn x=true then 0 else 6:=by unfold vN;rw[if_neg (by rw[hnil (by omega)];decide)]
  rw[e];refine aX (aaQ x.low (-1000000) 1000000) (by simp only[go_sem,aV,cV]<;>rfl) (b7 rfl) ?_;simp only[go_sem,aV,cV];refine bL (λh2=>?_) (λh2=>?_)<;>simp only[go_sem,h2,aV,cV]
  ·refine aX (aaQ x.high x.low 1000000) (by simp only[go_sem,aV,cV]<;>rfl) (b7 rfl) ?_;simp only[go_sem,aV,cV];refine aW (λh3=>?_) (λh3=>?_)<;>simp only[go_sem,aV,cV]
   all_goals
    simp only[and_eq_true,and_eq_false_iff] at *;simp only[not_eq_true',not_eq_false',decide_eq_true_eq,decide_eq_false_iff_not,Decidable.not_not] at *;split<;>rename_i hr<;>rw[uT] at hr<;>omega
  ·simp only[and_eq_true,and_eq_false_iff] at *;simp only[not_eq_true',not_eq_false',decide_eq_true_eq,decide_eq_false_iff_not,Decidable.not_not] at *;split<;>rename_i hr<;>rw[uT] at hr<;>omega
 ·have ur:=dV h1;refine aX (ato x.names hx.names hx.word) (by simp only[go_sem,aV,cV]<;>rfl) (b7 rfl) ?_;simp only[go_sem,aV,cV];refine aW (λh3=>?_) (λh3=>?_)<;>simp only[go_sem,aV,cV]
  ·have h3':=ct h3;have e2:vN x=if abn x=true then 0 else 6:=by unfold vN;rw[if_neg (by rw[h3'];decide)]
   rw[e2]
   repeat' first|done|(refine bQ (λh=>?_) (λh=>?_)<;>try simp only[go_sem,h,hw,aV,cV])|(refine bL (λh=>?_) (λh=>?_)<;>try simp only[go_sem,h,hw,aV,cV])|(refine aW (λh=>?_) (λh=>?_)<;>try simp only[go_sem,h,hw,aV,cV])|(refine aL (λh=>?_) (λh=>?_)<;>try simp only[go_sem,h,hw,aV,cV])
   all_goals
    simp only[not_eq_true',not_eq_false',decide_eq_true_eq,decide_eq_false_iff_not,Decidable.not_not] at *;split<;>rename_i hr<;>rw[uT] at hr<;>omega
  ·have h3':=dV h3;unfold vN;rw[if_pos h3']
def afP(t:Types)(a:Int):List Attr:=if a<0 then [] else bg t a.toNat
theorem ao6(t:Types)(a:Int)(ha:a<0):bt pw 153 [aH t,.val (.int .i64 a)] (λr=>r = .row 168 4 []):=by
 refine bF [7] func153 ntmps153 results153 ?_;simp only[go_sem,aH];refine aL (λh0=>?_) (λh0=>?_)<;>simp only[go_sem]
 ·exact⟨by decide,_,.nil _ _ (by decide),rfl⟩
 ·have:=dV h0;omega
theorem ahY(t:Types)(hf:fm t):∀ (a:Nat),a<t.nodes.length->qH t (a+1)->bt pw 153 [aH t,.val (.int .i64 a)] (λr=>r = .row 168 4 ((bg t a).map aV)):=by
 intro a
 induction a using Nat.strongRecOn with
 |_ a ih =>
  intro ha hp;have hq:=hp a (by omega);have h1:=hf.attrs _ (iD ha);have hlen:=mQ hf ha hp;have axR:bt pw 153 [aH t,.val (.int .i64 (t.nodes.getD a default).parent)] (λr=>r = .row 168 4 ((afP t (t.nodes.getD a default).parent).map aV)):=by
   by_cases h0:(t.nodes.getD a default).parent<0
   ·have:=ao6 t _ h0;unfold afP;rw[if_pos h0];exact this
   ·obtain⟨q,hqq⟩:∃q:Nat,(t.nodes.getD a default).parent=q:=⟨_,(toNat_of_nonneg (by omega)).symm⟩;unfold afP;rw[if_neg h0,hqq,toNat_natCast];have hqa:q<a:=by have:=hq.2;rw[hqq] at this;omega
    exact ih q hqa (by omega) (λj hj=>hp j (by omega))
  have e:bg t a=afP t (t.nodes.getD a default).parent++(t.nodes.getD a default).attrs:=by
   rw[rT hp];unfold afP;by_cases h0:(t.nodes.getD a default).parent<0
   ·rw[if_pos h0,if_neg (by omega)]
   ·rw[if_neg h0,if_pos (by omega)]
  rw[e,length_append] at hlen;rw[e];refine bF [7] func153 ntmps153 results153 ?_;simp only[go_sem,aH,getD_map aJ ha,ha,aJ];refine aL (λh0=>?_) (λh0=>?_)<;>simp only[go_sem,getD_map aJ ha,ha,aJ]
  ·have:=ct h0;omega
  ·refine ajE [(1,.q),(2,.q),(3,.q),(4,.q),(5,.q),(6,.q),(7,.q),(8,.q),(10,.b),(11,.b),(12,.b),(13,.b),(14,.b),(15,.b),(0,.w),(9,.s),(16,.w),(17,.q)] (by kernel_rfl) ?_;simp only[go_sem,getD_map aJ ha,ha,aJ];refine jG (axR.toL) (by simp only[go_sem,getD_map aJ ha,ha,aJ]<;>rfl) (wW) ?_;simp only[go_sem,getD_map aJ ha,ha,aJ];exact⟨⟨⟨_,rfl⟩,_,rfl⟩,⟨by omega,zg _⟩,⟨by omega,zg _⟩,by decide,_,.refl _,by rw[map_append]⟩
theorem axS(t:Types)(hf:fm t)(i:Nat)(hi:i<t.nodes.length)(hp:qH t i):aS pw 138 [aH t,.val (.int .i64 i)] (λr=>r = .val (.int .i64 (kK t i))):=by
 have hn:=hf.nodes;have lS:=hf.attrs _ (iD hi);refine aR [] func138 ntmps138 results138 ?_;simp only[go_sem,aH,getD_map aJ hi,hi,aJ];refine aX (xT (t.nodes.getD i default).name (le_trans (hf.name _ (iD hi)) (by decide))) (by simp only[go_sem,aH,getD_map aJ hi,hi,aJ]<;>rfl) (b7 rfl) ?_;simp only[go_sem,aH,getD_map aJ hi,hi,aJ];refine aW (λh1=>?_) (λh1=>?_)<;>simp only[go_sem,aH,getD_map aJ hi,hi,aJ]
 ·refine bM (σ:=Nat) (λx=>(cE (cE (cE (cE fS 1 (.p (.val (.int .i64 i)))) 2 (.ptr 2 0)) 5 (.ptr 5 0)) 6 (.p (.val (.int .i64 x)))))
   (λx=>(bh (bh cq 2 (.box [.p (.aU (t.nodes.map aJ)),.p (.aU (t.ak.map aP))])) 5 (.box [.p (.val (.string (t.nodes.getD i default).name)),.p (.val (.int .i64 (t.nodes.getD i default).parent)),.p (.val (.bool (t.nodes.getD i default).abs)),.p (.aU ((t.nodes.getD i default).attrs.map aV))])))
   (λx=>x<=i/\∀j,j<x->decide ((t.nodes.getD j default).name=(t.nodes.getD i default).name)=false) (λx=>i-x) 0 ⟨zero_le _,λj hj=>absurd hj (not_lt_zero j)⟩ bU ?_
  rintro x ⟨hx,hqx⟩;simp only[go_sem,aH,getD_map aJ hi,hi,aJ];refine aL (λhc=>?_) (λhc=>?_)
  ·have ao7:x<i:=by simpa using hc
   have hxl:x<t.nodes.length:=by omega
   simp only[go_sem,aH,getD_map aJ hi,hi,aJ,getD_map aJ hxl,hxl];refine cZ [.q,.q,.q,.q,.q,.q,.q,.q,.q] (by kernel_rfl) ?_;simp only[go_sem,aH,getD_map aJ hi,hi,aJ,getD_map aJ hxl,hxl];refine aL (λh2=>?_) (λh2=>?_)<;>simp only[go_sem,aH,getD_map aJ hi,hi,aJ,getD_map aJ hxl,hxl]
   ·have:kK t i=5:=by unfold kK;rw[if_neg (by rw[h1];decide),if_pos (sx (p:=λy:gT=>decide (y.name=(t.nodes.getD i default).name)) ao7 (by omega) h2)]
    rw[this]
   ·exact bO (x+1) ⟨ao7,uw hqx h2⟩ (by omega) (by rw[bw ao7 (by omega)];exact bU)
  ·have hge:i<=x:=by simpa using hc
   have adq:=oq (p:=λy:gT=>decide (y.name=(t.nodes.getD i default).name)) (Nat.le_of_lt hi) λj hj=>hqx j (by omega)
   have e1 : kK t i = if ¬ (-1 ≤ (t.nodes.getD i default).parent ∧ (t.nodes.getD i default).parent < i) then 6
     else if 4<(t.nodes.getD i default).attrs.length then 3 else if 8<(bg t i).length then 3
     else oo (λk=>tI ((bg t i).take k) ((bg t i).getD k default)) ((bg t i).length-(t.nodes.getD i default).attrs.length) (bg t i).length:=by
    unfold kK;rw[if_neg (by rw[h1];decide),if_neg (by rw[adq];decide)]
   rw[e1];clear e1;have hwi:i64.wrap ((i:Int)-1)=(i:Int)-1:=IntWalk.i64_in _ (by omega);simp only[go_sem,hwi,aH,getD_map aJ hi,hi,aJ];refine aX (aaQ (t.nodes.getD i default).parent (-1) (i-1)) (by simp only[go_sem,aH,getD_map aJ hi,hi,aJ]<;>rfl) (b7 rfl) ?_;simp only[go_sem,aH,getD_map aJ hi,hi,aJ];refine aW (λh3=>?_) (λh3=>?_)<;>simp only[go_sem,aH,getD_map aJ hi,hi,aJ]
   ·simp only[and_eq_true,decide_eq_true_eq] at h3;rw[if_neg (by omega)];have hp':qH t (i+1):=λj hj=>by
     rcases lt_succ_iff_lt_or_eq.1 hj with h|h
     ·exact hp j h
     ·subst h;omega
    have hlen:=mQ hf hi hp';have hat:(t.nodes.getD i default).attrs.length<=(bg t i).length:=by rw[rT hp',length_append];omega
    generalize hs:(bg t i).length-(t.nodes.getD i default).attrs.length=s;have hw:i64.wrap (((bg t i).length:Int)-((t.nodes.getD i default).attrs.length:Int))=s:=by rw[IntWalk.i64_in _ (by omega)];omega
    refine aX ((ahY t hf i hi hp').toL) (by simp only[go_sem,aH,getD_map aJ hi,hi,aJ]<;>rfl) (wW) ?_;simp only[go_sem,aH,getD_map aJ hi,hi,aJ];refine bQ (λh5=>?_) (λh5=>?_)<;>simp only[go_sem,h5,aH,getD_map aJ hi,hi,aJ]
    ·have h5':=ct h5;rw[if_pos (by omega)]
    ·have h5':=dV h5;rw[if_neg (by omega)];refine aL (λh6=>?_) (λh6=>?_)<;>simp only[go_sem,aH,getD_map aJ hi,hi,aJ]
     ·have h6':=ct h6;rw[if_pos (by omega)]
     ·have h6':=dV h6;rw[if_neg (by omega),hw];generalize hf':(λk=>tI ((bg t i).take k) ((bg t i).getD k default))=f;refine bM (σ:=Nat) (λx=>(cE (cE (cE (cE (cE fS 1 (.p (.val (.int .i64 i)))) 2 (.ptr 2 0)) 5 (.ptr 5 0)) 7 (.p (.aU ((bg t i).map aV)))) 8 (.p (.val (.int .i64 x)))))
       (λx=>(bh (bh cq 2 (.box [.p (.aU (t.nodes.map aJ)),.p (.aU (t.ak.map aP))])) 5 (.box [.p (.val (.string (t.nodes.getD i default).name)),.p (.val (.int .i64 (t.nodes.getD i default).parent)),.p (.val (.bool (t.nodes.getD i default).abs)),.p (.aU ((t.nodes.getD i default).attrs.map aV))])))
       (λx=>(s<=x/\x<=(bg t i).length)/\∀j,s<=j->j<x->f j=0) (λx=>(bg t i).length-x) s ⟨⟨le_refl _,by omega⟩,λj hj hj'=>absurd hj' (by omega)⟩ bU ?_
      rintro x ⟨⟨hsx,hx⟩,hq⟩;simp only[go_sem,aH,getD_map aJ hi,hi,aJ];refine aL (λhc=>?_) (λhc=>?_)
      ·have hlt:x<(bg t i).length:=by have:=ct hc;omega
       have hA:=hf.aBv hi hp' (iD hlt);have e:f x=tI ((bg t i).take x) ((bg t i).getD x default):=by rw[<-hf']
       simp only[go_sem,aH,getD_map aJ hi,hi,aJ,getD_map aV hlt,hlt,aV];refine aX (xT ((bg t i).getD x default).name (le_trans hA.name (by decide))) (by simp only[go_sem,aH,getD_map aJ hi,hi,aJ,getD_map aV hlt,hlt,aV]<;>rfl) (b7 rfl) ?_;simp only[go_sem,aH,getD_map aJ hi,hi,aJ,getD_map aV hlt,hlt,aV];refine aW (λh7=>?_) (λh7=>?_)<;>simp only[go_sem,aH,getD_map aJ hi,hi,aJ,getD_map aV hlt,hlt,aV]
       ·refine bM (σ:=Nat) (λy=>(cE (cE (cE (cE (cE (cE fS 1 (.p (.val (.int .i64 i)))) 2 (.ptr 2 0)) 5 (.ptr 5 0)) 7 (.p (.aU ((bg t i).map aV)))) 8 (.p (.val (.int .i64 x)))) 9 (.p (.val (.int .i64 y)))))
         (λx=>(bh (bh cq 2 (.box [.p (.aU (t.nodes.map aJ)),.p (.aU (t.ak.map aP))])) 5 (.box [.p (.val (.string (t.nodes.getD i default).name)),.p (.val (.int .i64 (t.nodes.getD i default).parent)),.p (.val (.bool (t.nodes.getD i default).abs)),.p (.aU ((t.nodes.getD i default).attrs.map aV))])))
         (λy=>y<=x/\∀j,j<y->decide (((bg t i).getD j default).name=((bg t i).getD x default).name)=false) (λy=>x-y) 0 ⟨zero_le _,λj hj=>absurd hj (not_lt_zero j)⟩ bU ?_
        rintro y ⟨hy,hqy⟩;simp only[go_sem,aH,getD_map aJ hi,hi,aJ,getD_map aV hlt,hlt,aV];refine aL (λqE=>?_) (λqE=>?_)
        ·have hlty:y<x:=by simpa using qE
         have adu:y<(bg t i).length:=by omega
         simp only[go_sem,aH,getD_map aJ hi,hi,aJ,getD_map aV hlt,hlt,aV,getD_map aV adu,adu];refine cZ [.q,.q,.q,.q,.q,.q,.q,.q,.q,.q,.q] (by kernel_rfl) ?_;simp only[go_sem,aH,getD_map aJ hi,hi,aJ,getD_map aV hlt,hlt,aV,getD_map aV adu,adu];refine aL (λh8=>?_) (λh8=>?_)<;>simp only[go_sem,aH,getD_map aJ hi,hi,aJ,getD_map aV hlt,hlt,aV,getD_map aV adu,adu]
         ·have e5:f x=5:=by rw[e];unfold tI;rw[if_neg (by rw[h7];decide),if_pos (sx (p:=λz:Attr=>decide (z.name=((bg t i).getD x default).name)) hlty hx h8)]
          rw[wY hsx hlt hq (by rw[e5];decide),e5]
         ·exact bO (y+1) ⟨hlty,uw hqy h8⟩ (by omega) (by rw[bw hlty (by omega)];exact bU)
        ·have aDq:x<=y:=by simpa using qE
         have e6:f x=vN ((bg t i).getD x default):=by rw[e];unfold tI;rw[if_neg (by rw[h7];decide),if_neg (by rw[oq (p:=λz:Attr=>decide (z.name=((bg t i).getD x default).name)) hx λj hj=>hqy j (by omega)];decide)]
         simp only[go_sem,aH,getD_map aJ hi,hi,aJ,getD_map aV hlt,hlt,aV];refine aX (ahg ((bg t i).getD x default) hA) (by simp only[go_sem,aH,getD_map aJ hi,hi,aJ,getD_map aV hlt,hlt,aV]<;>rfl) (b7 rfl) ?_;simp only[go_sem,aH,getD_map aJ hi,hi,aJ,getD_map aV hlt,hlt,aV];rw[<-e6];refine aW (λh9=>?_) (λh9=>?_)<;>simp only[go_sem,aH,getD_map aJ hi,hi,aJ,getD_map aV hlt,hlt,aV]
         ·have h9':=ct h9;exact bO (x+1) ⟨⟨by omega,hlt⟩,λj hj hj'=>by
           rcases lt_succ_iff_lt_or_eq.1 hj' with h|h
           ·exact hq j hj h
           ·rw[h];exact h9'⟩ (by omega) (by rw[bw hlt (by omega)];exact bU)
         ·have h9':=dV h9;rw[wY hsx hlt hq h9']
       ·have e2:f x=2:=by rw[e];unfold tI;rw[if_pos h7]
        rw[wY hsx hlt hq (by rw[e2];decide),e2]
      ·have hge:(bg t i).length<=x:=by have:=dV hc;omega
       simp only[go_sem,aH,getD_map aJ hi,hi,aJ];rw[qd λj hj hj'=>hq j hj (by omega)]
   ·simp only[and_eq_false_iff,decide_eq_false_iff_not] at h3;rw[if_pos (by omega)]
 ·unfold kK;rw[if_pos h1]
def wo(l:List Int)(i:Nat):List Int:=(range l.length).map λk=>if k<i\/l.length-1-i<k then l.getD (l.length-1-k) default else l.getD k default
theorem acj(l:List Int)(i:Nat):(wo l i).length=l.length:=by simp[wo]
theorem atp(l:List Int):wo l 0=l:=by
 apply ext_getElem
 ·simp[wo]
 ·intro k h1 h2;simp only[wo,getElem_map,getElem_range,not_lt_zero,false_or,Nat.sub_zero];rw[if_neg (by omega)];simp[h2]
theorem axT(l:List Int)(i:Nat)(h:l.length<=2 * i+1):wo l i=l.reverse:=by
 apply ext_getElem
 ·simp[wo]
 ·intro k h1 h2;have hk:k<l.length:=by simpa using h2
  simp only[wo,getElem_map,getElem_range,getElem_reverse];have h3:l.length-1-k<l.length:=by omega
  split
  ·simp[h3]
  ·have e:k=l.length-1-k:=by omega
   have:l[l.length-1-k]=l[k]:=by congr 1;omega
   rw[this];simp[hk]
theorem aqX(l:List Int)(i k:Nat)(hk:k<l.length):(wo l i).getD k default=if k<i\/l.length-1-i<k then l.getD (l.length-1-k) default else l.getD k default:=by simp only[wo,getD_eq_getElem?_getD,getElem?_map,getElem?_range hk,Option.map_some,Option.getD_some]
theorem atq(l:List Int)(i:Nat)(h:2 * i+1<l.length):((wo l i).set i (l.getD (l.length-1-i) default)).set (l.length-1-i) (l.getD i default)=wo l (i+1):=by
 apply ext_getElem
 ·simp[wo]
 ·intro k h1 h2;have hk:k<l.length:=by simpa[wo] using h2
  simp only[getElem_set,wo,getElem_map,getElem_range];split
  ·rename_i e;rw[if_pos (by omega)];congr 1;omega
  ·split
   ·rename_i e;rw[if_pos (by omega),e]
   ·by_cases h3:k<i\/l.length-1-i<k
    ·rw[if_pos h3,if_pos (by omega)]
    ·rw[if_neg h3,if_neg (by omega)]
theorem ack(l:List Int)(k:Nat)(y:Int):(l.map encI).set k [PV.val (.int .i64 y)]=(l.set k y).map encI:=by rw[map_set];try rfl
theorem ao8(l:List Int)(hl:l.length<=1000000)(v:Nat):kJ pw 347 v 3 1 (l.map encI) [] (λa c=>a = .dW []/\c=some (.row v 3 1 (l.reverse.map encI))):=by
 refine mP [] Ty.mixed func347 rfl (by kernel_rfl) (by simp[ntmps347]) ?_;rw[ntmps347,results347];simp only[go_sem];have hw:i64.wrap ((l.length:Int)-1)=(l.length:Int)-1:=IntWalk.i64_in _ (by omega);rw[hw];refine bM (σ:=Nat) (λx=>(cE (cE (cE fS 0 (.row 1000000 v)) 2 (.p (.val (.int .i64 x)))) 3 (.p (.val (.int .i64 ((l.length:Int)-1-x)))))) (λx=>(bh cq 1000000 (.row v 3 1 ((wo l x).map encI))))
  (λx=>2 * x<=l.length+1) (λx=>l.length-2 * x) 0 (by omega) ?_ ?_
 ·rw[atp];exact bU
 rintro x hx;simp only[go_sem];refine aL (λhc=>?_) (λhc=>?_)
 ·have qE:=ct hc;have hx1:x<l.length:=by omega
  have hj1:((l.length:Int)-1-x).toNat=l.length-1-x:=by omega
  have hj2:l.length-1-x<l.length:=by omega
  have hlx:x<(wo l x).length:=by rw[acj];exact hx1
  have hlj:l.length-1-x<(wo l x).length:=by rw[acj];exact hj2
  have hv1:(wo l x).getD (l.length-1-x) default=l.getD (l.length-1-x) default:=by rw[aqX l x _ hj2,if_neg (by omega)]
  have hv2:(wo l x).getD x default=l.getD x default:=by rw[aqX l x _ hx1,if_neg (by omega)]
  have aE8:l.length-1-x<((wo l x).set x (l.getD (l.length-1-x) default)).length:=by rw[length_set];exact hlj
  simp only[go_sem,hv1,hv2,ack,getD_map encI aE8,hj1,getD_map encI hlx,getD_map encI hlj,encI,acj,length_set];refine cZ [.q,.q,.p,.p,.q,.q,.q,.q,.q,.q,.q,.q,.q,.w,.q,.w] (by kernel_rfl) ?_;simp only[go_sem,hv1,hv2,ack,getD_map encI aE8,hj1,getD_map encI hlx,getD_map encI hlj,encI,acj,length_set];refine⟨by omega,hj2,hx1,hx1,hx1,hx1,by omega,hj2,?_⟩;rw[atq l x (by omega),bw (show x<l.length from hx1) (by omega)];have hw2:i64.wrap ((l.length:Int)-1-x-1)=(l.length:Int)-1-((x+1:Nat):Int):=by rw[IntWalk.i64_in _ (by omega)];omega
  rw[hw2];exact bO (x+1) (by omega) (by omega) bU
 ·have qE:=dV hc;simp only[go_sem];rw[axT l x (by omega)]
theorem axU(l:List Int):∀x∈l.map encI,x.length=1:=by intro x hx;obtain⟨a,_,rfl⟩:=mem_map.1 hx;rfl
theorem ahZ(l:List Int)(hl:l.length<=1000000):bt pw 90 [.aU (l.map encI)] (λr=>r = .row 3 1 (l.map encI)):=by
 by_cases h0:l=[]
 ·subst h0;refine bt.tR (by kernel_rfl) λao cap=>?_
  refine bF [5] func90 ntmps90 results90 ?_;simp only[go_sem];cases ao with
  |none=>simp only[go_sem];exact⟨by decide,_,.nil _ _ (by decide),rfl⟩
  |some a=>simp only[go_sem];exact⟨λ_ h=>h.elim,by decide,_,.refl _,rfl⟩
 ·have hne:l.map encI≠[]:=by simpa using h0
  refine bF [5] func90 ntmps90 results90 ?_;simp only[go_sem,hne];exact⟨⟨by omega,axU l⟩,by decide,_,.refl _,rfl⟩
theorem alU(l:List ByteArray):∀x∈l.map iQ,x.length=1:=by intro x hx;obtain⟨a,_,rfl⟩:=mem_map.1 hx;rfl
theorem atr(l:List ByteArray)(hl:l.length<=1000000):bt pw 293 [.aU (l.map iQ)] (λr=>r = .row 9 1 (l.map iQ)):=by
 by_cases h0:l=[]
 ·subst h0;refine bt.tR (by kernel_rfl) λao cap=>?_
  refine bF [5] func293 ntmps293 results293 ?_;simp only[go_sem];cases ao with
  |none=>simp only[go_sem];exact⟨by decide,_,.nil _ _ (by decide),rfl⟩
  |some a=>simp only[go_sem];exact⟨λ_ h=>h.elim,by decide,_,.refl _,rfl⟩
 ·have hne:l.map iQ≠[]:=by simpa using h0
  refine bF [5] func293 ntmps293 results293 ?_;simp only[go_sem,hne];exact⟨⟨by omega,alU l⟩,by decide,_,.refl _,rfl⟩
theorem axV(t:Types)(hf:fm t)(i:Nat)(hi:i<t.ak.length):aS pw 139 [aH t,.val (.int .i64 i)] (λr=>r = .val (.int .i64 (nV t i))):=by
 have hn:=hf.ak;have hn':=hf.nodes;refine aR [] func139 ntmps139 results139 ?_;simp only[go_sem,aH,getD_map aP hi,hi,aP];refine aX (xT (t.ak.getD i default).name (le_trans (hf.axN _ (iD hi)) (by decide))) (by simp only[go_sem,aH,getD_map aP hi,hi,aP]<;>rfl) (b7 rfl) ?_;simp only[go_sem,aH,getD_map aP hi,hi,aP];refine aW (λh1=>?_) (λh1=>?_)<;>simp only[go_sem,aH,getD_map aP hi,hi,aP]
 ·refine bM (σ:=Nat) (λx=>(cE (cE (cE (cE fS 1 (.p (.val (.int .i64 i)))) 2 (.ptr 2 0)) 5 (.ptr 5 0)) 6 (.p (.val (.int .i64 x)))))
   (λx=>(bh (bh cq 2 (.box [.p (.aU (t.nodes.map aJ)),.p (.aU (t.ak.map aP))])) 5 (.box [.p (.val (.string (t.ak.getD i default).name)),.p (.val (.int .i64 (t.ak.getD i default).src)),.p (.val (.int .i64 (t.ak.getD i default).dst)),.p (.val (.int .i64 (t.ak.getD i default).nN)),.p (.val (.int .i64 (t.ak.getD i default).j5)),.p (.val (.int .i64 (t.ak.getD i default).tH)),.p (.val (.int .i64 (t.ak.getD i default).oh))])))
   (λx=>x<=i/\∀j,j<x->decide ((t.ak.getD j default).name=(t.ak.getD i default).name)=false) (λx=>i-x) 0 ⟨zero_le _,λj hj=>absurd hj (not_lt_zero j)⟩ bU ?_
  rintro x ⟨hx,hqx⟩;simp only[go_sem,aH,getD_map aP hi,hi,aP];refine aL (λhc=>?_) (λhc=>?_)
  ·have ao7:x<i:=by simpa using hc
   have hxl:x<t.ak.length:=by omega
   simp only[go_sem,aH,getD_map aP hi,hi,aP,getD_map aP hxl,hxl];refine cZ [.q,.q,.q,.q,.q,.q,.q,.q,.q] (by kernel_rfl) ?_;simp only[go_sem,aH,getD_map aP hi,hi,aP,getD_map aP hxl,hxl];refine aL (λh2=>?_) (λh2=>?_)<;>simp only[go_sem,aH,getD_map aP hi,hi,aP,getD_map aP hxl,hxl]
   ·have:nV t i=5:=by unfold nV;rw[if_neg (by rw[h1];decide),if_pos (sx (p:=λy:l8=>decide (y.name=(t.ak.getD i default).name)) ao7 (by omega) h2)]
    rw[this]
   ·exact bO (x+1) ⟨ao7,uw hqx h2⟩ (by omega) (by rw[bw ao7 (by omega)];exact bU)
  ·have hge:i<=x:=by simpa using hc
   have adq:=oq (p:=λy:l8=>decide (y.name=(t.ak.getD i default).name)) (Nat.le_of_lt hi) λj hj=>hqx j (by omega)
   have e1:nV t i=if ((inB t (t.ak.getD i default).src&&inB t (t.ak.getD i default).dst)&&(wk (t.ak.getD i default).nN (t.ak.getD i default).j5&&wk (t.ak.getD i default).tH (t.ak.getD i default).oh))=true then 0 else 6:=by unfold nV;rw[if_neg (by rw[h1];decide),if_neg (by rw[adq];decide)]
   rw[e1];clear e1;have hw:i64.wrap ((t.nodes.length:Int)-1)=(t.nodes.length:Int)-1:=IntWalk.i64_in _ (by omega);have hin:∀n:Int,(decide (0<=n)&&decide (n<=(t.nodes.length:Int)-1))=inB t n:=λn=>by unfold inB;congr 1;rw[decide_eq_decide];omega
   simp only[go_sem,aH,getD_map aP hi,hi,aP,hw];refine aX (aaQ (t.ak.getD i default).src 0 ((t.nodes.length:Int)-1)) (by simp only[go_sem,aH,getD_map aP hi,hi,aP,hw]<;>rfl) (b7 rfl) ?_;simp only[go_sem,hin,aH,getD_map aP hi,hi,aP,hw];refine bL (λh3=>?_) (λh3=>?_)<;>simp only[go_sem,h3,aH,getD_map aP hi,hi,aP,hw]
   refine aX (aaQ (t.ak.getD i default).dst 0 ((t.nodes.length:Int)-1)) (by simp only[go_sem,aH,getD_map aP hi,hi,aP,hw]<;>rfl) (b7 rfl) ?_;simp only[go_sem,hin,h3,aH,getD_map aP hi,hi,aP,hw];refine bL (λh4=>?_) (λh4=>?_)<;>simp only[go_sem,h4,aH,getD_map aP hi,hi,aP,hw]
   refine aX (alM (t.ak.getD i default).nN (t.ak.getD i default).j5) (by simp only[go_sem,aH,getD_map aP hi,hi,aP,hw]<;>rfl) (b7 rfl) ?_;simp only[go_sem,aH,getD_map aP hi,hi,aP,hw];refine bL (λh5=>?_) (λh5=>?_)<;>simp only[go_sem,h5,aH,getD_map aP hi,hi,aP,hw]
   refine aX (alM (t.ak.getD i default).tH (t.ak.getD i default).oh) (by simp only[go_sem,aH,getD_map aP hi,hi,aP,hw]<;>rfl) (b7 rfl) ?_;simp only[go_sem,aH,getD_map aP hi,hi,aP,hw];refine aW (λh6=>?_) (λh6=>?_)<;>simp only[go_sem,h6,aH,getD_map aP hi,hi,aP,hw]
 ·unfold nV;rw[if_pos h1]
theorem adv(t:Types)(hf:fm t):aS pw 78 [aH t] (λr=>r = .dW [.val (.string (gH t).1),.val (.int .i64 (gH t).2)]):=by
 have hn:=hf.nodes;have hm:=hf.ak;refine aR [] func78 ntmps78 results78 ?_;simp only[go_sem,aH];refine aL (λh1=>?_) (λh1=>?_)<;>simp only[go_sem,aH]
 ·have ur:=ct h1;unfold gH;rw[if_pos (by omega)];exact⟨rfl,rfl⟩
 ·have ur:=dV h1;have hN:t.nodes.length≠0:=by omega
  have xI:12<t.nodes.length\/20<t.ak.length->gH t=(⟨#[]⟩,3):=λh=>by unfold gH;rw[if_neg hN,if_pos h]
  refine bQ (λh2=>?_) (λh2=>?_)<;>simp only[go_sem,h2,aH]
  ·have h2':=ct h2;rw[xI (by omega)];exact⟨rfl,rfl⟩
  ·have h2':=dV h2;refine aL (λh3=>?_) (λh3=>?_)<;>simp only[go_sem,aH]
   ·have h3':=ct h3;rw[xI (by omega)];exact⟨rfl,rfl⟩
   ·have h3':=dV h3
    have hV : gH t = match kC (kK t) 0 t.nodes.length with
      |some k=>((t.nodes.getD k default).name,kK t k)
      |none=>match kC (nV t) 0 t.ak.length with
       |some k=>((t.ak.getD k default).name,nV t k)
       |none=>(⟨#[]⟩,0):=by unfold gH;rw[if_neg hN,if_neg (by omega)];try rfl
    clear xI;refine bM (σ:=Nat) (λx=>(cE (cE fS 1 (.ptr 1 0)) 4 (.p (.val (.int .i64 x)))))
     (λx=>(bh cq 1 (.box [.p (.aU (t.nodes.map aJ)),.p (.aU (t.ak.map aP))])))
     (λx=>x<=t.nodes.length/\∀j,j<x->kK t j=0) (λx=>t.nodes.length-x) 0 ⟨zero_le _,λj hj=>absurd hj (not_lt_zero j)⟩ bU ?_
    rintro x ⟨hx,hq⟩;simp only[go_sem,aH];refine aL (λhc=>?_) (λhc=>?_)
    ·have hlt:x<t.nodes.length:=by simpa using hc
     simp only[go_sem,aH,getD_map aJ hlt,hlt,aJ];refine aX (axS t hf x hlt (afO hq)) (by simp only[go_sem,aH,getD_map aJ hlt,hlt,aJ]<;>rfl) (b7 rfl) ?_;simp only[go_sem,aH,getD_map aJ hlt,hlt,aJ];refine aW (λh4=>?_) (λh4=>?_)<;>simp only[go_sem,aH,getD_map aJ hlt,hlt,aJ]
     ·have zi:=ct h4;exact bO (x+1) ⟨hlt,all_succ hq zi⟩ (by omega) (by rw[bw hlt (by omega)];exact bU)
     ·have zi:=dV h4;rw[hV,mb (zero_le _) hlt (λj _=>hq j) zi];exact⟨rfl,rfl⟩
    ·have hge:t.nodes.length<=x:=by simpa using hc
     have hN0:kC (kK t) 0 t.nodes.length=none:=gG λj _ hj=>hq j (by omega)
     rw[hN0] at hV;simp only[] at hV;simp only[go_sem,aH];refine bM (σ:=Nat) (λx=>(cE (cE fS 1 (.ptr 1 0)) 6 (.p (.val (.int .i64 x)))))
      (λx=>(bh cq 1 (.box [.p (.aU (t.nodes.map aJ)),.p (.aU (t.ak.map aP))])))
      (λx=>x<=t.ak.length/\∀j,j<x->nV t j=0) (λx=>t.ak.length-x) 0 ⟨zero_le _,λj hj=>absurd hj (not_lt_zero j)⟩ bU ?_
     rintro y ⟨hy,hq'⟩;simp only[go_sem,aH];refine aL (λqE=>?_) (λqE=>?_)
     ·have hlt:y<t.ak.length:=by simpa using qE
      simp only[go_sem,aH,getD_map aP hlt,hlt,aP];refine aX (axV t hf y hlt) (by simp only[go_sem,aH,getD_map aP hlt,hlt,aP]<;>rfl) (b7 rfl) ?_;simp only[go_sem,aH,getD_map aP hlt,hlt,aP];refine aW (λh4=>?_) (λh4=>?_)<;>simp only[go_sem,aH,getD_map aP hlt,hlt,aP]
      ·have zi:=ct h4;exact bO (y+1) ⟨hlt,all_succ hq' zi⟩ (by omega) (by rw[bw hlt (by omega)];exact bU)
      ·have zi:=dV h4;rw[hV,mb (zero_le _) hlt (λj _=>hq' j) zi];exact⟨rfl,rfl⟩
     ·have hge:t.ak.length<=y:=by simpa using qE
      simp only[go_sem,aH];rw[hV,gG λj _ hj=>hq' j (by omega)];exact⟨rfl,rfl⟩
theorem sN{f:Nat->Int}{s n k:Nat}(h:kC f s n=some k):f k≠0:=by unfold kC at h;have:=find?_some h;simpa using this
theorem uU{f:Nat->Int}{n:Nat}(h:kC f 0 n=none):∀j,j<n->f j=0:=by intro j hj;unfold kC at h;rw[find?_eq_none] at h;have:=h j (by rw[mem_range'_1];omega);simpa using this
structure OkT(t:Types):Prop where
 xJ:fm t
 pos:0<t.nodes.length
 n12:t.nodes.length<=12
 m20:t.ak.length<=20
 node:∀j,j<t.nodes.length->kK t j=0
 ia:∀j,j<t.ak.length->nV t j=0
theorem sA{t:Types}(hf:fm t)(h:(gH t).2=0):OkT t:=by
 unfold gH at h;split at h
 ·cases h
 ·split at h
  ·cases h
  ·split at h
   ·rename_i hk;exact absurd h (sN hk)
   ·split at h
    ·rename_i hk;exact absurd h (sN hk)
    ·rename_i h1 h2 _ h3 _ h4;exact⟨hf,by omega,by omega,by omega,uU h3,uU h4⟩
theorem OkT.par{t:Types}(h:OkT t):qH t t.nodes.length:=afO h.node
theorem OkT.par'{t:Types}(h:OkT t){a:Nat}(ha:a<t.nodes.length):qH t (a+1):=λj hj=>h.par j (by omega)
theorem OkT.ends{t:Types}(h:OkT t){i:Nat}(hi:i<t.ak.length):inB t (t.ak.getD i default).src=true/\inB t (t.ak.getD i default).dst=true:=by
 have:=h.ia i hi;unfold nV at this;split at this
 ·cases this
 ·split at this
  ·cases this
  ·split at this
   ·rename_i h1;simp only[and_eq_true] at h1;exact h1.1
   ·cases this
theorem xU{t:Types}{n:Int} : inB t n=true↔0<=n/\n<t.nodes.length:=by unfold inB;simp only[and_eq_true,decide_eq_true_eq]
def upK(t:Types):Nat->Int->List Int
 |0,_=>[]
 |k+1,a=>if a<0 then [] else a :: upK t k (t.nodes.getD a.toNat default).parent
def upL(t:Types)(a:Int):List Int:=upK t (a.toNat+1) a
def isB(t:Types)(a b:Int):Bool:=(upL t a).any λx=>decide (x=b)
theorem ajM{t:Types}{a:Int}(h:a<0):upL t a=[]:=by unfold upL upK;rw[if_pos h]
theorem alV{t:Types} : ∀ (k k':Nat) (a:Int),(∀j:Nat,(j:Int)<=a->-1<=(t.nodes.getD j default).parent/\(t.nodes.getD j default).parent<j)->a<k->a<k'->0<k->0<k'->upK t k a=upK t k' a
 |0,_,_,_,_,_,h,_=>by omega
 |_+1,0,_,_,_,_,_,h=>by omega
 |k+1,k'+1,a,hp,h,h',_,_=>by
  unfold upK;split
  ·rfl
  ·rename_i h0;have hq:=hp a.toNat (by omega);congr 1;cases k with
   |zero =>
    cases k' with
    |zero=>rfl
    |succ k' =>
     have:(t.nodes.getD a.toNat default).parent<0:=by omega
     unfold upK;rw[if_pos this]
   |succ k =>
    cases k' with
    |zero =>
     have:(t.nodes.getD a.toNat default).parent<0:=by omega
     unfold upK;rw[if_pos this]
    |succ k'=>exact alV (k+1) (k'+1) _ (λj hj=>hp j (by omega)) (by omega) (by omega) (by omega) (by omega)
theorem alW{t:Types}{a:Nat}(hp:qH t (a+1)):upL t a=(a:Int) :: upL t (t.nodes.getD a default).parent:=by
 have hq:=hp a (by omega);have e:upL t a=(a:Int) :: upK t a (t.nodes.getD a default).parent:=by
  unfold upL;rw[toNat_natCast]
  conv=>lhs;unfold upK
  rw[if_neg (by omega),toNat_natCast]
 rw[e];congr 1;by_cases h0:(t.nodes.getD a default).parent<0
 ·rw[ajM h0];cases a with
  |zero=>rfl
  |succ a=>unfold upK;rw[if_pos h0]
 ·unfold upL;exact alV _ _ _ (λj hj=>hp j (by omega)) (by omega) (by omega) (by omega) (by omega)
theorem aqY{t:Types}{a b:Int}(h:a<0):isB t a b=false:=by unfold isB;rw[ajM h];try rfl
theorem alX{t:Types}{a:Nat}(hp:qH t (a+1))(b:Int):isB t a b=(decide ((a:Int)=b)||isB t (t.nodes.getD a default).parent b):=by unfold isB;rw[alW hp];try rfl
def qI(t:Types)(l:List Int):Int:=if (gH t).2≠0 then (gH t).2 else if l.any (λa=>!inB t a)=true then 6 else 0
theorem adw(t:Types)(b:Int)(hb:0<=b)(hf:fm t):∀ (n:Nat) (a:Int),a<n->-1<=a->a<t.nodes.length->qH t t.nodes.length->aS pw 155 [aH t,.val (.int .i64 a),.val (.int .i64 b)] (λr=>r = .val (.bool (isB t a b))):=by
 intro n
 induction n with
 |zero =>
  intro a hn ha hl hp;rw[aqY (by omega)];refine aR [] func155 ntmps155 results155 ?_;simp only[go_sem,aH];refine cZ [.q,.q,.q,.q,.q,.q,.q,.q,.q,.q,.q,.q,.q,.q,.q,.q,.q,.q,.q] (by kernel_rfl) ?_;simp only[go_sem];refine pK (λh1=>?_) (λh1=>?_)<;>simp only[go_sem,h1]
  ·have:=ct h1;omega
  ·refine oG (λh2=>?_) (λh2=>?_)<;>simp only[go_sem,h1,h2]
   have:=ct h2;omega
 |succ n ih =>
  intro a hn ha hl hp;refine aR [] func155 ntmps155 results155 ?_;simp only[go_sem,aH];refine cZ [.q,.q,.q,.q,.q,.q,.q,.q,.q,.q,.q,.q,.q,.q,.q,.q,.q,.q,.q] (by kernel_rfl) ?_;simp only[go_sem,aH];refine pK (λh1=>?_) (λh1=>?_)<;>simp only[go_sem,h1,aH]
  ·have ur:=ct h1;subst ur;obtain⟨q,rfl⟩:∃q:Nat,a=q:=⟨_,(toNat_of_nonneg hb).symm⟩;rw[alX (λj hj=>hp j (by omega))];simp
  ·have ur:=dV h1;refine oG (λh2=>?_) (λh2=>?_)<;>simp only[go_sem,h1,h2,aH]
   ·have h2':=ct h2;obtain⟨q,rfl⟩:∃q:Nat,a=q:=⟨_,(toNat_of_nonneg h2').symm⟩;have hq:q<t.nodes.length:=by omega
    have hpq:=hp q hq;simp only[go_sem,aH,getD_map aJ hq,hq,aJ];refine jG (ih (t.nodes.getD q default).parent (by omega) hpq.1 (by omega) hp) (by simp only[go_sem,aH,getD_map aJ hq,hq,aJ]<;>rfl) (b7 rfl) ?_;simp only[go_sem,h1,h2,aH,getD_map aJ hq,hq,aJ];rw[alX (λj hj=>hp j (by omega)),h1,Bool.false_or]
   ·have h2':=dV h2;rw[aqY (by omega)]
theorem att(t:Types)(n:Int):aS pw 294 [.val (.int .i64 n),.ee [.aU (t.nodes.map aJ),.aU (t.ak.map aP)] 0] (λr=>r = .val (.bool (!inB t n))):=by
 refine aR [] func294 ntmps294 results294 ?_;simp only[go_sem];unfold inB
 repeat' first|done|(refine bQ (λh=>?_) (λh=>?_)<;>try simp only[go_sem,h])|(refine bL (λh=>?_) (λh=>?_)<;>try simp only[go_sem,h])|(refine aW (λh=>?_) (λh=>?_)<;>try simp only[go_sem,h])|(refine aL (λh=>?_) (λh=>?_)<;>try simp only[go_sem,h])
 all_goals(simp only[decide_eq_true_eq,decide_eq_false_iff_not,not_eq_true',not_eq_false'] at *;rw[Bool.eq_iff_iff];simp only[not_eq_true',not_eq_false',and_eq_true,or_eq_true,and_eq_false_iff,Bool.or_eq_false_iff,decide_eq_true_eq,decide_eq_false_iff_not,Bool.false_eq_true,true_iff,iff_true,false_iff,iff_false];omega)
theorem afQ(t:Types)(hf:fm t)(l:List Int)(hl:l.length<=1000000):aS pw 233 [aH t,.aU (l.map encI)] (λr=>r = .val (.int .i64 (qI t l))):=by
 unfold qI;refine aR [] func233 ntmps233 results233 ?_;simp only[go_sem,aH];refine aX (alS t hf) (by simp only[go_sem,aH]<;>rfl) (b7 rfl) ?_;simp only[go_sem,aH];refine aW (λh1=>?_) (λh1=>?_)<;>simp only[go_sem,aH]
 ·have ur:=ct h1;rw[if_neg (by rw[ur];decide)];refine aX (ach (λa=>!inB t a) l hl _ [] [.ee [.aU (t.nodes.map aJ),.aU (t.ak.map aP)] 0] (λy _=>att t y)) (by simp only[go_sem,aH]<;>rfl) (b7 rfl) ?_;simp only[go_sem,aH];refine aL (λh2=>?_) (λh2=>?_)<;>simp only[go_sem,aH]
  ·rw[if_pos h2]
  ·rw[if_neg (by rw[h2];decide)]
 ·have ur:=dV h1;rw[if_pos ur]
theorem ah0(t:Types)(hf:fm t)(a b:Int):aS pw 152 [aH t,.val (.int .i64 a),.val (.int .i64 b)] (λr=>r = .val (.int .i64 (qI t [a,b]))):=by
 have hn':=hf.nodes;have hw:i64.wrap ((t.nodes.length:Int)-1)=(t.nodes.length:Int)-1:=IntWalk.i64_in _ (by omega);have hin:∀n:Int,(decide (0<=n)&&decide (n<=(t.nodes.length:Int)-1))=inB t n:=λn=>by unfold inB;congr 1;rw[decide_eq_decide];omega
 unfold qI;refine aR [] func152 ntmps152 results152 ?_;simp only[go_sem,aH];refine aX (adv t hf) (by simp only[go_sem,aH]<;>rfl) (b7 rfl) ?_;simp only[go_sem,aH];refine aW (λh1=>?_) (λh1=>?_)<;>simp only[go_sem,aH]
 ·have ur:=ct h1;rw[if_neg (by rw[ur];decide)];simp only[go_sem,hw,aH];refine aX (aaQ a 0 ((t.nodes.length:Int)-1)) (by simp only[go_sem,aH]<;>rfl) (b7 rfl) ?_;simp only[go_sem,hin,aH];refine bL (λh2=>?_) (λh2=>?_)<;>simp only[go_sem,h2,hw,aH]
  case refine_2=>simp[h2]
  refine aX (aaQ b 0 ((t.nodes.length:Int)-1)) (by simp only[go_sem,aH]<;>rfl) (b7 rfl) ?_;simp only[go_sem,hin,aH];refine aW (λh3=>?_) (λh3=>?_)<;>simp only[go_sem,h3,aH]
  all_goals simp[h2,h3]
 ·have ur:=dV h1;rw[if_pos ur]
theorem aBy(t:Types)(ht:OkT t)(a:Nat)(ha:a<t.nodes.length):aS pw 295 [aH t,.val (.int .i64 a)] (λr=>r = .aU ((upL t a).reverse.map encI)):=by
 have hn:=ht.n12;refine aR [] func295 ntmps295 results295 ?_;simp only[go_sem,aH];refine bM (σ:=Int×List Int×Nat) (λx=>(cE (cE (cE fS 1 (.p (.val (.int .i64 x.1)))) 2 (.ptr 2 0)) 5 (.row 5 x.2.2)))
  (λx=>(bh (bh cq 2 (.box [.p (.aU (t.nodes.map aJ)),.p (.aU (t.ak.map aP))])) 5 (.row x.2.2 3 1 (x.2.1.map encI))))
  (λx=>(-1<=x.1/\x.1<t.nodes.length/\x.2.1.length+(x.1+1).toNat<=20)/\x.2.1++upL t x.1=upL t a) (λx=>(x.1+1).toNat) ((a:Int),[],0) ⟨⟨by omega,by omega,by simp;omega⟩,by simp⟩
  ((ja 5 5 3 1 rfl rfl (by decide)).trans bU) ?_
 rintro⟨c,acc,v⟩ ⟨⟨h1,h2,h3⟩,h4⟩;simp only at h1 h2 h3 h4;simp only[go_sem];refine aL (λhc=>?_) (λhc=>?_)
 ·have qE:=ct hc;obtain⟨q,rfl⟩:∃q:Nat,c=q:=⟨_,(toNat_of_nonneg qE).symm⟩;have hq:q<t.nodes.length:=by omega
  have hpq:=ht.par q hq;simp only[go_sem,getD_map aJ hq,hq,aJ];refine⟨by omega,?_⟩;rw[alW (ht.par' hq)] at h4;generalize (t.nodes.getD q default).parent=par at hpq h4 ⊢;refine bO (par,acc++[(q:Int)],v+1) ⟨⟨by dsimp only;omega,by dsimp only;omega,by simp only[length_append,length_cons,length_nil];omega⟩,?_⟩ (by dsimp only;omega) ?_
  ·rw[<-h4,append_assoc];try rfl
  ·rw[map_append];exact bU
 ·have qE:=dV hc;rw[ajM (by omega),append_nil] at h4;subst h4;simp only[go_sem];refine acg (ao8 (upL t a) (by omega) v) (by simp only[go_sem]<;>rfl) (by simp only[go_sem]<;>rfl) (by simp only[go_sem]<;>rfl) (λh=>by cases h) ?_;simp only[go_sem]
theorem ao9(t:Types)(ht:OkT t)(a:Nat)(ha:a<t.nodes.length)(b:Int):aS pw 234 [aH t,.val (.int .i64 a),.val (.int .i64 b)] (λr=>r = .val (.bool (isB t a b))):=by
 have hl:∀n:Int,-1<=n->n<t.nodes.length->(upL t n).length<=n.toNat+1:=by
  intro n h1 h2;have:∀ (k:Nat) (n:Int),(upK t k n).length<=k:=by
   intro k
   induction k with
   |zero=>intro n;simp[upK]
   |succ k ih =>
    intro n;unfold upK;split
    ·simp
    ·simp only[length_cons];exact Nat.succ_le_succ (ih _)
  exact this _ _
 have hla:=hl a (by omega) (by omega);have hn:=ht.n12;refine aR [] func234 ntmps234 results234 ?_;simp only[go_sem,aH];refine aX (aBy t ht a ha) (by simp only[go_sem]<;>rfl) (wW) ?_;simp only[go_sem];refine aX (aBn ((upL t a).reverse) b (by simp;omega)) (by simp only[go_sem]<;>rfl) (b7 rfl) ?_;simp only[go_sem];unfold isB;rw[Bool.eq_iff_iff];simp only[any_eq_true,mem_reverse,decide_eq_true_eq];constructor
 ·rintro⟨x,h1,h2⟩;exact⟨x,h1,h2.symm⟩
 ·rintro⟨x,h1,h2⟩;exact⟨x,h1,h2.symm⟩
theorem ah1{t:Types}{a b:Int}(hf:fm t)(h:qI t [a,b]=0):OkT t/\(0<=a/\a<t.nodes.length)/\(0<=b/\b<t.nodes.length):=by
 unfold qI at h;split at h
 ·rename_i h1;exact absurd h h1
 ·rename_i h1;split at h
  ·cases h
  ·rename_i h2;refine⟨sA hf (Decidable.of_not_not h1),?_⟩;simp only[any_cons,any_nil,Bool.or_false,or_eq_true,not_eq_true',not_or,not_eq_false] at h2;exact⟨xU.1 h2.1,xU.1 h2.2⟩
def qf(t:Types)(e a b:Int):Bool:=decide (qI t [a,b]=0)&&((decide (0<=e)&&decide (e<t.ak.length))&&(isB t a (t.ak.getD e.toNat default).src&&isB t b (t.ak.getD e.toNat default).dst))
theorem aBz(t:Types)(hf:fm t)(e a b:Int):aS pw 136 [aH t,.val (.int .i64 e),.val (.int .i64 a),.val (.int .i64 b)] (λr=>r = .val (.bool (qf t e a b))):=by
 refine aR [] func136 ntmps136 results136 ?_;simp only[go_sem,aH];refine aX (afQ t hf [a,b] (by simp)) (by simp only[go_sem,aH]<;>rfl) (b7 rfl) ?_;simp only[go_sem,aH];refine bL (λh1=>?_) (λh1=>?_)<;>simp only[go_sem,h1,aH]
 ·have ur:=ct h1;obtain⟨ht,ha,hb⟩:=ah1 hf ur;refine bQ (λh2=>?_) (λh2=>?_)<;>simp only[go_sem,h1,h2,aH]
  ·have h2':=ct h2;unfold qf;rw[gf (show ¬ 0<=e by omega)];simp
  ·have h2':=dV h2;refine aL (λh3=>?_) (λh3=>?_)<;>simp only[go_sem,h1,h2,h3,aH]
   ·have h3':=ct h3;unfold qf;rw[gf (show ¬ e<t.ak.length by omega)];simp
   ·have h3':=dV h3;obtain⟨k,rfl⟩:∃k:Nat,e=k:=⟨_,(toNat_of_nonneg (by omega)).symm⟩;obtain⟨x,rfl⟩:∃k:Nat,a=k:=⟨_,(toNat_of_nonneg ha.1).symm⟩;obtain⟨y,rfl⟩:∃k:Nat,b=k:=⟨_,(toNat_of_nonneg hb.1).symm⟩;have hk:k<t.ak.length:=by omega
    have e0:qf t k x y=(isB t x (t.ak.getD k default).src&&isB t y (t.ak.getD k default).dst):=by unfold qf;rw[h1,dB (show (0:Int)<=k by omega),dB (show (k:Int)<t.ak.length by omega)];simp
    rw[e0];refine cZ [.q,.q,.q,.q,.q,.q,.q,.q,.q,.q,.q,.q,.q,.q,.q,.q,.q,.q,.q,.q,.q] (by kernel_rfl) ?_;simp only[go_sem,aH,getD_map aP hk,hk,aP];refine jG (ao9 t ht x (by omega) (t.ak.getD k default).src) (by simp only[go_sem,aH,getD_map aP hk,hk,aP]<;>rfl) (b7 rfl) ?_;simp only[go_sem,aH,getD_map aP hk,hk,aP];refine oG (λh4=>?_) (λh4=>?_)<;>simp only[go_sem,h4,aH,getD_map aP hk,hk,aP]
    refine jG (ao9 t ht y (by omega) (t.ak.getD k default).dst) (by simp only[go_sem,aH,getD_map aP hk,hk,aP]<;>rfl) (b7 rfl) ?_;simp only[go_sem,h4,aH,getD_map aP hk,hk,aP]
 ·unfold qf;rw[h1];try rfl
theorem alY(t:Types)(hf:fm t)(e a b:Int):aS pw 94 [aH t,.val (.int .i64 e),.val (.int .i64 a),.val (.int .i64 b)] (λr=>r = .val (.bool (qf t e a b))):=by
 have hm:=hf.ak;have hw:i64.wrap ((t.ak.length:Int)-1)=(t.ak.length:Int)-1:=IntWalk.i64_in _ (by omega);refine aR [] func94 ntmps94 results94 ?_;simp only[go_sem,aH];refine aX (ah0 t hf a b) (by simp only[go_sem,aH]<;>rfl) (b7 rfl) ?_;simp only[go_sem,aH];refine bL (λh1=>?_) (λh1=>?_)<;>simp only[go_sem,h1,aH]
 ·have ur:=ct h1;obtain⟨ht,ha,hb⟩:=ah1 hf ur;simp only[go_sem,hw,aH];refine aX (aaQ e 0 ((t.ak.length:Int)-1)) (by simp only[go_sem,aH]<;>rfl) (b7 rfl) ?_;simp only[go_sem,h1,aH];refine aW (λh2=>?_) (λh2=>?_)<;>simp only[go_sem,h1,h2,aH]
  ·have h2':0<=e/\e<=(t.ak.length:Int)-1:=by simpa only[and_eq_true,decide_eq_true_eq] using h2
   obtain⟨k,rfl⟩:∃k:Nat,e=k:=⟨_,(toNat_of_nonneg (by omega)).symm⟩;obtain⟨x,rfl⟩:∃k:Nat,a=k:=⟨_,(toNat_of_nonneg ha.1).symm⟩;obtain⟨y,rfl⟩:∃k:Nat,b=k:=⟨_,(toNat_of_nonneg hb.1).symm⟩;have hk:k<t.ak.length:=by omega
   have e0:qf t k x y=(isB t x (t.ak.getD k default).src&&isB t y (t.ak.getD k default).dst):=by unfold qf;rw[h1,dB (show (0:Int)<=k by omega),dB (show (k:Int)<t.ak.length by omega)];simp
   rw[e0];have axW:=ht.ends hk;rw[xU,xU] at axW;refine cZ [.q,.q,.q,.q,.q,.q,.q,.q,.q,.q,.q,.q,.q,.q,.q,.q,.q,.q,.q,.q,.q] (by kernel_rfl) ?_;simp only[go_sem,aH,getD_map aP hk,hk,aP];refine jG (adw t (t.ak.getD k default).src axW.1.1 hf t.nodes.length x (by omega) (by omega) (by omega) ht.par) (by simp only[go_sem,aH,getD_map aP hk,hk,aP]<;>rfl) (b7 rfl) ?_;simp only[go_sem,aH,getD_map aP hk,hk,aP];refine oG (λh4=>?_) (λh4=>?_)<;>simp only[go_sem,h4,aH,getD_map aP hk,hk,aP]
   refine jG (adw t (t.ak.getD k default).dst axW.2.1 hf t.nodes.length y (by omega) (by omega) (by omega) ht.par) (by simp only[go_sem,aH,getD_map aP hk,hk,aP]<;>rfl) (b7 rfl) ?_;simp only[go_sem,h4,aH,getD_map aP hk,hk,aP]
  ·unfold qf;rw[h1];by_cases h0:0<=e
   ·have:¬ e<t.ak.length:=by rw[dB h0,Bool.true_and] at h2;have:=dV h2;omega
    rw[gf this];simp
   ·rw[gf h0];simp
 ·unfold qf;rw[h1];try rfl
theorem axX{α:Type} [Inhabited α](f:α->List PV){l:List α}{x:Nat}(h:x<l.length):(l.take x).map f++[f (l.getD x default)]=(l.take (x+1)).map f:=by rw[om h,map_append];try rfl
theorem alZ(l:List Attr){x:Nat}(hx:x<l.length):(l.map aV).set x [.val (.string (l.getD x default).name),.val (.int .i64 (l.getD x default).low),.val (.int .i64 (l.getD x default).high),.aU ((l.getD x default).names.map iQ)]=l.map aV:=by
 have:[PV.val (.string (l.getD x default).name),.val (.int .i64 (l.getD x default).low),.val (.int .i64 (l.getD x default).high),.aU ((l.getD x default).names.map iQ)]=aV (l.getD x default):=rfl;rw[this,<-map_set];congr 1;have h2:l.getD x default=l[x]:=by simp[hx]
 rw[h2];simp
theorem OkT.valid{t:Types}(ht:OkT t):(gH t).2=0:=by unfold gH;rw[if_neg (by have:=ht.pos;omega),if_neg (by have:=ht.n12;have:=ht.m20;omega),gG λj _ hj=>ht.node j hj];simp only[];rw[gG λj _ hj=>ht.ia j hj]
theorem OkT.given{t:Types}(ht:OkT t){l:List Int}(hl:∀a∈l,0<=a/\a<t.nodes.length):qI t l=0:=by unfold qI;rw[if_neg (by rw[ht.valid];decide),if_neg];simp only[any_eq_true,not_eq_true',not_exists,not_and,not_eq_false];exact λa ha=>xU.2 (hl a ha)
theorem ah2(t:Types)(ht:OkT t)(a:Nat)(ha:a<t.nodes.length):aS pw 232 [aH t,.val (.int .i64 a)] (λr=>r = .dW [.aU ((bg t a).map aV),.val (.int .i64 0)]):=by
 have hlen:=mQ ht.xJ ha (ht.par' ha);have hg:qI t [(a:Int)]=0:=ht.given (by simp;omega);refine aR [] func232 ntmps232 results232 ?_;simp only[go_sem,aH];refine aX (afQ t ht.xJ [(a:Int)] (by simp)) (by simp only[go_sem]<;>rfl) (b7 rfl) ?_;simp only[go_sem,hg];refine pJ 18 (alR t ht.xJ a ha (ht.par' ha)) (by simp only[go_sem]<;>rfl) (vM) (by simp only[go_sem]) ?_;simp only[go_sem];refine bM (σ:=Nat) (λx=>(cE (cE (cE fS 7 (.row 18 0)) 20 (.p (.val (.int .i64 (bg t a).length)))) 21 (.p (.val (.int .i64 x)))))
  (λx=>(bh cq 18 (.row 0 168 4 ((bg t a).map aV))))
  (λx=>x<=(bg t a).length) (λx=>(bg t a).length-x) 0 (zero_le _) bU ?_
 rintro x hx;simp only[go_sem];refine aL (λhc=>?_) (λhc=>?_)
 ·have hlt:x<(bg t a).length:=by simpa using hc
  have hA:=ht.xJ.aBv ha (ht.par' ha) (iD hlt);have hn:=hA.names;simp only[go_sem,getD_map aV hlt,hlt,aV,cV];refine aX ((atr (((bg t a).getD x default).names) (by omega)).toL) (by simp only[go_sem,getD_map aV hlt,hlt,aV,cV]<;>rfl) (wW) ?_;simp only[go_sem,getD_map aV hlt,hlt,aV,cV];rw[alZ _ hlt];exact bO (x+1) hlt (by omega) (by rw[bw hlt (by omega)];exact bU)
 ·simp only[go_sem]
theorem afR(t:Types)(ht:OkT t)(a:Nat)(ha:a<t.nodes.length):aS pw 93 [aH t,.val (.int .i64 a)] (λr=>r = .dW [.aU ((bg t a).map aV),.val (.int .i64 0)]):=by
 have hlen:=mQ ht.xJ ha (ht.par' ha);have hg:qI t [(a:Int),(a:Int)]=0:=ht.given (by simp;omega);refine aR [] func93 ntmps93 results93 ?_;simp only[go_sem,aH];refine aX (ah0 t ht.xJ (a:Int) (a:Int)) (by simp only[go_sem]<;>rfl) (b7 rfl) ?_;simp only[go_sem,hg];refine aX ((ahY t ht.xJ a ha (ht.par' ha)).toL) (by simp only[go_sem]<;>rfl) (wW) ?_;simp only[go_sem];refine bM (σ:=Nat) (λx=>(cE (cE (cE fS 7 (.row 7 x)) 8 (.p (.aU ((bg t a).map aV)))) 9 (.p (.val (.int .i64 x)))))
  (λx=>(bh cq 7 (.row x 168 4 (((bg t a).take x).map aV))))
  (λx=>x<=(bg t a).length) (λx=>(bg t a).length-x) 0 (zero_le _) ((ja 7 7 168 4 rfl rfl (by decide)).trans bU) ?_
 rintro x hx;simp only[go_sem];refine aL (λhc=>?_) (λhc=>?_)
 ·have hlt:x<(bg t a).length:=by simpa using hc
  have hA:=ht.xJ.aBv ha (ht.par' ha) (iD hlt);have hn:=hA.names;simp only[go_sem,getD_map aV hlt,hlt,aV,cV];have e:=axX aV hlt;simp only[aV,cV] at e;rw[e];refine⟨⟨by omega,alU _⟩,by simp;omega,?_⟩;exact bO (x+1) hlt (by omega) (by rw[bw hlt (by omega)];exact bU)
 ·have hge:(bg t a).length<=x:=by simpa using hc
  simp only[go_sem];rw[take_of_length_le hge]
structure axY(g:eY):Prop where
 nodes:g.nodes.length<=45
 ak:g.ak.length<=90
structure apa(g:eY):Prop where
 nodes:g.nodes.length<=1000
 ak:g.ak.length<=1000
theorem axY.xI{g:eY}(h:axY g):apa g:=⟨by have:=h.nodes;omega,by have:=h.ak;omega⟩
def rF(n:Int):Bool:=decide (0<=n)&&decide (n<=99)
def tJ(n:Nat)(e:Edge):Bool:=(rF e.type&&(decide (0<=e.src)&&decide (e.src<=(n:Int)-1)))&&(decide (0<=e.dst)&&decide (e.dst<=(n:Int)-1))
def o8(g:eY):Int:=if 40<g.nodes.length\/80<g.ak.length then 3 else if g.nodes.any (λn=>!rF n)=true then 6 else if g.ak.any (λe=>!tJ g.nodes.length e)=true then 6 else 0
structure OkG(g:eY):Prop where
 nodes:g.nodes.length<=40
 ak:g.ak.length<=80
 kind:∀i,i<g.nodes.length->0<=g.nodes.getD i default/\g.nodes.getD i default<=99
 ia:∀i,i<g.ak.length->(0<=(g.ak.getD i default).type/\(g.ak.getD i default).type<=99)/\(0<=(g.ak.getD i default).src/\(g.ak.getD i default).src<g.nodes.length)/\(0<=(g.ak.getD i default).dst/\(g.ak.getD i default).dst<g.nodes.length)
theorem okG{g:eY}(h:o8 g=0):OkG g:=by
 unfold o8 at h;split at h
 ·cases h
 ·split at h
  ·cases h
  ·split at h
   ·cases h
   ·rename_i h1 h2 h3;simp only[any_eq_true,not_exists,not_and,not_eq_true',not_eq_false] at h2 h3;refine⟨by omega,by omega,λi hi=>?_,λi hi=>?_⟩
    ·have:=h2 _ (iD hi);simpa only[rF,and_eq_true,decide_eq_true_eq] using this
    ·have:=h3 _ (iD hi);simp only[tJ,rF,and_eq_true,decide_eq_true_eq] at this;omega
theorem axZ(e:Edge)(n:Nat)(hn:n<=1000):aS pw 231 [.agg (aZ e),.val (.int .i64 n)] (λr=>r = .val (.bool (tJ n e))):=by
 have hw:i64.wrap ((n:Int)-1)=(n:Int)-1:=IntWalk.i64_in _ (by omega);unfold tJ;refine aR [] func231 ntmps231 results231 ?_;simp only[go_sem,aZ,hw];refine aX (aav e.type 99) (by simp only[go_sem,aZ,hw]<;>rfl) (b7 rfl) ?_;simp only[go_sem,aZ,hw];have hk:(decide (0<=e.type)&&decide (e.type<=99))=rF e.type:=rfl;rw[hk];refine bL (λh1=>?_) (λh1=>?_)<;>simp only[go_sem,h1,aZ,hw]
 refine aX (aav e.src ((n:Int)-1)) (by simp only[go_sem,aZ,hw]<;>rfl) (b7 rfl) ?_;simp only[go_sem,aZ,hw];generalize (decide (0<=e.src)&&decide (e.src<=(n:Int)-1))=b1;refine bL (λh2=>?_) (λh2=>?_)<;>simp only[go_sem,h2,aZ,hw]
 refine aX (aav e.dst ((n:Int)-1)) (by simp only[go_sem,aZ,hw]<;>rfl) (b7 rfl) ?_;simp only[go_sem,aZ,hw]
theorem apb(n:Int):aS pw 227 [.val (.int .i64 n)] (λr=>r = .val (.bool (!rF n))):=by unfold rF;refine aR [] func227 ntmps227 results227 ?_;simp only[go_sem];refine aX (aav n 99) (by simp only[go_sem]<;>rfl) (b7 rfl) ?_;simp only[go_sem]
theorem apc(g:eY)(hg:apa g)(e:Edge):aS pw 230 [.agg (aZ e),.ee [bk g.nodes,.aU (g.ak.map aZ)] 0] (λr=>r = .val (.bool (!tJ g.nodes.length e))):=by refine aR [] func230 ntmps230 results230 ?_;simp only[go_sem,aZ,bk];refine aX (axZ e g.nodes.length hg.nodes) (by simp only[go_sem]<;>rfl) (b7 rfl) ?_;simp only[go_sem]
theorem atu(g:eY)(hg:apa g):aS pw 134 [fk g] (λr=>r = .val (.int .i64 (o8 g))):=by
 have h1:=hg.nodes;have h2:=hg.ak;unfold o8;refine aR [] func134 ntmps134 results134 ?_;simp only[go_sem,fk,bk];refine bQ (λh3=>?_) (λh3=>?_)<;>simp only[go_sem,h3,fk,bk]
 ·have h3':=ct h3;rw[if_pos (by omega)]
 ·have h3':=dV h3;refine aL (λh4=>?_) (λh4=>?_)<;>simp only[go_sem,fk,bk]
  ·have zi:=ct h4;rw[if_pos (by omega)]
  ·have zi:=dV h4;rw[if_neg (by omega)];refine aX (ach (λn=>!rF n) g.nodes (by omega) _ [] [] (λy _=>apb y)) (by simp only[go_sem,fk,bk]<;>rfl) (b7 rfl) ?_;simp only[go_sem,fk,bk];refine aL (λh5=>?_) (λh5=>?_)<;>simp only[go_sem,fk,bk]
   ·rw[if_pos h5]
   ·rw[if_neg (by rw[h5];decide)];refine aX (ahe (λe=>!tJ g.nodes.length e) g.ak (by omega) _ [] [.ee [bk g.nodes,.aU (g.ak.map aZ)] 0] (λy _=>apc g hg y)) (by simp only[go_sem,fk,bk]<;>rfl) (b7 rfl) ?_;simp only[go_sem,fk,bk];refine aL (λh6=>?_) (λh6=>?_)<;>simp only[go_sem,fk,bk]
    ·rw[if_pos h6]
    ·rw[if_neg (by rw[h6];decide)]
theorem al0(n:Int):aS pw 189 [.val (.int .i64 n)] (λr=>r = .val (.bool (rF n))):=by
 unfold rF;refine aR [] func189 ntmps189 results189 ?_;simp only[go_sem]
 repeat' first|done|(refine bQ (λh=>?_) (λh=>?_)<;>try simp only[go_sem,h])|(refine bL (λh=>?_) (λh=>?_)<;>try simp only[go_sem,h])|(refine aW (λh=>?_) (λh=>?_)<;>try simp only[go_sem,h])|(refine aL (λh=>?_) (λh=>?_)<;>try simp only[go_sem,h])
theorem atv(e:Edge)(n:Nat):aS pw 190 [.agg (aZ e),.val (.int .i64 n)] (λr=>r = .val (.bool (tJ n e))):=by
 refine aR [] func190 ntmps190 results190 ?_;simp only[go_sem,aZ];refine aX (al0 e.type) (by simp only[go_sem,aZ]<;>rfl) (b7 rfl) ?_;simp only[go_sem,aZ];refine bL (λh1=>?_) (λh1=>?_)<;>simp only[go_sem,h1,aZ]
 ·have e0:tJ n e=((decide (0<=e.src)&&decide (e.src<=(n:Int)-1))&&(decide (0<=e.dst)&&decide (e.dst<=(n:Int)-1))):=by unfold tJ;rw[h1,Bool.true_and]
  rw[e0]
  repeat' first|done|(refine bQ (λh=>?_) (λh=>?_)<;>try simp only[go_sem,h,h1,aZ])|(refine bL (λh=>?_) (λh=>?_)<;>try simp only[go_sem,h,h1,aZ])|(refine aW (λh=>?_) (λh=>?_)<;>try simp only[go_sem,h,h1,aZ])|(refine aL (λh=>?_) (λh=>?_)<;>try simp only[go_sem,h,h1,aZ])
  all_goals(simp only[decide_eq_true_eq,decide_eq_false_iff_not,not_eq_true',not_eq_false'] at *;rw[Bool.eq_iff_iff];simp only[not_eq_true',not_eq_false',and_eq_true,or_eq_true,and_eq_false_iff,Bool.or_eq_false_iff,decide_eq_true_eq,decide_eq_false_iff_not,Bool.false_eq_true,true_iff,iff_true,false_iff,iff_false];omega)
 ·unfold tJ;rw[h1];try rfl
theorem any_true{α:Type} [Inhabited α]{p:α->Bool}{l:List α}{j:Nat}(hj:j<l.length)(h:p (l.getD j default)=true):l.any p=true:=any_eq_true.2 ⟨_,iD hj,h⟩
theorem any_false{α:Type} [Inhabited α]{p:α->Bool}{l:List α}(h:∀j,j<l.length->p (l.getD j default)=false):l.any p=false:=by rw[<-take_length (l:=l)];exact oq (le_refl _) h
theorem apd(g:eY)(hg:apa g):aS pw 109 [fk g] (λr=>r = .val (.int .i64 (o8 g))):=by
 have h1:=hg.nodes;have h2:=hg.ak;unfold o8;refine aR [] func109 ntmps109 results109 ?_;simp only[go_sem,fk,bk];refine bQ (λh3=>?_) (λh3=>?_)<;>simp only[go_sem,h3,fk,bk]
 ·have h3':=ct h3;rw[if_pos (by omega)]
 ·have h3':=dV h3;refine aL (λh4=>?_) (λh4=>?_)<;>simp only[go_sem,fk,bk]
  ·have zi:=ct h4;rw[if_pos (by omega)]
  ·have zi:=dV h4;rw[if_neg (by omega)];refine bM (σ:=Nat) (λx=>(cE (cE fS 1 (.ptr 1 0)) 3 (.p (.val (.int .i64 x)))))
    (λx=>(bh cq 1 (.box [.p (.aU (g.nodes.map encI)),.p (.aU (g.ak.map aZ))])))
    (λx=>x<=g.nodes.length/\∀j,j<x->(!rF (g.nodes.getD j default))=false) (λx=>g.nodes.length-x) 0 ⟨zero_le _,λj hj=>absurd hj (not_lt_zero j)⟩ bU ?_
   rintro x ⟨hx,hq⟩;simp only[go_sem,fk,bk];refine aL (λhc=>?_) (λhc=>?_)
   ·have hlt:x<g.nodes.length:=by simpa using hc
    simp only[go_sem,fk,bk,getD_map encI hlt,hlt,encI];refine aX (al0 (g.nodes.getD x default)) (by simp only[go_sem,fk,bk,getD_map encI hlt,hlt,encI]<;>rfl) (b7 rfl) ?_;simp only[go_sem,fk,bk,getD_map encI hlt,hlt,encI];refine aW (λh5=>?_) (λh5=>?_)<;>simp only[go_sem,fk,bk,getD_map encI hlt,hlt,encI]
    ·exact bO (x+1) ⟨hlt,uw (p:=λj=>!rF (g.nodes.getD j default)) (λj hj=>by have:=hq j hj;simpa using this) (by rw[h5];rfl)⟩ (by omega) (by rw[bw hlt (by omega)];exact bU)
    ·rw[if_pos (any_true (p:=λn=>!rF n) hlt (by rw[h5];rfl))]
   ·have hge:g.nodes.length<=x:=by simpa using hc
    rw[if_neg (by rw[any_false (p:=λn=>!rF n) λj hj=>hq j (by omega)];decide)];simp only[go_sem,fk,bk];refine bM (σ:=Nat) (λx=>(cE (cE fS 1 (.ptr 1 0)) 4 (.p (.val (.int .i64 x)))))
     (λx=>(bh cq 1 (.box [.p (.aU (g.nodes.map encI)),.p (.aU (g.ak.map aZ))])))
     (λx=>x<=g.ak.length/\∀j,j<x->(!tJ g.nodes.length (g.ak.getD j default))=false) (λx=>g.ak.length-x) 0 ⟨zero_le _,λj hj=>absurd hj (not_lt_zero j)⟩ bU ?_
    rintro y ⟨hy,hq'⟩;simp only[go_sem,fk,bk];refine aL (λqE=>?_) (λqE=>?_)
    ·have hlt:y<g.ak.length:=by simpa using qE
     simp only[go_sem,fk,bk,getD_map aZ hlt,hlt,aZ];refine cZ [.q,.q,.q,.q,.q,.q,.q,.q,.q,.q] (by kernel_rfl) ?_;simp only[go_sem,fk,bk,getD_map aZ hlt,hlt,aZ];refine jG (atv (g.ak.getD y default) g.nodes.length) (by simp only[go_sem,fk,bk,getD_map aZ hlt,hlt,aZ]<;>rfl) (b7 rfl) ?_;simp only[go_sem,fk,bk,getD_map aZ hlt,hlt,aZ];refine aW (λh5=>?_) (λh5=>?_)<;>simp only[go_sem,fk,bk,getD_map aZ hlt,hlt,aZ]
     ·exact bO (y+1) ⟨hlt,uw (p:=λj=>!tJ g.nodes.length (g.ak.getD j default)) (λj hj=>by have:=hq' j hj;simpa using this) (by rw[h5];rfl)⟩ (by omega) (by rw[bw hlt (by omega)];exact bU)
     ·rw[if_pos (any_true (p:=λe=>!tJ g.nodes.length e) hlt (by rw[h5];rfl))]
    ·have aDq:g.ak.length<=y:=by simpa using qE
     rw[if_neg (by rw[any_false (p:=λe=>!tJ g.nodes.length e) λj hj=>hq' j (by omega)];decide)];simp only[go_sem,fk,bk]
structure aDr(h:Host):Prop where
 graph:axY h.graph
 values:h.values.length<=45
 row:∀l∈h.values,l.length<=12
structure tT(h:Host):Prop where
 graph:apa h.graph
 values:h.values.length<=1000
 row:∀l∈h.values,l.length<=1000
theorem aDr.xI{h:Host}(hh:aDr h):tT h:=⟨hh.graph.xI,by have:=hh.values;omega,λl hl=>by have:=hh.row l hl;omega⟩
def mc(t:Types)(kind:Nat)(values:List Int)(k:Nat):Int:=if values.getD k default<((bg t kind).getD k default).low\/((bg t kind).getD k default).high<values.getD k default then 6 else 0
def kZ(t:Types)(kind:Int)(values:List Int):Int :=
 if (t.nodes.length:Int)<=kind then 6
 else if (t.nodes.getD kind.toNat default).abs=true then 13
 else if values.length≠(bg t kind.toNat).length then 20
 else oo (mc t kind.toNat values) 0 values.length
def rG(t:Types)(h:Host)(i:Nat):Int :=
 if (t.ak.length:Int)<=(h.graph.ak.getD i default).type then 6
 else if qf t (h.graph.ak.getD i default).type (h.graph.nodes.getD (h.graph.ak.getD i default).src.toNat default) (h.graph.nodes.getD (h.graph.ak.getD i default).dst.toNat default)=true then 0 else 13
def jY(t:Types)(h:Host):Int×Int :=
 if (gH t).2≠0 then (-1,(gH t).2)
 else if o8 h.graph≠0 then (-1,o8 h.graph)
 else if h.values.length≠h.graph.nodes.length then (-1,20)
 else match kC (λi=>kZ t (h.graph.nodes.getD i default) (h.values.getD i default)) 0 h.graph.nodes.length with
  |some k=>((k:Int),kZ t (h.graph.nodes.getD k default) (h.values.getD k default))
  |none=>match kC (rG t h) 0 h.graph.ak.length with
   |some k=>((k:Int),rG t h k)
   |none=>(-1,0)
theorem ax0(t:Types)(ht:OkT t)(kind:Int)(hk:0<=kind)(values:List Int)(hv:values.length<=1000):aS pw 135 [aH t,.val (.int .i64 kind),.aU (values.map encI)] (λr=>r = .val (.int .i64 (kZ t kind values))):=by
 obtain⟨k,rfl⟩:∃k:Nat,kind=k:=⟨_,(toNat_of_nonneg hk).symm⟩;refine aR [] func135 ntmps135 results135 ?_;simp only[go_sem,aH];refine aL (λh1=>?_) (λh1=>?_)<;>simp only[go_sem,aH]
 ·have ur:=ct h1;unfold kZ;rw[if_pos (by omega)]
 ·have ur:=dV h1;have rj:k<t.nodes.length:=by omega
  have hlen:=mQ ht.xJ rj (ht.par' rj);have e0:kZ t k values=if (t.nodes.getD k default).abs=true then 13 else if values.length≠(bg t k).length then 20 else oo (mc t k values) 0 values.length:=by unfold kZ;rw[if_neg (by omega),toNat_natCast]
  rw[e0];clear e0;simp only[go_sem,aH,getD_map aJ rj,rj,aJ];refine aL (λh2=>?_) (λh2=>?_)<;>simp only[go_sem,aH,getD_map aJ rj,rj,aJ]
  ·rw[if_pos h2]
  ·rw[if_neg (by rw[h2];decide)];refine aX (ah2 t ht k rj) (by simp only[go_sem,aH,getD_map aJ rj,rj,aJ]<;>rfl) (wW) ?_;simp only[go_sem,aH,getD_map aJ rj,rj,aJ];refine aW (λh3=>?_) (λh3=>?_)<;>simp only[go_sem,aH,getD_map aJ rj,rj,aJ]
   ·have h3':=ct h3;have hvl:values.length=(bg t k).length:=by omega
    rw[if_neg (by omega)];refine bM (σ:=Nat) (λx=>(cE (cE (cE (cE fS 2 (.p (.aU (values.map encI)))) 33 (.p (.aU ((bg t k).map aV)))) 34 (.p (.val (.int .i64 (bg t k).length)))) 35 (.p (.val (.int .i64 x))))) (λx=>cq)
     (λx=>x<=values.length/\∀j,j<x->mc t k values j=0) (λx=>values.length-x) 0 ⟨zero_le _,λj hj=>absurd hj (not_lt_zero j)⟩ bU ?_
    rintro x ⟨hx,hq⟩;simp only[go_sem,aH,getD_map aJ rj,rj,aJ];refine aL (λhc=>?_) (λhc=>?_)
    ·have hlt:x<(bg t k).length:=by simpa using hc
     have kD:x<values.length:=by omega
     simp only[go_sem,aH,getD_map aJ rj,rj,aJ,getD_map aV hlt,hlt,aV,cV,getD_map encI kD,kD,encI];refine cZ [.q,.q,.q,.q,.q,.q,.q,.q,.q,.q,.q,.q,.q,.q,.q,.q] (by kernel_rfl) ?_;simp only[go_sem,aH,getD_map aJ rj,rj,aJ,getD_map aV hlt,hlt,aV,cV,getD_map encI kD,kD,encI];have bad:∀p:Prop,mc t k values x=6->p=p->(6:Int)=oo (mc t k values) 0 values.length:=λp e _=>by rw[rU kD hq (by rw[e];decide),e]
     refine pK (λh4=>?_) (λh4=>?_)<;>simp only[go_sem,h4,aH,getD_map aJ rj,rj,aJ,getD_map aV hlt,hlt,aV,cV,getD_map encI kD,kD,encI]
     ·have zi:=ct h4;exact bad True (by unfold mc;rw[if_pos (.inl zi)]) rfl
     ·have zi:=dV h4;refine aL (λh5=>?_) (λh5=>?_)<;>simp only[go_sem,h5,aH,getD_map aJ rj,rj,aJ,getD_map aV hlt,hlt,aV,cV,getD_map encI kD,kD,encI]
      ·have h5':=ct h5;exact bad True (by unfold mc;rw[if_pos (.inr h5')]) rfl
      ·have h5':=dV h5;have e:mc t k values x=0:=by unfold mc;rw[if_neg (by omega)]
       exact bO (x+1) ⟨kD,all_succ hq e⟩ (by omega) (by rw[bw kD (by omega)];exact bU)
    ·have hge:(bg t k).length<=x:=by simpa using hc
     simp only[go_sem,aH,getD_map aJ rj,rj,aJ];rw[tS λj hj=>hq j (by omega)]
   ·have h3':=dV h3;rw[if_pos (by omega)]
theorem atw(t:Types)(ht:OkT t)(kind:Int)(hk:0<=kind)(values:List Int)(hv:values.length<=1000):aS pw 110 [aH t,.val (.int .i64 kind),.aU (values.map encI)] (λr=>r = .val (.int .i64 (kZ t kind values))):=by
 obtain⟨k,rfl⟩:∃k:Nat,kind=k:=⟨_,(toNat_of_nonneg hk).symm⟩;refine aR [] func110 ntmps110 results110 ?_;simp only[go_sem,aH];refine aL (λh1=>?_) (λh1=>?_)<;>simp only[go_sem,aH]
 ·have ur:=ct h1;unfold kZ;rw[if_pos (by omega)]
 ·have ur:=dV h1;have rj:k<t.nodes.length:=by omega
  have hlen:=mQ ht.xJ rj (ht.par' rj);have e0:kZ t k values=if (t.nodes.getD k default).abs=true then 13 else if values.length≠(bg t k).length then 20 else oo (mc t k values) 0 values.length:=by unfold kZ;rw[if_neg (by omega),toNat_natCast]
  rw[e0];clear e0;simp only[go_sem,aH,getD_map aJ rj,rj,aJ];refine aL (λh2=>?_) (λh2=>?_)<;>simp only[go_sem,aH,getD_map aJ rj,rj,aJ]
  ·rw[if_pos h2]
  ·rw[if_neg (by rw[h2];decide)];refine aX (afR t ht k rj) (by simp only[go_sem,aH,getD_map aJ rj,rj,aJ]<;>rfl) (wW) ?_;simp only[go_sem,aH,getD_map aJ rj,rj,aJ];refine aW (λh3=>?_) (λh3=>?_)<;>simp only[go_sem,aH,getD_map aJ rj,rj,aJ]
   ·have h3':=ct h3;have hvl:values.length=(bg t k).length:=by omega
    rw[if_neg (by omega)];refine bM (σ:=Nat) (λx=>(cE (cE (cE fS 2 (.p (.aU (values.map encI)))) 7 (.p (.aU ((bg t k).map aV)))) 9 (.p (.val (.int .i64 x))))) (λx=>cq)
     (λx=>x<=values.length/\∀j,j<x->mc t k values j=0) (λx=>values.length-x) 0 ⟨zero_le _,λj hj=>absurd hj (not_lt_zero j)⟩ bU ?_
    rintro x ⟨hx,hq⟩;simp only[go_sem,aH,getD_map aJ rj,rj,aJ];refine aL (λhc=>?_) (λhc=>?_)
    ·have hlt:x<(bg t k).length:=by simpa using hc
     have kD:x<values.length:=by omega
     simp only[go_sem,aH,getD_map aJ rj,rj,aJ,getD_map aV hlt,hlt,aV,cV,getD_map encI kD,kD,encI];refine cZ [.q,.q,.q,.q,.q,.q,.q,.q,.q,.q,.q,.q,.q,.q,.q,.q,.q,.q,.q,.q,.q,.q] (by kernel_rfl) ?_;simp only[go_sem,aH,getD_map aJ rj,rj,aJ,getD_map aV hlt,hlt,aV,cV,getD_map encI kD,kD,encI];have bad:∀p:Prop,mc t k values x=6->p=p->(6:Int)=oo (mc t k values) 0 values.length:=λp e _=>by rw[rU kD hq (by rw[e];decide),e]
     refine pK (λh4=>?_) (λh4=>?_)<;>simp only[go_sem,h4,aH,getD_map aJ rj,rj,aJ,getD_map aV hlt,hlt,aV,cV,getD_map encI kD,kD,encI]
     ·have zi:=ct h4;exact bad True (by unfold mc;rw[if_pos (.inl zi)]) rfl
     ·have zi:=dV h4;refine aL (λh5=>?_) (λh5=>?_)<;>simp only[go_sem,h5,aH,getD_map aJ rj,rj,aJ,getD_map aV hlt,hlt,aV,cV,getD_map encI kD,kD,encI]
      ·have h5':=ct h5;exact bad True (by unfold mc;rw[if_pos (.inr h5')]) rfl
      ·have h5':=dV h5;have e:mc t k values x=0:=by unfold mc;rw[if_neg (by omega)]
       exact bO (x+1) ⟨kD,all_succ hq e⟩ (by omega) (by rw[bw kD (by omega)];exact bU)
    ·have hge:(bg t k).length<=x:=by simpa using hc
     simp only[go_sem,aH,getD_map aJ rj,rj,aJ];rw[tS λj hj=>hq j (by omega)]
   ·have h3':=dV h3;rw[if_pos (by omega)]
end Go.Proofs.YtjhkgjlmiolfoaaGreat
