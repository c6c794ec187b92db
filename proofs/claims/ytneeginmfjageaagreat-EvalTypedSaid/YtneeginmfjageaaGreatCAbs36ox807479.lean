/-
  The step of the walk with questions in which the asker says how a number or a list is to be written. Conditions: none; lemmas over any program.
-/
import Derived.Test.YtneeginmfjageaaGreatCAbs24ox9d520f
set_option linter.all false
namespace Go.Proofs.YtneeginmfjageaaGreat
namespace Abs
section
open Go
def ArK v(K:Int->Prop):=∃n,n=v/\K n
def EsK v(K:List (List AV)->Prop):=∃e,e=v/\K e
theorem ArK.out{v K}(h:ArK v K):K v:=by obtain⟨n,rfl,h⟩:=h;exact h
theorem EsK.out{v K}(h:EsK v K):K v:=by obtain⟨n,rfl,h⟩:=h;exact h
def aHk(s:List UInt8)(n:Int)(K:AV->Prop):=∃x:Int,(0<=n/\n<s.length)/\x=(s.getD n.toNat 0).toNat/\K (.int .u8 x)
def aIh a b(K:AV->Prop):=∃r,a.length+b.length<=9223372036854775807/\r=a++b/\K (.str r)
def aGx(s:List UInt8)lo hi(K:AV->Prop):=∃r,(∃l h,dQ hi s.length s.length=some h/\dQ lo 0 h=some l/\r=(s.drop l).take (h - l))/\K (.str r)
def aGq(es:List (List AV))sz lo hi(K:AV->Prop):=∃r,(∃l h,dQ hi es.length es.length=some h/\dQ lo 0 h=some l/\(l<es.length->(es.getD l []).length=sz)/\r=(es.drop l).take (h - l))/\K (.slice r .shared)
def aER(n:List (List AV))neg(K:AV->Prop):=∃b:Bool,b=n.isEmpty/\K (.bool (neg !=b))
def aGY ns(K:AV->Prop):=∃s r c,ns=s::r/\c=s++[.flist r]/\K (.eptr c)
def aAe(τ:Nat->TI)(op:BinOp)(t:TypeId)(x y:AV)(K:AV->Prop):=
 match op,x,y with| .add,.str a,.str b=>aIh a b K| .eql,.flist s,.nilp=>iE (τ t).isPtr (aER s false K) False| .neq,.flist s,.nilp=>iE (τ t).isPtr (aER s true K) False| .add,.int k a,.int c b=>iE (decide (k=c)) (ArK (k.wrap (a+b)) λn=>K (.int k n)) False| .sub,.int k a,.int c b=>iE (decide (k=c)) (ArK (k.wrap (a - b)) λn=>K (.int k n)) False| .mul,.int k a,.int c b=>iE (decide (k=c)) (ArK (k.wrap (a*b)) λn=>K (.int k n)) False|op,x,y=>gY (aar τ op t x y) K
def az8(K:AV->Prop)(isStr:Bool)(slT:Option Nat):AV->Prop| .str s=>iE isStr (K (.int .i64 s.length)) False| .slice e _=>gY slT λ_=>ArK e.length λn=>K (.int .i64 n)| .psl _ _ n=>gY slT λ_=>K (.int .i64 n)|_=>False
def aw5(σ:Nat->AObj)(k sz b:Nat)(d:Option Tmp)(K:List Nat->List Wr->Prop)(es ys:List (List AV)):Tag->Prop
 | .nils=>match es with
  |[]=>iE (bS (σ k)) (aAZ ys sz b (EsK ys λes=>∃n,n=ys.length*sz/\K [k] (.obj k (.tip n)::au d (.slice es (.tip k sz))))) False|_=>False
 | .tip l z=>match σ l with| .tip n=>iE (bS (σ k)&&z==sz) (aAO n es ys sz b (EsK (es++ys) λr=>∃n,n=(es++ys).length*sz/\K [l,k] (.obj l .dead:: .obj k (.tip n)::au d (.slice r (.tip k sz))))) False|_=>False
 | .shared=>False
def aIL(n:Nat)(es ys:List (List AV))(sz bytes)(K:List (List AV)->Nat->Prop):=
 (n<=es.length/\(n+ys.length)*bytes<=140737488355328/\n+ys.length<=140737488355328/\(es.all (bX sz)=true)/\(ys.all (bX sz)=true))/\∃r m,r=es.take n++ys/\m=r.length/\K r m
def axP(σ:Nat->AObj)(l k z n sz b:Nat)(d:Option Tmp)(K:List Nat->List Wr->Prop)(ys:List (List AV)):AObj->Prop| .arr a e=>iE (bS (σ k)&&(z==sz&&a==sz)) (aIL n e ys sz b λr m=>K [l,k] (.obj l .dead:: .obj k (.arr sz r)::au d (.psl k sz m))) False|_=>False
def aAy(σ:Nat->AObj)(k sz b:Nat)(d:Option Tmp)(K:List Nat->List Wr->Prop):AV->AV->Prop| .slice e t,.slice y _=>aw5 σ k sz b d K e y t| .psl l z n,.slice y _=>axP σ l k z n sz b d K y (σ l)|_,_=>False
def aAn(isStr:Bool)(slT:Option Nat)(lo hi:Option AV)(K:AV->Prop):AV->Prop
 | .str s=>iE isStr (aGx s lo hi K) False| .slice e _=>gY slT λsz=>aGq e sz lo hi K| .psl l z n=>gY slT λ_=>match lo with|none=>∃m,dQ hi n n=some m/\K (.psl l z m)|some _=>False
 |_=>False
def Tc:Nat->List (Nat×Operand)->Bool|_,[]=>true|i,p::s=>Nat.beq p.1 i&&Tc (i+1) s
def aAx(ρ:Operand->AV)(sz:Nat):List (Nat×Operand)->(List (List AV)->Prop)->Prop|[],K=>K []|p::s,K=>gY (dS (ρ p.2)) λcs=>iE (Nat.beq cs.length sz) (fL (cs.map shr) λcs=>aAx ρ sz s λes=>K (cs::es)) False
theorem azQ{ρ}{sz}:∀ps K,aAx ρ sz ps K->∃css:List (List AV),css.length=ps.length/\(∀c∈css,c.length=sz)/\(∀j:Nat,j<ps.length->∃p,ps[j]? =some p/\dS (ρ p.2)=css[j]?)/\K (css.map λc=>c.map shr):=by
 intro ps
 induction ps with|nil=>intro K h;exact⟨[],rfl,by simp,λj b=>by simp at b,h⟩|cons p ps i=>
  intro K h;obtain⟨s,f,d⟩:=bP h;rcases bE d with⟨k,a⟩|⟨_,a⟩
  ·rw[vK]at a;obtain⟨css,g,l,m,e⟩:=i _ a;refine⟨s::css,by simp[g],?_,?_,e⟩
   ·simp_all
   grind
  grind
theorem adu{sz}:∀{css:List (List AV)},(∀c∈css,c.length=sz)->css.flatten.length=css.length*sz
 |[],_=>by simp|c::css,h=>by
  simp only[qCn,qAf];rw[h c (by simp),adu (λc a=>h c (by simp[a]))]
  grind
theorem adR{ρ:Operand->AV}{sz}:∀ps i (css:List (List AV)) e,Tc i ps=true->css.length=ps.length->(∀c∈css,c.length=sz)->(∀j:Nat,j<ps.length->∃p,ps[j]? =some p/\dS (ρ p.2)=css[j]?)->(i+ps.length)*sz<=e.length->
  kg (λi=>some (i*sz,sz)) e (ps.map λp=>(p.1,ρ p.2))=some (e.take (i*sz)++css.flatten++e.drop ((i+ps.length)*sz)):=by
 intro ps
 induction ps with|nil=>intro i css e _ a _ _ _;have:css=[]:=qAI.1 a;subst this;simp[kg]|cons p ps r=>
  intro i css e b a z n l;simp only[Tc,qAb]at b;obtain⟨g,k⟩:=b;have s:p.1=i:=qAj g;cases css with|nil=>simp at a|cons c css=>
   obtain⟨q,d,f⟩:=n 0 (by simp);simp only[qAF,Option.some.injEq]at d f;subst d;have h:c.length=sz:=z c (by simp);simp only[qAo]at l a;have o:(i+(ps.length+1))*sz=i*sz+(ps.length*sz+sz):=by rw[qAV,qAV,qCk]
   rw[o]at l;simp only[qAz,kg,s,f];rw[if_pos ⟨h,by omega⟩];rw[r (i+1) css _ k (by omega) (λc b=>z c (by simp[b])) (λj t=>by
    obtain⟨q,d,f⟩:=n (j+1) (by simpa using t);exact⟨q,by simpa using d,by simpa using f⟩) (by simp only[qAf,qAB,qCG,h];rw[show(i+1+ps.length)*sz=i*sz+sz+ps.length*sz by rw[qAV,qAV,qCk]];omega)]
   congr 1;have u:(e.take (i*sz)++c++e.drop (i*sz+sz)).take ((i+1)*sz)=e.take (i*sz)++c:=by rw[List.take_append_of_le_length (by simp[h];rw[qAV];omega)];apply qCl;simp[h];rw[qAV];omega
   have v:(e.take (i*sz)++c++e.drop (i*sz+sz)).drop ((i+1+ps.length)*sz)=e.drop ((i+(ps.length+1))*sz):=by
    have m:(e.take (i*sz)++c).length=i*sz+sz:=by simp[h];omega
    rw[show(i+1+ps.length)*sz=(e.take (i*sz)++c).length+ps.length*sz by rw[m,qAV,qAV,qCk]];rw[<-List.drop_drop,qDb,List.drop_drop,o];congr 1;omega
   rw[u];simp only[qAo];rw[v];simp[qAm]
theorem chunks_flatten{sz}:∀{css:List (List AV)},(∀c∈css,c.length=sz)->chunks sz css.length css.flatten=css|[],_=>rfl|c::css,h=>by have a:c.length=sz:=h c (by simp);simp only[qAo,chunks,qCn];rw[List.take_left' a,qDB a,chunks_flatten (λc a=>h c (by simp[a]))]
def az1(ρ:Operand->AV):List (Nat×Operand)->List AV->(List AV->Prop)->Prop|[],cells,K=>K cells|p::s,cells,K=>gY (dS (ρ p.2)) λcs=>match cs with|[c]=>iE (Nat.blt p.1 cells.length) (SC cells p.1 c λcells=>az1 ρ s cells K) False|_=>False
theorem Xi{α:Type}:∀(l:List α) i v,i<l.length->l.take i++[v]++l.drop (i+1)=l.set i v
 |[],_,_,h=>by simp at h|x::l,0,v,_=>by simp|x::l,i+1,v,h=>by
  have:=Xi l i v (by simpa using h)
  grind
theorem aBy{ρ}:∀ps e K,az1 ρ ps e K->∃s,kg (λi=>some (i*1,1)) e (ps.map λp=>(p.1,ρ p.2))=some s/\K s:=by
 intro ps
 induction ps with
 |nil=>intro e K h;exact⟨e,rfl,h⟩|cons p ps d=>
  intro e K h;obtain⟨s,f,b⟩:=bP h;split at b
  ·rename_i c;rcases bE b with⟨g,a⟩|⟨_,a⟩
   ·rw[JF]at a;obtain⟨r,j,k⟩:=d _ _ a;have l:p.1<e.length:=by simpa[Nat.blt,Nat.succ_le_iff]using g
    simp only[qAz,kg,f,Nat.mul_one];rw[if_pos ⟨rfl,by omega⟩,Xi _ _ _ l]
    grind
   grind
  grind
def aIm(es)k(v)(K:List (List UInt8×AV)->Prop):=∃r,es.length<140737488355328/\r=G5 es k v/\K r
def aEC es(K:AV->Prop):=∃b,wU es=some b/\K (.str b)
def ayj(ρ:Operand->AV)(ps:List (Nat×Operand))(z:Option (List AV))(K:AV->Prop):IxT->Prop| .arr _ (some s)=>iE (Nat.beq s 1) (gY z λz=>az1 ρ ps z λcs=>K (.agg cs)) False|_=>False
def aAr(K:AV->Prop):IxT->AV->AV->Prop| .arr e (some s),.ptr l o,.int _ n=>∃m:Nat,(0<=n/\n<e)/\m=o+n.toNat*s/\K (.ptr l m)| .sl (some s),.psl l z e,.int _ n=>∃m:Nat,(0<=n/\n<e/\z=s)/\m=n.toNat*s/\K (.ptr l m)|a,x,i=>apT K a x i
theorem aBs{K ix x i}(h:aAr K ix x i):apT K ix x i∨∃s l z e k n,ix=.sl (some s)/\x=.psl l z e/\i=.int k n/\(0<=n/\n<e/\z=s)/\K (.ptr l (n.toNat*s)):=by
 unfold aAr at h;split at h;·obtain⟨m,a,rfl,b⟩:=h;exact .inl ⟨a,b⟩
 ·grind
 grind
def aGA(τ:Nat->TI)t z off(es:List (List AV))K:=∃i c,off=i*z/\0<z/\es[i]? =some c/\gY (loadT τ t c) K
def aFg z off(es:List (List AV))vs(K:List (List AV)->Prop):=∃i r,off=i*z/\0<z/\i<es.length/\r=es.set i vs/\K r
def aFS z off(es:List (List AV))vs(K:List (List AV)->Prop):=∃i j c r,off=i*z+j/\j<z/\j+vs.length<=z/\es[i]? =some c/\r=es.set i (c.take j++vs++c.drop (j+vs.length))/\K r
def VP(τ:Nat->TI)(k:Nat)(d:Option Tmp)(ρ:Operand->AV)(σ:Nat->AObj)(K:List Nat->List Wr->Prop):Op->Prop
 | .binOp c t x y _=>aAe τ c t (ρ x) (ρ y) λv=>K [] (au d v)| .nilCheck x=>match ρ x with
  | .flist g=>aGY g λv=>K [] (au d v)|v=>gY (azH v) λv=>K [] (au d v)
 | .indexAddr t x i=>aAr (λv=>K [] (au d v)) (τ t).ix (ρ x) (ρ i)| .index t x i=>match ρ x,ρ i with
  | .str s,.int _ n=>iE (τ t).isStr (aHk s n λv=>K [] (au d v)) False|_,_=>False
 | .build t a=>iE (τ t).isStruct (gY (τ t).zero λz=>gY (kg (lk (τ t).place) z (a.toList.map λp=>(p.1,ρ p.2))) λcs=>K [] (au d (.agg cs))) (ayj ρ a.toList (τ t).zero (λv=>K [] (au d v)) (τ t).ix)| .convert s t x=>match ρ x with
  | .int _ n=>iE (τ s).int.isSome (gY (τ t).int λk=>K [] (au d (.int k (k.wrap n)))) False| .slice es _=>gY (τ s).elem λe=>iE (decide ((τ e.1).int=some .u8)&&(τ t).isStr) (aEC es λv=>K [] (au d v)) False|_=>False
 | .slice t x h j none=>aAn (τ t).isStr (τ t).slT (h.map ρ) (j.map ρ) (λv=>K [] (au d v)) (ρ x)| .buildSlice t b a=>gY (τ t).elem λe=>gY (τ e.1).zero λz=>iE (bS (σ k)&&(decide (b*e.2.1<=16777216)&&(decide (b<=16777216)&&decide (z.length=e.2.1))))
   (iE (Tc 0 a.toList&&Nat.beq a.toList.length b) (aAx ρ e.2.1 a.toList λes=>EsK es λes=>K [k] (.obj k (.tip (b*e.2.1))::au d (.slice es (.tip k e.2.1))))
    (gY (kg (λi=>some (i*e.2.1,e.2.1)) ((List.replicate b z).flatten) (a.toList.map λp=>(p.1,ρ p.2))) λcs=>EsK (chunks e.2.1 b (cs.map shr)) λes=>K [k] (.obj k (.tip (b*e.2.1))::au d (.slice es (.tip k e.2.1))))) False
 | .call {callee:=.builtin .len,args,argTypes}=>match args.toList,argTypes.toList with
  |[x],[t]=>az8 (λv=>K [] (au d v)) (τ t).isStr (τ t).slT (ρ x)|_,_=>False
 | .call {callee:=.builtin .append,args,argTypes}=>match args.toList,argTypes.toList with|[x,y],[t,q]=>gY (τ t).elem λe=>iE (τ q).isSl (aAy σ k e.2.1 e.2.2 d K (ρ x) (ρ y)) False|_,_=>False
 | .mapUpdate t m f x=>gY (τ t).smap λ_=>match ρ m,ρ f with
  | .mapr l,.str s=>match σ l with
   | .mp es=>aIm es s (sN (ρ x)) λr=>K [l] (.obj l (.mp r)::au d (.tup []))|_=>False
  |_,_=>False
 | .load t x=>match ρ x with
  | .eptr cs=>gY (loadT τ t cs) λv=>K [] (au d v)| .ptr l o=>match σ l with
   | .box cs=>gY (loadT τ t (cs.drop o)) λv=>K [l] (au d v)| .arr z es=>aGA τ t z o es λv=>K [l] (au d v)|_=>False
  |_=>False
 | .store t x y=>match ρ x with
  | .ptr l o=>gY (dS (ρ y)) λvs=>match σ l with
   | .box cs=>iE (decide ((τ t).size=some vs.length/\o+vs.length<=cs.length)&&vs.all isScalar) (K [l] (.obj l (.box (cs.take o++vs++cs.drop (o+vs.length)))::au d (.tup []))) False| .arr z es=>iE (decide ((τ t).size=some vs.length/\vs.length=z)&&vs.all isScalar) (aFg z o es vs λr=>K [l] (.obj l (.arr z r)::au d (.tup [])))
     (iE (decide ((τ t).size=some vs.length)&&vs.all isScalar) (aFS z o es vs λr=>K [l] (.obj l (.arr z r)::au d (.tup []))) False)
   |_=>False
  |_=>False
 |c=>stepT τ k d ρ σ K c
theorem azS{τ op t x y K}(h:aAe τ op t x y K):Sc τ op t x y K:=by
 unfold aAe at h;split at h;·obtain⟨r,a,rfl,c⟩:=h;exact⟨a,c⟩
 ·rcases bE h with⟨e,b,rfl,g⟩|⟨_,g⟩
  ·simp only[Sc,aar,e,KL,gY];simpa using g
  grind
 ·rcases bE h with⟨e,b,rfl,g⟩|⟨_,g⟩
  ·simp only[Sc,aar,e,KL,gY];simpa using g
  grind
 ·rcases bE h with⟨e,g⟩|⟨_,g⟩
  ·simp at e;subst e;simp only[Sc,aar];exact g.out
  grind
 ·rcases bE h with⟨e,g⟩|⟨_,g⟩
  ·simp at e;subst e;simp only[Sc,aar];exact g.out
  grind
 ·rcases bE h with⟨e,g⟩|⟨_,g⟩
  ·simp at e;subst e;simp only[Sc,aar];exact g.out
  grind
 rename_i n _ _ d f i;unfold Sc
 grind
theorem VH{b A a B c}(h:iE b A B)(d:A->a)(h2:B->c):iE b a c:=by cases b;exact h2 h;exact d h
theorem Pt{α}{r}{K k:α->Prop}(h:gY r K)(a:∀x,K x->k x):gY r k:=by cases r with|none=>exact h|some x=>exact a x h
theorem aAz{K isStr slT v}(h:az8 K isStr slT v):gY (aAp isStr slT v) K:=by
 unfold az8 at h;split at h
 ·rcases bE h with⟨e,g⟩|⟨_,g⟩
  ·subst e;exact g
  grind
 ·obtain⟨x,e,g⟩:=bP h;subst e;exact g.out
 ·obtain⟨x,e,g⟩:=bP h;subst e;exact g
 grind
theorem aBq{σ k sz b d K x y}(h:aAy σ k sz b d K x y):avM σ k sz b d K x y∨
  ∃l n a s t,x=.psl l sz n/\y=.slice s t/\σ l=.arr sz a/\bS (σ k)=true/\n<=a.length/\(n+s.length)*b<=140737488355328/\n+s.length<=140737488355328/\a.all (bX sz)=true/\s.all (bX sz)=true/\
   K [l,k] (.obj l .dead:: .obj k (.arr sz (a.take n++s))::au d (.psl k sz (a.take n++s).length)):=by
 unfold aAy at h;split at h
 ·refine .inl ?_;unfold aw5 at h;split at h
  ·split at h
   ·refine VH h (λg=>?_) id;obtain⟨c,f⟩:=g;obtain⟨n,e,g⟩:=f.out;subst e;exact⟨c,g⟩
   grind
  ·split at h
   ·rename_i i;simp only[avM,i];refine VH h (λg=>?_) id;obtain⟨c,f⟩:=g;obtain⟨n,e,g⟩:=f.out;subst e;exact⟨c,g⟩
   grind
  grind
 ·rename_i l z n s t;unfold axP at h;split at h
  ·rename_i j a o;rcases bE h with⟨p,⟨q,u,v,w,A⟩,r,m,rfl,rfl,g⟩|⟨_,g⟩
   ·grind
   grind
  grind
 grind
theorem azU{isStr slT lo hi K v}(h:aAn isStr slT lo hi K v):cutV isStr slT lo hi K v∨∃l z n m s,v=.psl l z n/\lo=none/\slT=some s/\dQ hi n n=some m/\K (.psl l z m):=by
 unfold aAn at h;split at h;·refine .inl (VH h (λg=>?_) id);obtain⟨r,⟨l,a,b,c,rfl⟩,d⟩:=g;exact⟨l,a,b,c,d⟩
 ·refine .inl (Pt h λsz g=>?_);obtain⟨r,⟨l,a,b,c,f,rfl⟩,d⟩:=g;exact⟨l,a,b,c,f,d⟩
 ·rename_i l z n;obtain⟨s,e,g⟩:=bP h
  grind
 grind
theorem akb{P}{e:Nat}{k}(h:(TI.of P e).int=some k):P.underlying e=some (.int k):=by
 have:intTy P e=some k:=h;unfold intTy at this
 grind
theorem aCH{P}{t:Nat}(h:(TI.of P t).isStr=true):P.underlying t=some .string:=by
 have:aB.isStrT P t=true:=h;unfold aB.isStrT at this
 grind
theorem aAw{P}{t:Nat}{e}(h:(TI.of P t).elem=some e):P.underlying t=some (.slice e.1):=by
 have:lV P t=some e:=h;unfold lV at this;split at this;·rename_i a u;cases b:P.info? a with|none=>rw[b]at this;cases this|some i=>grind
 cases this
theorem avB{P}{s t:Nat}{x ρ es g b e}(d:ρ x=.slice es g)(f:(TI.of P s).elem=some e)(h2:(TI.of P e.1).int=some .u8)(i:(TI.of P t).isStr=true)(j:wU es=some b):aB P (.convert s t x) ρ=some (.str b):=by
 have a:=aAw f;have k:=akb h2;have c:=aCH i;have l:aB.convT P s t=none:=by unfold aB.convT;rw[a,c]
 have h:aai P s t=true:=by unfold aai;rw[a,c];simp only[k]
 simp only[aB,d,l,h,if_true,j,qAx]
theorem aah{P:Program}{k:Nat}{o:Oper}{ρ:Operand→AV}{σ:Nat→AObj}{K:List Nat→List Wr→Prop}(h:VP (TI.of P) k o.dst ρ σ K o.op):(∃rd ws,aJ P k o ρ σ=some (rd,ws)∧K rd ws):=by
 obtain⟨dst,op,ty,pos,after,guard⟩:=o;dsimp only at h
 suffices hh:stepT (TI.of P) k dst ρ σ K op∨(∃v,aB P op ρ=some v∧K [] (au dst v))∨(∃rd ws,aJ P k ⟨dst,op,ty,pos,after,guard⟩ ρ σ=some (rd,ws)∧K rd ws) by
  rcases hh with hh|⟨v,h1,h2⟩|hh
  ·exact adj (o:=⟨dst,op,ty,pos,after,guard⟩) hh
  ·exact fU (o:=⟨dst,op,ty,pos,after,guard⟩) h1 h2
  ·exact hh
 unfold VP at h;split at h
 ·refine .inl ?_;exact azS h
 ·refine .inl ?_;simp only[stepT];split at h
  ·rename_i ns hx;obtain⟨cs,r,cells,rfl,rfl,g⟩:=h;rw[hx];exact g
  ·exact h
 ·rename_i t x i;rcases aBs h with g|⟨sz,l,z,len,kk,n,g1,g2,g3,g4,g5⟩
  ·exact .inl g
  ·refine .inr (.inl ⟨.ptr l (n.toNat*sz),?_,g5⟩);have hix:Pv P t=.sl (some sz):=g1;unfold Pv at hix;split at hix
   ·rename_i e hu;simp only[IxT.sl.injEq]at hix;simp only[aB,g3,hu,g2,hix];rw[if_pos g4]
   ·cases hix
   ·cases hix
 ·refine .inl ?_;simp only[stepT];split at h
  ·rename_i h1 h2;simp only[h1,h2];refine VH h (fun g=>?_) id;obtain⟨x,g1,rfl,g2⟩:=g;exact⟨g1,g2⟩
  ·exact h.elim
 ·rename_i t parts;by_cases hst:(TI.of P t).isStruct=true
  ·refine .inl ?_;simp only[stepT];rw[hst]at h⊢;exact h
  ·refine .inr (.inl ?_);have hst':(TI.of P t).isStruct=false:=by simpa using hst
   rw[hst']at h;simp only[iE]at h;have hs2:xV P t=false:=hst';unfold ayj at h;split at h
   ·rename_i len sz hix;rcases bE h with⟨e1,g⟩|⟨_,g⟩
    ·have hsz:sz=1:=qAj e1;subst hsz;obtain⟨z,hz,g2⟩:=bP g;obtain⟨cs,g3,g4⟩:=aBy _ _ _ g2;have hz':kr P t=some z:=hz;have ha:aeF P t=some 1:=by
      have hix':Pv P t=.arr len (some 1):=hix;unfold Pv at hix';unfold aeF;split at hix'
      ·cases hix'
      ·rename_i n e hu;simp only[IxT.arr.injEq]at hix';rw[hu];exact hix'.2
      ·cases hix'
     exact⟨.agg cs,by simp only[aB,hs2,qBN,if_false,ha,hz',g3,qAx],g4⟩
    ·exact g.elim
   ·exact h.elim
 ·split at h
  ·rename_i n hx;refine .inl ?_;simp only[stepT,hx];exact h
  ·rename_i es tg hx;refine .inr (.inl ?_);obtain⟨e,h1,h2⟩:=bP h;rcases bE h2 with⟨h3,bs,h4,h5⟩|⟨_,g⟩
   ·simp only[qAb,decide_eq_true_eq]at h3;exact⟨.str bs,avB hx h1 h3.1 h3.2 h4,h5⟩
   ·exact g.elim
  ·exact h.elim
 ·rename_i t x lo hi;rcases azU h with g|⟨l,z,n,m,sz,g1,g2,g3,g4,g5⟩
  ·exact .inl g
  ·refine .inr (.inl ⟨.psl l z m,?_,g5⟩);have hsl:aB.sliceT P t=some sz:=g3;cases lo with
   |some y=>cases g2
   |none=>simp only[aB,g1,hsl,g4]
 ·refine .inl ?_;rename_i t len parts;refine Pt h fun e g=>Pt g fun z g=>?_;rcases bE g with⟨hb,g⟩|⟨_,g⟩
  ·rw[hb];simp only[qAb,decide_eq_true_eq]at hb;obtain⟨_,_,_,hz⟩:=hb;rcases bE g with⟨hc,g⟩|⟨_,g⟩
   ·simp only[qAb]at hc;obtain⟨hc1,hc2⟩:=hc;have hlen:=qAj hc2;obtain⟨css,g1,g2,g3,g4⟩:=azQ _ _ g;have hrl:((List.replicate len z).flatten).length=len*e.2.1:=by
     rw[adu (sz:=e.2.1) (fun c hc=>by rw[List.mem_replicate]at hc;rw[hc.2];exact hz)];simp
    have hf:=adR (ρ:=ρ) (sz:=e.2.1) parts.toList 0 css ((List.replicate len z).flatten) hc1 g1 g2 g3 (by rw[hrl,hlen];simp);simp only[iE];rw[hf];have e1:((List.replicate len z).flatten).drop ((0+parts.toList.length)*e.2.1)=[]:=by
     apply List.drop_eq_nil_of_le;rw[hrl,hlen];simp
    rw[e1];simp only[qDv,qAT,qAs,qAt,gY];have e2:chunks e.2.1 len (css.flatten.map shr)=css.map fun c=>c.map shr:=by
     rw[←hlen,←g1,List.map_flatten];have:=chunks_flatten (sz:=e.2.1) (css:=css.map (List.map shr)) (fun c hc=>by
      obtain⟨c',hc',rfl⟩:=qAA.1 hc;rw[qAg];exact g2 c' hc')
     rw[qAg]at this;exact this
    rw[e2];exact g4.out
   ·exact Pt g fun cs g=>g.out
  ·exact g.elim
 ·refine .inl ?_;simp only[stepT];split at h
  ·rename_i h1 h2;simp only[h1,h2];exact aAz h
  ·exact h.elim
 ·rename_i args argTypes;split at h
  ·rename_i x y t t2 h1 h2;obtain⟨e,he,h3⟩:=bP h;rcases bE h3 with⟨h4,h5⟩|⟨_,g⟩
   ·rcases aBq h5 with g|⟨l,n,es,ys,tg,g1,g2,g3,g4,g5,g6,g7,g8,g9,g10⟩
    ·refine .inl ?_;simp only[stepT,h1,h2,he,gY,h4,iE];exact g
    ·refine .inr (.inr ⟨_,_,?_,g10⟩);obtain⟨e1,e2,e3⟩:=e;have he':lV P t=some (e1,e2,e3):=he;have h4':aJ.isSliceT P t2=true:=h4;simp only[aJ,aB,h1,h2,he',h4',g1,g2,g3];rw[if_pos (by refine⟨g4,?_,?_,g5,g6,g7,g8,g9⟩<;>trivial)]
   ·exact g.elim
  ·exact h.elim
 ·refine .inl ?_;simp only[stepT];refine Pt h fun e g=>?_;split at g
  ·rename_i h1 h2;simp only[h1,h2];split at g
   ·rename_i h3;simp only[h3];obtain⟨r,g1,rfl,g2⟩:=g;exact⟨g1,g2⟩
   ·exact g.elim
  ·exact g.elim
 ·rename_i t x;split at h
  ·rename_i cs hx;refine .inl ?_;simp only[stepT,hx];exact h
  ·rename_i l off hx;split at h
   ·rename_i cs hl;refine .inl ?_;simp only[stepT,hx,hl];exact h
   ·rename_i z es hl;refine .inr (.inr ?_);obtain⟨i,cs,rfl,hz,hi,g⟩:=h;obtain⟨v,g1,g2⟩:=bP g;rw[aeI]at g1;have hlt:=(qAy.1 hi).1;refine⟨[l],au dst v,?_,g2⟩;rw[aty];simp only[aol,hx,hl];rw[qDe _ hz,if_pos ⟨rfl,hlt⟩];have e:es.getD i []=cs:=by simp[List.getD,hi]
    rw[e,g1];rfl
   ·exact h.elim
  ·exact h.elim
 ·rename_i t x y;split at h
  ·rename_i l off hx;obtain⟨vs,g1,g2⟩:=bP h;split at g2
   ·rename_i cs hl;refine .inl ?_;simp only[stepT,hx,g1,hl,gY];exact g2
   ·rename_i z es hl;refine .inr (.inr ?_);rcases bE g2 with⟨g3,g4⟩|⟨hne,g⟩
    ·simp only[qAb,decide_eq_true_eq]at g3;obtain⟨i,r,rfl,hz,hi,rfl,g5⟩:=g4;have g3':sizeT P t=some vs.length:=g3.1.1;refine⟨_,_,?_,g5⟩;rw[ae1];simp only[aiz,hx,g1,hl];rw[qDe _ hz,if_pos ⟨g3',g3.1.2,rfl,hi,g3.2⟩]
    ·rcases bE g with⟨g3,g4⟩|⟨_,g⟩
     ·simp only[qAb,decide_eq_true_eq]at g3;obtain⟨i,j,cs,r,rfl,hj,hjz,hc,rfl,g5⟩:=g4;have g3':sizeT P t=some vs.length:=g3.1;have hi:i<es.length:=(qAy.1 hc).1;have hd:(i*z+j)/z=i:=by rw[qBB,qDA (by omega),qDu hj,qAP]
      have hmd:(i*z+j)%z=j:=by rw[qBB,qCS,qCe hj]
      have hg:es.getD i []=cs:=by simp[List.getD,hc]
      refine⟨_,_,?_,g5⟩;rw[ae1];simp only[aiz,hx,g1,hl];rw[hd,hmd,hg,if_neg,if_pos ⟨g3',by omega,hi,hjz,g3.2⟩];rintro⟨q1,q2,_⟩;have hne':((decide ((TI.of P t).size=some vs.length∧vs.length=z))&&vs.all isScalar)=true:=by
       rw[g3.2,qBE];exact decide_eq_true ⟨q1,q2⟩
      rw[hne']at hne;cases hne
     ·exact g.elim
   ·exact g2.elim
  ·exact h.elim
 grind
structure ACallU(P:Program)(f:Nat)(args:List AV)(dst:Option Tmp)(t:List AV)(h:List AObj)(k:Nat)(K:Nat→List Nat→List Wr→Prop):Prop where
 out:aat P f args dst t h k K
def Vq(P:Program)(τ:Nat->TI)(ops:List Oper):List Oper->Nat->List Eff->List AV->List AObj->(List Eff->List AV->List AObj->Prop)->Prop
 |[],_,e,t,h,K=>K e.reverse t h|o::l,k,e,t,h,K=>grd ops t
   λt=>match lJ o.op with|some (f,r)=>ZP (λfid c=>afo t r.toList λvs=>fL (vs++c) λvs=>ACallU P fid vs o.dst t h k λk' b w=>yt w t h λt' a=>Vq P τ ops l k' (⟨aY ops.toArray o,b,w⟩::e) t' a K) (bC t f)|none=>VP τ k o.dst (bC t) (obj? h) (λrd w=>yt w t h λt' a=>frN (jg o.op) (Vq P τ ops l k (⟨aY ops.toArray o,rd,w⟩::e) t' a K) (Vq P τ ops l (k+1) (⟨aY ops.toArray o,rd,w⟩::e) t' a K)) o.op
   (λt=>yt (au o.dst (.tup [])) t h λt' a=>Vq P τ ops l k (⟨aY ops.toArray o,[],au o.dst (.tup [])⟩::e) t' a K) o.guard
theorem awN{P}{ops}:∀l k es t h K,Vq P (TI.of P) ops l k es t h K->∃a d,ATr P ops.toArray l a ⟨t,h⟩ d/\K (es.reverse++a) d.tmps d.heap:=by
 intro l
 induction l with|nil=>intro k es t h K r;exact⟨[],⟨t,h⟩,.nil _,by simpa[Vq]using r⟩|cons o l B=>
  intro k es t h K r;have f:∀(e:Eff) (i:Nat),Gr P ops.toArray o ⟨t,h⟩ e->(yt e.ws t h λt' q=>Vq P (TI.of P) ops l i (e::es) t' q K)->∃a d,ATr P ops.toArray (o::l) a ⟨t,h⟩ d/\K (es.reverse++a) d.tmps d.heap:=λe i C x=>by rw[ahN]at x;obtain⟨a,d,j,g⟩:=B i (e::es) _ _ K x;exact⟨e::a,d,.cons C j,by simpa using g⟩
  rcases RP r with⟨n,b⟩|⟨n,D⟩
  ·cases c:lJ o.op with
   |none=>
    rw[c]at b;obtain⟨y,w,j,g⟩:=aah b;have g:∃i,yt w t h λt' q=>Vq P (TI.of P) ops l i (⟨aY ops.toArray o,y,w⟩::es) t' q K:=by
     cases z:jg o.op with
     |zero=>simp only[z]at g;exact⟨_,g⟩|succ m=>simp only[z]at g;exact⟨_,g⟩
    obtain⟨i,g⟩:=g;exact f ⟨aY ops.toArray o,y,w⟩ i (JV (s:=⟨t,h⟩) n j) g
   |some p=>
    rw[c]at b;simp only at b;unfold ZP at b;split at b;·rename_i E A j;simp only[abV,vK]at b;replace b:=b.out;obtain⟨u,N,O,v,H,F,Q,g,G,I,J,L⟩:=b;obtain⟨R,M⟩:=vP c;exact f _ _ (EP (s:=⟨t,h⟩) n M j u g G I J) L
    grind
  exact f _ k (Fh (s:=⟨t,h⟩) n) D
def rep(n)h(K:List AObj->Prop):=fL (h++List.replicate n .res) K
theorem AW.region{P}{τ:Nat->TI}{m id}{l}{d}{Q}{t}{h}(a:τ=TI.of P)(e:P.follows .mixedOrders=true) r
  (b:rep r h λh'=>aaH h 0 λk=>Vq P τ l.toList l.toList k [] t h' λes t h=>iE d (lF l.toList es=true/\Q .normal t h) (Q .normal t h)):AW P m (.region id l d) Q t h:=by
 subst a;unfold rep at b;simp only[vK,TU]at b;obtain⟨es,n,c,f⟩:=awN _ _ _ _ _ _ b;have o:l=l.toList.toArray:=by simp
 rcases bE f with⟨rfl,i,j⟩|⟨rfl,g⟩
 ·exact AW.of (cZ.drawn (s:=⟨t,h⟩) r e c i j)
 exact AW.of (cZ.region (s:=⟨t,h⟩) r c.steps g)
def aoR P rs wk H res H' t h:=
 (∃L,Jd P rs wk L H res H' ⟨t,h⟩)∨∃a b,Le H.length t h a b/\∃L,Jd P rs wk L H res H' ⟨a,b⟩
def aFK(P:Program)(r:List ResultVar)(w:Bool)(H:List AObj)(res:AV)(H':List AObj):QT| .normal,t,h=>aoR P r w H res H' t h| .ret,t,h=>aoR P r w H res H' t h|_,_,_=>False
theorem axi{P}{f}{fn}{c}{args}{H H'}{res} wk (hf:P.funcs[f]? =some fn)(m:fn.body=some c)(hlen:args.length<=fn.ntmps)
  (h:AW P H.length c (aFK P fn.results.toList wk H res H') (args++List.replicate (fn.ntmps - args.length) (.tup [])) H):cK P f args H res H':=by
 intro K z w N q hvl hr
 let C:Ctx:={ak:=z,old:=λb=>b<w.heap.size/\∀l,at? K l=some b->¬live (obj? H l),w0:=w,k0:=K,pvE:=aD z K H}
 refine calls_of_wp hf m ?_;have S:Sim C K ⟨args++List.replicate (fn.ntmps - args.length) (.tup []),H⟩ {tmps:=N.toArray++Array.replicate (fn.ntmps - N.toArray.size) undef,defers:=[]} w:=by
  refine⟨rfl,by simp[hvl],?_,q.klen,dw.refl _,q.resv,q.obj,q.apart,λl b A G ho=>ho.2 l A G,q.bound,λb o h=>⟨q.pvlt b o h,λl E=>q.pvdis b o l h E⟩,λb m=>m.1,λ_ _=>rfl,rfl,rfl,rfl,qAd _,λ_ _ h _=>h,Evo.refl _ _⟩;intro n hn;simp only[qAf,qBx]at hn;by_cases B:n<args.length
  ·have e1:(args++List.replicate (fn.ntmps - args.length) (AV.tup [])).getD n .unk=args.getD n .unk:=by simp[List.getD,qAi B]
   have e2:(N.toArray++Array.replicate (fn.ntmps - N.toArray.size) undef).getD n undef=N.getD n undef:=by rw[qAq,qBL (by simp;omega)];simp[List.getD]
   grind
  have e1:(args++List.replicate (fn.ntmps - args.length) (AV.tup [])).getD n .unk=.tup []:=by rw[List.getD,qAk (qBb B),qBU,if_pos (by omega)];rfl
  have e2:(N.toArray++Array.replicate (fn.ntmps - N.toArray.size) undef).getD n undef=undef:=by rw[qAq,qBH (by simp;omega),qCx];split<;>rfl
  rw[e1,e2];exact kC
 have M:∀(L:List Nat) (s:ASt) (k:aM) (a:Act) (p:World),Jd P fn.results.toList wk L H res H' s->Sim C k s a p->a.defers=[]/\∃v,(results fn a.tmps).run P p=.ok v p/\∃T d,Ending.returned v=.returned T/\Leave K d z H H' w p/\Rel p d (aD z d H') res T:=by
  intro L s k a p F r;obtain⟨I,q1,q2,q3,q4,q5,q6,q7,O⟩:=F;refine⟨r.defers,?_⟩;obtain⟨us,u1,u2,u3⟩:=Kv r _ _ q1
  let d:aM:=L.map (at? k)
  let g:=nm L s.heap.length
  have D:∀i b,at? d i=some b->∃l,L[i]? =some l/\at? k l=some b:=λi b m=>by
   simp only[d]at m;rw[at?_map]at m;cases Q:L[i]? with
   |none=>rw[Q]at m;cases m|some l=>rw[Q]at m;exact⟨l,rfl,m⟩
  have t:∀i,at? d i=at? k (g i):=λi=>by
   simp only[d,g,nm];rw[at?_map];cases Q:L[i]? with
   |some l=>rfl|none=>simp only[qCs];rw[at?_none_of_le (by rw[r.klen];exact qAd _)]
  have R:∀b o,aD z d H' b o->aD z k s.heap b o:=by
   rintro b o (h|⟨i,A,G⟩);·exact .inl h
   obtain⟨l,E,m⟩:=D i b A;exact .inr ⟨l,m,by rw[O i l E,FC];exact G⟩
  have U:∀{x:AV} {u:Value},Rel p k (aD z k s.heap) (ren g x) u->Rel p d (aD z d H') x u:=λhx=>(hx.AU t _ rfl).mono (Evo.refl _ _) (dw.refl _) (λb o h _=>R b o h)
  have J:Leave K d z H H' w p:=by
   refine⟨by simp[d,q4],by omega,?_,?_,?_,?_,?_,?_,?_,r.kS,λb o h B=>r.pvsub b o (R b o h) B,r.os,r.tape,r.output⟩
   ·intro i b m;have Q:i<H.length:=by rw[<-q.klen];exact lt_of_at? m
    rw[t i];have:g i=i:=by simp only[g,nm,q6 i Q];rfl
    rw[this];exact r.kext i b m
   ·intro i Q;rw[t i];cases V:L[i]? with|none=>simp only[g,nm,V,qCs];exact at?_none_of_le (by rw[r.klen];exact qAd _)|some l=>simp only[g,nm,V,qAv];exact r.resv l (by rw[O i l V,Q];rfl)
   ·intro i b A G;obtain⟨l,E,m⟩:=D i b A;have:=r.obj l b m (by rw[O i l E,iH];exact G);rw[O i l E]at this;exact(this.AU t).mono rfl (Evo.refl _ _) (dw.refl _) (λb o h _=>R b o h)
   ·intro i b A G;obtain⟨l,E,m⟩:=D i b A;have hno:=r.own l b m (by rw[O i l E,iH];exact G);by_cases B:b<w.heap.size
    ·right;apply qAp;exact λhne=>hno ⟨B,λl0 V hlv=>hne ⟨l0,V,hlv⟩⟩
    left;omega
   ·intro i j b A G h3 h4;obtain⟨l,E,m⟩:=D i b A;obtain⟨l',W,hb'⟩:=D j b G;have e:=r.apart l l' b m hb' (by rw[O i l E,iH];exact h3) (by rw[O j l' W,iH];exact h4);subst e;exact(qCo (qAy.1 E).1 q3).1 (E.trans W.symm)
   ·intro i b A;obtain⟨l,_,m⟩:=D i b A;exact r.bound l b m
   intro b m hnl;exact r.old b ⟨m,hnl⟩
  have y:∀(x:AV) (u:Value),Rel p k (aD z k s.heap) x u->Rel p k (aD z k s.heap) (if wk then sN x else x) u:=λx u hx=>by
   cases wk;·exact hx
   exact hx.sN
  have X:∃v,(results fn a.tmps).run P p=.ok v p/\Rel p k (aD z k s.heap) (H7 wk I) v:=by
   have hm:(fn.results.mapM (SS a.tmps)).run P p=.ok us.toArray p:=by rw[qCb];simp only[Sem.run_map,u3,Result.andThen_ok]
   rw[Ni];simp only[Sem.run_bind,hm,Result.andThen_ok,Sem.run_pure];by_cases A:us.length=1;·match us,A with
    |[u],_=>
     match I,u1 with
     |[x],_=>refine⟨u,by simp,?_⟩;have:=u2 0 (by simp);simp only[List.getD,qAF,qAv]at this;exact y x u this
   refine⟨.tuple us.toArray,by simp[A],?_⟩;have hx:H7 wk I=.tup (if wk then I.map sN else I):=by
    match I,u1 with|[],_=>rfl|[x],h=>exact(A (by simpa using h)).elim|_::_::_,_=>rfl
   rw[hx];refine .tup (by split<;>simp[u1]) λj hj=>?_;have Y:j<I.length:=by split at hj<;>simpa using hj
   have:=y _ _ (u2 j Y);cases wk;·exact this
   simp only[if_true]at this|-;have e:(I.map sN).getD j .unk=sN (I.getD j .unk):=by simp[List.getD,qAc Y]
   rw[e];exact this
  obtain⟨v,hv1,Z⟩:=X;rw[q2]at Z;exact⟨v,hv1,v,d,rfl,J,U Z⟩
 have hkl:C.k0.length<=H.length:=qBk q.klen;refine wp_mono (h C K _ w hkl S) ?_;rintro e a p ⟨s,k,F,r⟩;have fin:aoR P fn.results.toList wk H res H' s.tmps s.heap->a.defers=[]/\∃v,(results fn a.tmps).run P p=.ok v p/\∃T d,Ending.returned v=.returned T/\Leave K d z H H' w p/\Rel p d (aD z d H') res T:=by
  rintro(⟨L,F⟩|⟨t',h',hwk,L,F⟩);·exact M L s k a p F r
  obtain⟨κ2,hs2⟩:=hwk C k a p hkl r;exact M L _ κ2 a p F hs2
 cases e with|normal=>exact fin F|ret=>exact fin F|exit id=>exact F.elim|goto l=>exact F.elim|panic c=>exact F.elim|outgrown=>exact F.elim
theorem ob{α β:Type}{x}{k:α->Option β}{r}(h:x.bind k=some r):∃a,x=some a/\k a=some r:=by
 cases x with|none=>cases h|some a=>exact⟨a,rfl,h⟩
inductive LR(σ ρ:Type) where
 |nx (s:σ)
 |rt (r:ρ)
def LR.on{σ ρ:Type}(k:σ->Option ρ):LR σ ρ->Option ρ| .nx s=>k s| .rt r=>some r
@[reducible] def LR.el{σ ρ β:Type}(k:σ→β)(j:ρ→β):LR σ ρ→β
 | .nx s=>k s
 | .rt r=>j r
def idx{α:Type}(l:List α)(i:Int):=if 0<=i then l[i.toNat]? else none
def app{α:Type}b(l ys:List α):=if(l.length+ys.length)*b<=140737488355328/\l.length+ys.length<=140737488355328 then some (l++ys)else none
def nC(s:List UInt8)(i:Int):=if 0<=i/\i<s.length then some ((s.getD i.toNat 0).toNat:Int)else none
def avD(a b:List UInt8):=if a.length+b.length<=9223372036854775807 then some (a++b)else none
def jM{α:Type}(s:List α)(lo hi:Int):=if 0<=lo/\lo<=hi/\hi<=s.length then some ((s.drop lo.toNat).take (hi.toNat - lo.toNat))else none
theorem axa{n}(h: -9223372036854775808<=n)(h2:n<=9223372036854775807):n=IntKind.wrap .i64 n:=by simp only[IntKind.wrap,IntKind.signed,IntKind.bits];simp;omega
inductive Bd:Option AV→Int→Int→Prop where
 |none (d:Int):Bd none d d
 |int (k:IntKind) (n d:Int):Bd (some (.int k n)) n d
theorem aGK{s x}{lo hi}{a b}{B:List UInt8->Prop}(c:jM s a b=some x)(d:Bd lo a 0)(e:Bd hi b s.length)(f:B x):∃r,(∃l h,dQ hi s.length s.length=some h/\dQ lo 0 h=some l/\r=(s.drop l).take (h - l))/\B r:=by
 unfold jM at c;split at c
 ·rename_i g;cases c;refine⟨_,⟨a.toNat,b.toNat,?_,?_,rfl⟩,f⟩
  ·cases e with
   |none=>simp[dQ]|int k n=>simp[dQ];omega
  cases d with|none=>simp[dQ]|int k n=>simp[dQ];omega
 cases c
theorem aGM{α}{l x}{f:α->List AV}{sz}{lo hi}{a b}{B:List (List AV)->Prop}(c:jM l a b=some x)(d:Bd lo a 0)(e:Bd hi b l.length)(g:∀x,bX sz (f x)=true)(j:B (x.map f)):
  ∃r,(∃i h,dQ hi (l.map f).length (l.map f).length=some h/\dQ lo 0 h=some i/\(i<(l.map f).length->((l.map f).getD i []).length=sz)/\r=((l.map f).drop i).take (h - i))/\B r:=by
 unfold jM at c;split at c
 ·rename_i m;cases c;refine⟨_,⟨a.toNat,b.toNat,?_,?_,?_,?_⟩,j⟩
  ·cases e with
   |none=>simp[dQ]|int k n=>simp[dQ];omega
  ·cases d with|none=>simp[dQ]|int k n=>simp[dQ];omega
  ·intro hi;rw[qAg]at hi;have:=g l[a.toNat];simp only[bX]at this
   grind
  simp_all
 cases c
theorem NY{α}{l ys r:List α}{b}(h:app b l ys=some r):(l.length+ys.length)*b<=140737488355328/\l.length+ys.length<=140737488355328/\r=l++ys:=by
 unfold app at h
 grind
theorem D7{α:Type}{f sz}(h:∀x,bX sz (f x)=true)(l:List α):(l.map f).all (bX sz)=true:=by grind
theorem aja{α l ys r}{f:α->List AV}{b sz n es e}{K:List (List AV)->Nat->Prop}(h:app b l ys=some r)(c:∀x,bX sz (f x)=true)(d:es=l.map f)(a:e=ys.map f)(g:n=l.length*sz)
  (k:K (r.map f) (r.length*sz)):aAO n es e sz b (EsK (es++e) λr=>∃n,n=(es++e).length*sz/\K r n):=by obtain⟨i,j,rfl⟩:=NY h;subst d;subst a;refine⟨⟨by rw[qAg];exact g,by simp;exact i,by simp;exact j,D7 c _,D7 c _⟩,(l++ys).map f,by simp,(l++ys).length*sz,by simp,k⟩
abbrev u2(l:List AV):=.unk:: .unk::l
abbrev u4 l:=u2 (u2 l)
abbrev u8 l:=u4 (u4 l)
abbrev u16 l:=u8 (u8 l)
abbrev u32 l:=u16 (u16 l)
abbrev u64 l:=u32 (u32 l)
section
variable {h:List AObj}{L:List (Option Nat)}{xs ys:List AV}
theorem VWs.u2{a b}(v:VWs h L xs ys):VWs h L (Abs.u2 xs) (a::b::ys):=.cons (.unk _) (.cons (.unk _) v)
theorem VWs.u4{a b c d}(v:VWs h L xs ys):VWs h L (Abs.u4 xs) (a::b::c::d::ys):=.u2 (.u2 v)
end
theorem Ib{P f fn c args H H' res} wk (a:P.funcs[f]? =some fn)(b:fn.body=some c)(l:args.length<=fn.ntmps)
  (h:∀Q:QT,(∀e t h,aFK P fn.results.toList wk H res H' e t h->Q e t h)->∀t,Gu fn.ntmps args (λu=>t=u)->AW P H.length c Q t H):cK P f args H res H':=by refine axi wk a b l ?_;exact h _ (λ_ _ _ h=>h) _ (by unfold Gu;rw[vK])
theorem atn{P}{τ:Nat->TI}{r}{w}{res}{t}{h}(a:τ=TI.of P)(d:∀g,ren g res=res)(q:resT τ t h r λxs=>fAV (H7 w xs) λv=>Ends v res):aoR P r w [] res [] t h:=by subst a;obtain⟨xs,e,c⟩:=Nj _ _ q;rw[K6]at c;exact .inl ⟨[],xs,e,by rw[d];exact c,by simp,rfl,by simp,λi b=>(by cases b),λl f=>(by cases f),λi l b=>by simp at b⟩
inductive RetOs(g:Nat→Nat)(h:List AObj):List Nat→List AObj→Prop where
 |nil:RetOs g h [] []
 |cons {l:Nat} {o:AObj} {ls:List Nat} {os:List AObj}:dR g o=obj? h l→RetOs g h ls os→RetOs g h (l::ls) (o::os)
theorem RetOs.len{g}{h}{l}{os}(v:RetOs g h l os):os.length=l.length:=by
 induction v with|nil=>rfl|cons _ _ i=>simp[i]
theorem RetOs.get{g}{h}{s}{os}(v:RetOs g h s os):∀i l,s[i]? =some l->obj? h l=dR g (obj? os i):=by
 induction v with|nil=>intro i l a;simp at a|cons b _ c=>intro i l a;cases i with|zero=>simp at a;subst a;exact b.symm|succ i=>exact c i l (by simpa using a)
def aBT n m(L:List Nat):=decide L.Nodup&&decide (n<=L.length)&&(List.range n).all (λi=>L[i]? ==some i)&&L.all λl=>decide (l<m)
theorem Ul{P}{τ:Nat->TI}{r}{w}{H H'}{res}{t}{h}(a:τ=TI.of P) L (l:aBT H.length h.length L=true)(o:RetOs (nm L h.length) h L H')
  (q:resT τ t h r λxs=>fAV (H7 w xs) λv=>Ends v (ren (nm L h.length) res)):∃L,Jd P r w L H res H' ⟨t,h⟩:=by subst a;obtain⟨xs,c,b⟩:=Nj _ _ q;rw[K6]at b;simp only[aBT,qAb,qAJ,decide_eq_true_eq]at l;obtain⟨⟨⟨d,e⟩,f⟩,g⟩:=l;exact⟨L,xs,c,b,d,o.len,e,λi j=>by simpa using f i (by simpa using j),g,o.get⟩
theorem aAj{P r w H H' res t h} t' h' (a:Le H.length t h t' h')(q:∃L,Jd P r w L H res H' ⟨t',h'⟩):aoR P r w H res H' t h:=.inr ⟨t',h',a,q⟩
end
section
open Go
structure Carrier where
 name:Str
 elems:List Str
structure Decl where
 name:Str
 ty:Ty
structure Env where
 carriers:List Carrier
 names:List Decl
def encI(n:Int):List AV:=[.int .i64 n]
def encS(s:Str):List AV:=[.str s]
def Ka(n:Int):List AV:=[.int .u8 n]
def jQ(x:Carrier):List AV:=[.str x.name,.slice (x.elems.map encS) .shared]
def ig(x:Decl):List AV:=[.str x.name,.int .i64 x.ty.kind,.str x.ty.name,.slice (x.ty.kids.map ng) .shared]
theorem NQ{α:Type}{f}(h:∀g x,dL g (f x)=f x) g (l:List α):eF g (l.map f)=l.map f:=by rw[QF,qBl];exact qBq λx _=>h g x
theorem axJ g (l:List Int):eF g (l.map encI)=l.map encI:=NQ (λ_ _=>rfl) g l
theorem axt g (l:List Str):eF g (l.map encS)=l.map encS:=NQ (λ_ _=>rfl) g l
theorem aus g (l:List Ty):eF g (l.map ng)=l.map ng:=aDr g l
theorem aCx g (l:List Tm):eF g (l.map jh)=l.map jh:=aDi g l
theorem apZ g (l:List Carrier):eF g (l.map jQ)=l.map jQ:=NQ (λg x=>by simp only[jQ,dL,ren,pK,axt]) g l
theorem azw g (l:List Decl):eF g (l.map ig)=l.map ig:=NQ (λg x=>by simp only[ig,dL,ren,pK,aus]) g l
theorem aqc g x:dL g (jQ x)=jQ x:=by simp only[jQ,dL,ren,pK,axt]
theorem axF g x:dL g (ig x)=ig x:=by simp only[ig,dL,ren,pK,aus]
theorem aH0 n:bX 1 (encI n)=true:=rfl
def dO{α:Type}(m:List (Str×α))k:=(m.find? λp=>p.1==k).map (·.2)
def ko{α:Type}(m:List (Str×α))(k:Str)(v:α):=
 match m with|[]=>[(k,v)]|p::r=>if p.1==k then(k,v)::r else p::ko r k v
def wY{α:Type}(m:List (Str×α))k(v):=if m.length<140737488355328 then some (ko m k v)else none
@[reducible] def mel{α β:Type}(o:Option α)(Y:β)(X:α→β):β:=match o with|some v=>X v|none=>Y
theorem afB{α} f:∀(m:List (Str×α)) (k:Str),rE (m.map λp=>(p.1,f p.2)) k=(dO m k).map f
 |[],k=>rfl|p::m,k=>by
  have i:=afB f m k;unfold rE dO at *;simp only[qAz,qCj];cases h:(p.1==k);·exact i
  rfl
theorem akN{α}(f:α->AV):∀m (k:Str) v,G5 (m.map λp=>(p.1,f p.2)) k (f v)=(ko m k v).map λp=>(p.1,f p.2)
 |[],k,v=>rfl|p::m,k,v=>by
  simp only[qAz,G5,ko];split;·rfl
  rw[akN f m k v];rfl
theorem ax9{α:Type}(l:List α):l=l.take l.length:=by simp
theorem aDH{α}{l l' ys r:List α}{f b sz}{K:List (List AV)->Nat->Prop}(h:app b l' ys=some r)(p:l'=l.take l'.length)(a:∀x,bX sz (f x)=true)(k:K (r.map f) r.length):
  (l'.length<=(l.map f).length/\(l'.length+(ys.map f).length)*b<=140737488355328/\l'.length+(ys.map f).length<=140737488355328/\(l.map f).all (bX sz)=true/\(ys.map f).all (bX sz)=true)/\∃r m,r=(l.map f).take l'.length++ys.map f/\m=r.length/\K r m:=by
 obtain⟨c,d,rfl⟩:=NY h;have e:l'.length<=l.length:=by have:=congrArg List.length p;rw[qAB]at this;omega
 refine⟨⟨by simpa using e,by simpa using c,by simpa using d,D7 a _,D7 a _⟩,(l'++ys).map f,(l'++ys).length,?_,by simp,k⟩;rw[<-List.map_take,<-p,qAX]
theorem aCY{α:Type}{c:Bool}{X Y:Option α}{r:α}(h:cond c X Y=some r):(c=true∧X=some r)∨(c=false∧Y=some r):=by
 cases c
 ·exact .inr ⟨rfl,h⟩
 ·exact .inl ⟨rfl,h⟩
def unc{α:Type}:List α->Option (α×List α)|[]=>none|x::r=>some (x,r)
theorem aBi g xs ys:dL g (xs++ys)=dL g xs++dL g ys:=by simp only[sU,qAX]
def upd{α:Type}(l:List α)(i:Int)v:=l.set i.toNat v
theorem Lh{α l n}{x:α}(h:idx l n=some x):0<=n/\n<l.length/\l[n.toNat]? =some x:=by
 unfold idx at h;split at h;·rename_i a;have:=(qAy.1 h).1;exact⟨a,by omega,h⟩
 cases h
end
section
open Go
inductive Val where
 |mk (kind:Int) (n:Int) (name:Str) (kids:List Val)
def Val.kind:Val->Int| .mk k _ _ _=>k
def Val.n:Val->Int| .mk _ n _ _=>n
def Val.name:Val->Str| .mk _ _ s _=>s
def Val.kids:Val->List Val| .mk _ _ _ k=>k
mutual
def aQ:Val→List AV
 | .mk k n s ks=>[.int .i64 k,.int .i64 n,.str s,.slice (FK ks) .shared]
def FK:List Val→List (List AV)
 |[]=>[]
 |t::ts=>aQ t::FK ts
end
theorem Kj:∀s,FK s=s.map aQ|[]=>rfl|t::s=>by simp[FK,Kj s]
theorem fO t:aQ t=[.int .i64 t.kind,.int .i64 t.n,.str t.name,.slice (t.kids.map aQ) .shared]:=by cases t;simp[aQ,Kj,Val.kind,Val.n,Val.name,Val.kids]
mutual
theorem NJ(g:Nat→Nat):∀t,dL g (aQ t)=aQ t
 | .mk k n s ks=>by simp only[aQ,dL,ren,pK,Sz g ks]
theorem Sz(g:Nat→Nat):∀ts,eF g (FK ts)=FK ts
 |[]=>rfl
 |t::ts=>by simp only[FK,eF,NJ g t,Sz g ts]
end
theorem IZ g (t:List Val):eF g (t.map aQ)=t.map aQ:=by rw[<-Kj];exact Sz g t
theorem ayP n:bX 4 (aQ n)=true:=by rw[fO];rfl
end
section
open Go
structure Bound where
 name:Str
 v:Val
inductive ET where
 |i|u|s|b|car|dec|ty|tm|env|val|bnd|vals|tms
@[reducible] def ET.D:ET→Type
 | .i=>Int| .u=>Int| .s=>Str| .b=>Bool| .car=>Carrier| .dec=>Decl| .ty=>Ty| .tm=>Tm| .env=>Env| .val=>Val| .bnd=>Bound| .vals=>List Val| .tms=>List Tm
def ET.no:ET->Nat| .i=>0| .u=>1| .s=>2| .b=>3| .car=>4| .dec=>5| .ty=>6| .tm=>7| .env=>8| .val=>9| .bnd=>10| .vals=>11| .tms=>12
theorem ET.inj:∀x y:ET,x.no=y.no->x=y:=by intro x y h;cases x<;>cases y<;>first|rfl|cases h
def ET.eq?(x y:ET):Option (PLift (x=y)):=if h:x.no=y.no then some ⟨ET.inj x y h⟩else none
theorem ET.eq_self a:ET.eq? a a=some ⟨rfl⟩:=by unfold ET.eq?;rw[dif_pos rfl]
inductive LT where
 |n (k:IntKind)|b|s|l (e:ET)|t (e:ET)|m (e:ET)|f (e:ET)
@[reducible] def LT.D:LT→Type
 | .n _=>Int| .b=>Bool| .s=>Str| .l e=>List e.D| .t e=>e.D| .m e=>List (Str×e.D)| .f e=>List e.D
def IntKind.no:IntKind->Nat| .i8=>0| .i16=>1| .i32=>2| .i64=>3| .u8=>4| .u16=>5| .u32=>6| .u64=>7
def LT.no:LT->Nat| .n k=>8*IntKind.no k| .b=>1| .s=>2| .l e=>8*e.no+3| .t e=>8*e.no+4| .m e=>8*e.no+5| .f e=>8*e.no+6
theorem LT.inj(x y:LT)(h:x.no=y.no):x=y:=by
 cases x<;>cases y<;>simp only[LT.no]at h<;>first
  |rfl
  |(exfalso;omega)
  |(rename_i x y;have:x.no=y.no:=(by omega);rw[ET.inj x y this])
  |(rename_i x y;cases x<;>cases y<;>simp only[IntKind.no]at h<;>first|rfl|omega)
  |omega
def LT.eq?(x y:LT):Option (PLift (x=y)):=if h:x.no=y.no then some ⟨LT.inj x y h⟩else none
def jr:List LT->Type|[]=>Unit|[t]=>t.D|t::u::s=>t.D×jr (u::s)
structure U where
 t:LT
 x:t.D
def eD:(s:List LT)->jr s->List U|[],_=>[]|[t],x=>[⟨t,x⟩]|t::u::s,x=>⟨t,x.1⟩::eD (u::s) x.2
def jU{a:Type}(t:LT)(u:U)(K:t.D->Option a):Option a:=match LT.eq? u.t t with|some ⟨h⟩=>K (h▸u.x)|none=>none
def zD{b:Type}:(a:List LT)->List U->(jr a->Option b)->Option b
 |[],s,K=>match s with|[]=>K ()|_=>none
 |[t],s,K=>match s with|[u]=>jU t u K|_=>none
 |t::c::a,s,K=>match s with|u::s=>jU t u λx=>zD (c::a) s λy=>K (x,y)|[]=>none
def ET.cs:ET->List LT
 | .i=>[.n .i64]| .u=>[.n .u8]| .s=>[.s]| .b=>[.b]
 | .car=>[.s,.l .s]| .dec=>[.s,.t .ty]| .ty=>[.n .i64,.s,.l .ty]| .tm=>[.n .i64,.s,.n .i64,.t .ty,.l .tm]
 | .env=>[.l .car,.l .dec]| .val=>[.n .i64,.n .i64,.s,.l .val]| .bnd=>[.s,.t .val]| .vals=>[.l .val]| .tms=>[.l .tm]
def ET.un:(e:ET)->e.D->jr e.cs
 | .i,x=>x| .u,x=>x| .s,x=>x| .b,x=>x
 | .car,x=>(x.name,x.elems)| .dec,x=>(x.name,x.ty)| .ty,x=>(x.kind,x.name,x.kids)| .tm,x=>(x.op,x.name,x.n,x.ty,x.kids)
 | .env,x=>(x.carriers,x.names)| .val,x=>(x.kind,x.n,x.name,x.kids)| .bnd,x=>(x.name,x.v)| .vals,x=>x| .tms,x=>x
def ET.mk:(e:ET)->jr e.cs->e.D
 | .i,x=>x| .u,x=>x| .s,x=>x| .b,x=>x
 | .car,x=>⟨x.1,x.2⟩| .dec,x=>⟨x.1,x.2⟩| .ty,x=>.mk x.1 x.2.1 x.2.2| .tm,x=>.mk x.1 x.2.1 x.2.2.1 x.2.2.2.1 x.2.2.2.2
 | .env,x=>⟨x.1,x.2⟩| .val,x=>.mk x.1 x.2.1 x.2.2.1 x.2.2.2| .bnd,x=>⟨x.1,x.2⟩| .vals,x=>x| .tms,x=>x
def ET.sc:ET->Bool| .i=>true| .u=>true| .s=>true| .b=>true| .vals=>true| .tms=>true|_=>false
def ET.sz:ET->Nat| .i=>1| .u=>1| .s=>1| .b=>1| .car=>2| .dec=>4| .ty=>3| .tm=>7| .env=>2| .val=>4| .bnd=>5| .vals=>1| .tms=>1
def ET.enc:(e:ET)->e.D->List AV
 | .i=>encI| .u=>Ka| .s=>encS| .b=>λx=>[.bool x]| .car=>jQ| .dec=>ig| .ty=>ng| .tm=>jh
 | .env=>λx=>[.slice (x.carriers.map jQ) .shared,.slice (x.names.map ig) .shared]| .val=>aQ
 | .bnd=>λx=>.str x.name::aQ x.v| .vals=>λx=>[.slice (x.map aQ) .shared]| .tms=>λx=>[.slice (x.map jh) .shared]
inductive TV where
 |unk|nilp|nilF|nils
 |lf (t:LT) (x:t.D)
 |nat (n:Nat)
 |ptr (l off:Nat)
 |eptr (cs:List TV)
 |agg (cs:List TV)
 |tup (cs:List TV)
 |func (f:Nat) (cs:List TV)
 |mapr (l:Nat)
 |own (l:Nat)
 |psl (l z:Nat) (c:Option Nat)
 |ap (l:Nat) (i:Int) (z off:Nat)
inductive TObj where
 |box (cs:List TV)
 |own (e:ET) (xs:List e.D)
 |gone (e:ET) (xs:List e.D)
 |mp (e:ET) (xs:List (Str×e.D))
 |arr (e:ET) (xs:List e.D)
 |gon (n:Nat)
 |dead
 |res
noncomputable def nth{α:Type}d(l):=List.rec (motive:=λ_=>Nat->α) (λ_=>d) (λx _ i n=>Nat.rec (motive:=λ_=>α) x (λm _=>i m) n) l
theorem iK{α} d:∀(l:List α) n,nth d l n=l.getD n d|[],_=>rfl|_::_,0=>rfl|_::x,n+1=>(iK d x n).trans (by simp[List.getD])
def jw:(t:LT)->t.D->AV| .n k,x=>.int k x| .b,x=>.bool x| .s,x=>.str x| .l e,x=>.slice (List.map e.enc x) .shared| .t e,x=>.agg (e.enc x)| .m _,_=>.unk| .f e,x=>.flist (List.map e.enc x)
def fA(l:Nat):TObj->AV| .own e x=>.slice (x.map e.enc) (.tip l e.sz)| .gone e x=>.slice (x.map e.enc) (.tip l e.sz)|_=>.unk
def dU(l z:Nat):TObj->AV| .arr _ x=>.psl l z x.length| .gon n=>.psl l z n|_=>.unk
def zM(v:TV)(a:AV):=match v with| .lf (.t e) x=>e.enc x|_=>[a]
mutual
noncomputable def av(H:List TObj):TV→AV
 | .unk=>.unk
 | .nilp=>.nilp
 | .nilF=>.nilFunc
 | .nils=>.slice [] .nils
 | .lf t x=>jw t x
 | .nat n=>.int .i64 n
 | .ptr l o=>.ptr l o
 | .eptr cs=>.eptr (aX H cs)
 | .agg cs=>.agg (aX H cs)
 | .tup cs=>.tup (aT H cs)
 | .func f cs=>.func f (aT H cs)
 | .mapr l=>.mapr l
 | .own l=>fA l (nth .dead H l)
 | .psl l z c=>match c with
  |none=>dU l z (nth .dead H l)
  |some n=>.psl l z n
 | .ap l i z off=>.ptr l (i.toNat*z+off)
noncomputable def aX(H:List TObj):List TV→List AV
 |[]=>[]
 |v::vs=>zM v (av H v)++aX H vs
noncomputable def aT(H:List TObj):List TV→List AV
 |[]=>[]
 |v::vs=>av H v::aT H vs
end
def ET.one(e:ET)(x:e.D):AV:=match e.sc,e.enc x with|true,[v]=>v|_,c=>.agg c
noncomputable def fJ(H:List TObj):TObj->AObj| .box c=>.box (aX H c)| .own e x=>.tip (x.length*e.sz)| .gone _ _=>.dead| .mp e x=>.mp (x.map λp=>(p.1,e.one p.2))| .arr e x=>.arr e.sz (x.map e.enc)| .gon _=>.dead| .dead=>.dead| .res=>.res
end
section
open Go
def aeM(a c:Int):=if c=0 then none else some (a.tmod c)
end
section
open Go
def Zi(a c:Int):=if 0<=c/\c<=62 then some (IntKind.wrap .i64 (a*2^c.toNat))else none
end
section
open Go
noncomputable section
def ET.seg:(e:ET)->e.D->TV
 | .i,x=>.lf (.n .i64) x| .u,x=>.lf (.n .u8) x| .s,x=>.lf .s x| .b,x=>.lf .b x
 | .car,x=>.lf (.t .car) x| .dec,x=>.lf (.t .dec) x| .ty,x=>.lf (.t .ty) x| .tm,x=>.lf (.t .tm) x| .env,x=>.lf (.t .env) x| .val,x=>.lf (.t .val) x
 | .bnd,x=>.lf (.t .bnd) x| .vals,x=>.lf (.l .val) x| .tms,x=>.lf (.l .tm) x
def comps(e:ET)(x:e.D):List TV:=(eD e.cs (e.un x)).map λu=>.lf u.t u.x
def width:TV->Nat| .lf (.t e) _=>e.sz|_=>1
def widths:List TV->Nat|[]=>0|v::s=>width v+widths s
def scB(H:List TObj):TV->Bool
 | .unk=>false| .agg _=>false| .tup _=>false| .lf (.m _) _=>false| .own l=>match nth .dead H l with| .own _ _=>true| .gone _ _=>true|_=>false
 | .psl l _ none=>match nth .dead H l with| .arr _ _=>true| .gon _=>true|_=>false
 |_=>true
def afS(H:List TObj):List TV->Bool|[]=>true|v::s=>scB H v&&afS H s
section
variable {γ:Type}
def splitK:Nat->List TV->Nat->(List TV->List TV->Option γ)->Option γ|0,_,_,_=>none|f+1,s,n,K=>match n with|0=>K [] s|m+1=>match s with|[]=>none|c::r=>bif Nat.ble (width c) (m+1)then splitK f r (m+1 - width c) λa b=>K (c::a) b else match c with| .lf (.t e) x=>splitK f (comps e x++r) (m+1) K|_=>none
def uD(cs)off(new)(K:List TV->Option γ):=splitK 99 cs off λa b=>splitK 99 b (widths new) λ_ r=>K (a++(new++r))
def aoj:Nat->List TV->(TV->Option γ)->Option γ|0,_,_=>none|f+1,s,K=>match s with|[]=>none|c::_=>match c with| .lf (.t e) x=>aoj f (comps e x) K|v=>K v
def abH:List TV->TV|[.lf (.t e) x]=>.lf (.t e) x|c=>.agg c
def ldK(τ:Nat->TI)(t:TypeId)(off:Nat)(cs:List TV)(K:TV->Option γ):Option γ:=
 match(τ t).agg with
 |some true=>match(τ t).size with
  |some n=>splitK 60 cs off λ_ b=>splitK 60 b n λc _=>K (abH c)|none=>none
 |some false=>splitK 60 cs off λ_ b=>aoj 60 b K|none=>none
def Em(H:List TObj):TV->Option (List TV)
 | .agg c=>some c| .unk=>none| .tup _=>none| .lf (.m _) _=>none| .nat n=>some [.lf (.n .i64) (n:Int)]| .own l=>match nth .dead H l with| .own _ _=>some [.own l]| .gone _ _=>some [.own l]|_=>none
 | .psl l z none=>match nth .dead H l with| .arr _ _=>some [.psl l z none]| .gon _=>some [.psl l z none]|_=>none
 |v=>some [v]
def ug(H:List TObj)(w:Bool)(t:LT)(v:TV)(K:U->Option γ):Option γ:=
 match v with
 | .lf a x=>K ⟨a,x⟩| .nat n=>K ⟨.n .i64,(n:Int)⟩| .nils=>bif w then(match t with| .l e=>K ⟨.l e,[]⟩|_=>none)else none
 | .nilp=>bif w then(match t with| .f e=>K ⟨.f e,[]⟩|_=>none)else none
 | .own l=>bif w then(match nth .dead H l with| .own e s=>K ⟨.l e,s⟩| .gone e s=>K ⟨.l e,s⟩|_=>none)else none
 |_=>none
def ahL(L:LT->List TV->(U->List TV->Option γ)->Option γ):List LT->List TV->(List U->List TV->Option γ)->Option γ|[],c,K=>K [] c|t::s,c,K=>L t c λu r=>ahL L s r λus r=>K (u::us) r
def RV(H:List TObj)(w:Bool):Nat->LT->List TV->(U->List TV->Option γ)->Option γ|0,_,_,_=>none|f+1,t,s,K=>match s with
  |[]=>none|c::r=>match c with
   | .lf (.t a) x=>match LT.eq? (.t a) t with|some _=>K ⟨.t a,x⟩ r|none=>match t with| .t e=>bif Nat.ble e.sz a.sz then RV H w f t (comps a x++r) K else ahL (RV H w f) e.cs s λus r=>zD e.cs us λy=>K ⟨.t e,e.mk y⟩ r|t=>RV H w f t (comps a x++r) K
   |v=>match t with| .t e=>ahL (RV H w f) e.cs s λus r=>zD e.cs us λy=>K ⟨.t e,e.mk y⟩ r|t=>ug H w t v λu=>K u r
def Hq(H:List TObj)(e:ET)(v:TV)(K:e.D->Option γ):Option γ:=
 match Em H v with
  |some c=>RV H true 60 (.t e) c λu r=>match r with|[]=>jU (.t e) u K|_=>none
  |none=>none
def aok H(e:ET)(v:TV)(K:e.D->Option γ):=
 match e with
 | .i=>ug H true (.n .i64) v λu=>jU (.n .i64) u K| .u=>ug H true (.n .u8) v λu=>jU (.n .u8) u K| .s=>ug H true .s v λu=>jU .s u K| .b=>ug H true .b v λu=>jU .b u K| .car=>Hq H .car v K| .dec=>Hq H .dec v K| .ty=>Hq H .ty v K| .tm=>Hq H .tm v K| .env=>Hq H .env v K| .val=>Hq H .val v K
 | .bnd=>Hq H .bnd v K| .vals=>ug H true (.l .val) v λu=>jU (.l .val) u K| .tms=>ug H true (.l .tm) v λu=>jU (.l .tm) u K
end
end
end
section
open Go
noncomputable section
inductive TWr where
 |sl (n:Nat) (v:TV)
 |ob (l:Nat) (o:TObj)
 |st (l off:Nat) (vs:List TV)
 |kill (l:Nat)
 |nw (l:Nat) (o:TObj)
 |up (l:Nat) (i:Int) (e:ET) (y:e.D)
def eZ(d:Option Tmp)(v:TV):List TWr:=match d with|some n=>[.sl n v]|none=>[]
def ajD:Value->TV| .int k n=>bif decide (k.min<=n)&&decide (n<=k.max)then .lf (.n k) n else .unk| .bool b=>.lf .b b| .string s=>bif decide (s.data.toList.length<=9223372036854775807)then .lf .s s.data.toList else .unk| .pointer none=>.nilp| .slice none 0 0=>.nils| .nilFunc=>.nilF|_=>.unk
def aA8:Value->TV| .agg c=>.agg (c.toList.map ajD)|v=>ajD v
def WB:AV->TV| .int k n=>.lf (.n k) n| .bool b=>.lf .b b| .str s=>.lf .s s| .nilp=>.nilp| .slice [] .nils=>.nils| .nilFunc=>.nilF|_=>.unk
def okA:AV->Bool| .int _ _=>true| .bool _=>true| .str _=>true| .nilp=>true| .slice [] .nils=>true| .nilFunc=>true| .unk=>true|_=>false
def abu:List AV->Bool|[]=>true|a::s=>okA a&&abu s
def aa7:AV->TV| .agg c=>.agg (c.map WB)|v=>WB v
def okZ:AV->Bool| .agg c=>abu c|v=>okA v
def lM:TObj->Bool| .res=>true|_=>false
def fq(r:List TV):Operand->TV| .tmp n=>nth .unk r n| .const v=>aA8 v| .func f=>.func f []| .global _=>.unk
def mem(l:List Nat)(n:Nat):=List.rec (motive:=λ_=>Bool) false (λx _ i=>bif Nat.beq x n then true else i) l
def apa(k:IntKind)(a c:Int):=if 0<=c/\c<=k.bits then some (a.fdiv (2^c.toNat))else none
def arH(a c:Int):=if c=0 then none else some (IntKind.wrap .i64 (a.tdiv c))
section
variable {γ:Type}
def aoo:Int->Bool| .ofNat 1=>true|_=>false
def Mk(v:TV)(K:IntKind->Int->Option γ):=match v with| .lf (.n k) x=>K k x| .nat n=>K .i64 n|_=>none
def ay1 k k':=Nat.beq (IntKind.no k) (IntKind.no k')
def isNat:TV->Bool| .nat _=>true|_=>false
def apc p q(op:BinOp)(k:IntKind)(a b:Int)(K:TV->Option γ):=
 match op with
 | .add=>bif p&&aoo b then K (.lf (.n k) (a+b))else K (.lf (.n k) (k.wrap (a+b)))| .sub=>bif q&&aoo b then K (.lf (.n k) (a - b))else K (.lf (.n k) (k.wrap (a - b)))| .mul=>K (.lf (.n k) (k.wrap (a*b)))| .quo=>match k with| .i64=>(arH a b).bind λx=>K (.lf (.n .i64) x)|_=>none
 | .rem=>(aeM a b).bind λx=>K (.lf (.n k) x)| .eql=>K (.lf .b (a==b))| .neq=>K (.lf .b (a !=b))| .lss=>K (.lf .b (decide (a<b)))| .leq=>K (.lf .b (decide (a<=b)))| .gtr=>K (.lf .b (decide (b<a)))| .geq=>K (.lf .b (decide (b<=a)))| .shl=>match k with| .i64=>(Zi a b).bind λx=>K (.lf (.n .i64) x)|_=>none
 | .shr=>(apa k a b).bind λx=>K (.lf (.n k) x)|_=>none
def aAW(op:BinOp)(a b:Str)(K:TV->Option γ):=
 match op with
 | .add=>(avD a b).bind λx=>K (.lf .s x)| .eql=>K (.lf .b (a==b))| .neq=>K (.lf .b !a==b)| .lss=>K (.lf .b (Op.bytesLess a b))| .leq=>K (.lf .b (Op.bytesLess a b ||a==b))
 | .gtr=>K (.lf .b !(Op.bytesLess a b ||a==b))
 | .geq=>K (.lf .b !Op.bytesLess a b)|_=>none
def aBO(op:BinOp)(a b:Bool)(K:TV->Option γ):=match op with| .eql=>K (.lf .b (a==b))| .neq=>K (.lf .b !a==b)|_=>none
def aBk(τ:Nat->TI)p o(op:BinOp)(t:TypeId)(x y:TV)(K:TV->Option γ):=
 match y with
 | .nilp=>bif (τ t).isPtr then(match op,x with
  | .eql,.nilp=>K (.lf .b true)| .neq,.nilp=>K (.lf .b false)| .eql,.ptr _ _=>K (.lf .b false)| .neq,.ptr _ _=>K (.lf .b true)| .eql,.eptr _=>K (.lf .b false)| .neq,.eptr _=>K (.lf .b true)| .eql,.lf (.f _) l=>K (.lf .b (false !=List.isEmpty l))| .neq,.lf (.f _) l=>K (.lf .b (true !=List.isEmpty l))|_,_=>none)else none
 | .lf .s b=>match x with| .lf .s a=>aAW op a b K|_=>none
 | .lf .b b=>match x with| .lf .b a=>bif (τ t).isBool then aBO op a b K else none|_=>none
 |y=>Mk x λk a=>Mk y λk' b=>bif ay1 k k' then apc (p&&o) (isNat x&&o) op k a b K else none
def agW(H:List TObj)(v:TV)(K:(e:ET)->List e.D->Option γ):Option γ:=
 match v with
 | .lf (.l e) x=>K e x| .own l=>match nth .dead H l with| .own e x=>K e x| .gone e x=>K e x|_=>none
 |_=>none
def P9(v:Option TV)(d:Int)(K:Int->Option γ):=match v with|none=>K d|some v=>Mk v λ_ n=>K n
def ahO(H:List TObj)(place:Nat->Option (Nat×Nat)):List (Nat×TV)->List TV->(List TV->Option γ)->Option γ|[],c,K=>K c|(i,v)::p,c,K=>match place i with
  |some (o,s)=>match Em H v with|some n=>bif Nat.beq (widths n) s then splitK 99 c o λa b=>splitK 99 b s λ_ d=>ahO H place p (a++(n++d)) K else none|none=>none
  |none=>none
def aoI(H:List TObj)(e:ET):Nat->List (Nat×TV)->(List e.D->Option γ)->Option γ|_,[],K=>K []|i,p::s,K=>bif Nat.beq p.1 i then aok H e p.2 λx=>aoI H e (i+1) s λxs=>K (x::xs)else none
def aaI(e:ET)(sz:Nat):=Nat.beq e.sz sz
def atK(n:Int):Nat->Nat->(Nat->Option γ)->Option γ|0,_,_=>none|m+1,q,K=>cond (n==q) (K q) (atK n m (q+1) K)
def isZ:Int->Bool| .ofNat 0=>true|_=>false
def mkS(b:Nat)(c:Int):=if 0<=c/\b*c<=281474976710656/\c<=140737488355328 then some ()else none
def Dw(len:Nat)(b:Int):=if 0<=b/\b<=len then some b.toNat else none
def Pn:TV->TV| .nat n=>.lf (.n .i64) (n:Int)|v=>v
def dG(τ:Nat->TI)(θ:Nat->Option ET)(up:List Nat)(k:Nat)(d:Option Tmp)(g:List TV)(H:List TObj)(op:Op)(K:List Nat->List TWr->Option γ):Option γ:=
 match op with
 | .move x=>K [] (eZ d (fq g x))| .assign x=>K [] (eZ d (fq g x))| .pick c x y=>match fq g c with| .lf .b b=>cond b (K [] (eZ d (fq g x))) (K [] (eZ d (fq g y)))|_=>none
 | .nilCheck x=>match fq g x with
  | .lf (.f e) l=>(unc l).bind λp=>K [] (eZ d (.eptr [e.seg p.1,.lf (.f e) p.2]))| .ptr l o=>K [] (eZ d (.ptr l o))| .eptr cs=>K [] (eZ d (.eptr cs))| .func f cs=>K [] (eZ d (.func f cs))|_=>none
 | .binOp op t x y _=>aBk τ (match x with| .tmp i=>mem up i|_=>false) (match y with| .const _=>true|_=>false) op t (fq g x) (fq g y) λv=>K [] (eZ d v)
 | .unOp op _ x=>match op,fq g x with
  | .not,.lf .b b=>K [] (eZ d (.lf .b (!b)))| .neg,.lf (.n k') n=>K [] (eZ d (.lf (.n k') (k'.wrap ((0:Int) - (show Int from n)))))|_,_=>none
 | .fieldAddr s x f=>match lk (τ s).field f with
  |some (fo,_)=>match fq g x with
   | .ptr l o=>K [] (eZ d (.ptr l (o+fo)))| .eptr cs=>splitK 60 cs fo λ_ b=>K [] (eZ d (.eptr b))| .ap l i z o=>K [] (eZ d (.ap l i z (o+fo)))|_=>none
  |none=>none
 | .field s x f=>match lk (τ s).field f with
  |some (fo,t)=>match fq g x with
   | .agg cs=>ldK τ t fo cs λv=>K [] (eZ d (Pn v))| .lf (.t e) y=>ldK τ t fo [.lf (.t e) y] λv=>K [] (eZ d (Pn v))|_=>none
  |none=>none
 | .indexAddr t x i=>match(τ t).ix with
  | .sl (some sz)=>Mk (fq g i) λ_ n=>match fq g x with
   | .psl l z none=>match nth .dead H l with| .arr _ xs=>bif Nat.beq z sz then(idx xs n).bind λ_=>K [] (eZ d (.ap l n z 0))else none|_=>none
   |v=>agW H v λe xs=>bif aaI e sz then(idx xs n).bind λy=>K [] (eZ d (.eptr [e.seg y]))else none
  | .arr len (some sz)=>match fq g x with
   | .ptr l o=>Mk (fq g i) λ_ n=>atK n len 0 λq=>K [] (eZ d (.ptr l (o+q*sz)))|_=>none
  |_=>none
 | .index t x i=>match fq g x with
  | .lf .s s=>bif (τ t).isStr then Mk (fq g i) λ_ n=>(nC s n).bind λy=>K [] (eZ d (.lf (.n .u8) y))else none|_=>none
 | .extract x i=>match fq g x with| .tup vs=>bif Nat.blt i vs.length then K [] (eZ d (Pn (nth .unk vs i)))else none|_=>none
 | .slice t x lo hi none=>match fq g x with
  | .lf .s s=>bif (τ t).isStr then P9 (lo.map (fq g)) 0 λa=>P9 (hi.map (fq g)) (s.length:Int) λb=>(jM s a b).bind λy=>K [] (eZ d (.lf .s y))else none| .psl l z none=>match nth .dead H l,(τ t).slT,lo with
   | .arr _ xs,some _,none=>P9 (hi.map (fq g)) (xs.length:Int) λb=>(Dw xs.length b).bind λc=>K [] (eZ d (.psl l z (some c)))|_,_,_=>none
  |v=>match(τ t).slT with|some sz=>agW H v λe xs=>bif aaI e sz then P9 (lo.map (fq g)) 0 λa=>P9 (hi.map (fq g)) (xs.length:Int) λb=>(jM xs a b).bind λy=>K [] (eZ d (.lf (.l e) y))else none|none=>none
 | .build t parts=>bif (τ t).isStruct then(match(τ t).zero with
  |some z=>bif abu z then ahO H (lk (τ t).place) (parts.toList.map λp=>(p.1,fq g p.2)) (z.map WB) λcs=>K [] (eZ d (abH cs))else none|none=>none)else(match(τ t).ix,(τ t).zero with
  | .arr _ (some sz),some z=>bif abu z then ahO H (λi=>some (i*sz,sz)) (parts.toList.map λp=>(p.1,fq g p.2)) (z.map WB) λcs=>K [] (eZ d (abH cs))else none|_,_=>none)
 | .makeFunc (.func f) first cap=>bif Nat.beq first.size 0 then K [] (eZ d (.func f (cap.toList.map λx=>Pn (fq g x))))else none| .load t x=>match fq g x with
  | .eptr cs=>ldK τ t 0 cs λv=>K [] (eZ d (Pn v))| .ptr l off=>match nth .dead H l with| .box cs=>ldK τ t off cs λv=>K [l] (eZ d (Pn v))|_=>none
  | .ap l i z off=>match nth .dead H l with| .arr e xs=>bif Nat.beq z e.sz&&(Nat.beq off 0&&Nat.ble 1 z)then(idx xs i).bind λy=>ldK τ t 0 [e.seg y] λv=>K [l] (eZ d (Pn v))else none|_=>none
  |_=>none
 | .convert s t x=>match fq g x with
  | .lf (.n _) n=>bif (τ s).int.isSome then(match(τ t).int with|some k=>K [] (eZ d (.lf (.n k) (k.wrap n)))|none=>none)else none
  | .nat n=>bif (τ s).int.isSome then(match(τ t).int with|some k=>K [] (eZ d (.lf (.n k) (k.wrap (n:Int))))|none=>none)else none
  |_=>none
 | .store t x y=>match fq g x with
  | .ptr l off=>match Em H (fq g y),(τ t).size with
   |some new,some sz=>match nth .dead H l with
    | .box cs=>bif (Nat.beq (widths new) sz&&Nat.ble (off+sz) (widths cs))&&afS H new then K [l] (.st l off new::eZ d (.tup []))else none|_=>none
   |_,_=>none
  | .ap l i z off=>match Em H (fq g y),(τ t).size with
   |some new,some sz=>match nth .dead H l with
    | .arr e xs=>bif (Nat.beq (widths new) sz&&(Nat.beq z e.sz&&(Nat.ble 1 sz&&Nat.ble (off+sz) z)))&&afS H new then(idx xs i).bind λx=>uD (comps e x) off new λcs=>RV H false 60 (.t e) cs λu r=>match r with|[]=>jU (.t e) u λy=>K [l] (.up l i e y::eZ d (.tup []))|_=>none else none
    |_=>none
   |_,_=>none
  |_=>none
 | .alloc t=>match(τ t).zero with
  |some z=>bif abu z&&lM (nth .dead H k)then K [k] (.nw k (.box (z.map WB))::eZ d (.ptr k 0))else none|none=>none
 | .box _ x=>match Em H (fq g x)with
  |some cs=>bif lM (nth .dead H k)then K [k] (.nw k (.box cs)::eZ d (.ptr k 0))else none|none=>none
 | .makeMap t none=>match(τ t).smap with
  |some e=>match θ e with
   |some e=>bif lM (nth .dead H k)then K [k] (.nw k (.mp e [])::eZ d (.mapr k))else none
   |none=>none
  |none=>none
 | .buildSlice t len parts=>match(τ t).elem with
  |some (et,sz,_)=>match θ et,(τ et).zero with
   |some e,some z=>bif (Nat.beq parts.toList.length len&&(aaI e sz&&lM (nth .dead H k)))&&(Nat.beq z.length sz&&(Nat.ble (len*sz) 16777216&&Nat.ble len 16777216))then aoI H e 0 (parts.toList.map λp=>(p.1,fq g p.2)) λxs=>K [k] (.nw k (.own e xs)::eZ d (.own k))else none
   |_,_=>none
  |none=>none
 | .makeSlice t x y=>match(τ t).elem with
  |some (et,sz,bytes)=>match θ et,(τ et).zero with
   |some e,some z=>Mk (fq g x) λ_ l=>Mk (fq g y) λ_ c=>bif isZ l&&(aaI e sz&&(Nat.beq z.length sz&&lM (nth .dead H k)))then(mkS bytes c).bind λ_=>K [k] (.nw k (.arr e [])::eZ d (.psl k sz none))else none
   |_,_=>none
  |none=>none
 | .call {callee:=.builtin .len,args,argTypes}=>match args.toList,argTypes.toList with
  |[x],[t]=>match fq g x with
   | .lf .s s=>bif (τ t).isStr then K [] (eZ d (.nat s.length))else none
   | .nils=>bif (τ t).slT.isSome then K [] (eZ d (.nat 0))else none
   | .psl l _ none=>match nth .dead H l with
    | .arr _ xs=>bif (τ t).slT.isSome then K [] (eZ d (.nat xs.length))else none
    |_=>none
   |v=>bif (τ t).slT.isSome then agW H v λ_ xs=>K [] (eZ d (.nat xs.length))else none
  |_,_=>none
 | .call {callee:=.builtin .min,args,argTypes:=_}=>match args.toList with
  |[x,y]=>Mk (fq g x) λk a=>Mk (fq g y) λk' b=>bif ay1 k k' then K [] (eZ d (.lf (.n k) (if b<a then b else a)))else none
  |_=>none
 | .call {callee:=.builtin .append,args,argTypes}=>match args.toList,argTypes.toList with
  |[x,y],[t,t2]=>match(τ t).elem with
   |some (et,sz,bytes)=>match θ et with
    |some e=>bif aaI e sz&&((τ t2).isSl&&lM (nth .dead H k))then ug H true (.l e) (fq g y) λu=>jU (.l e) u λys=>(match fq g x with
     | .nils=>(app bytes ([]:List e.D) ys).bind λr=>K [k] (.nw k (.own e r)::eZ d (.own k))
     | .own l=>match nth .dead H l with
      | .own e' xs=>jU (.l e) ⟨.l e',xs⟩ λxs=>(app bytes xs ys).bind λr=>K [l,k] (.kill l:: .nw k (.own e r)::eZ d (.own k))
      |_=>none
     | .psl l z none=>match nth .dead H l with
      | .arr e' xs=>bif Nat.beq z sz then jU (.l e) ⟨.l e',xs⟩ λxs=>(app bytes xs ys).bind λr=>K [l,k] (.kill l:: .nw k (.arr e r)::eZ d (.psl k z none))else none
      |_=>none
     |_=>none)else none
    |none=>none
   |none=>none
  |_,_=>none
 | .lookup t m key ok=>match(τ t).smap,fq g m,fq g key with
  |some et,.mapr l,.lf .s s=>match nth .dead H l,(τ et).zav with
   | .mp e xs,some z=>bif okZ z then mel (dO xs s) (K [l] (eZ d (bif ok then .tup [aa7 z,.lf .b false]else aa7 z))) λy=>K [l] (eZ d (bif ok then .tup [e.seg y,.lf .b true]else e.seg y))else none
   |_,_=>none
  |_,_,_=>none
 | .mapUpdate t m key x=>match(τ t).smap,fq g m,fq g key with
  |some _,.mapr l,.lf .s s=>match nth .dead H l with
   | .mp e xs=>aok H e (fq g x) λy=>(wY xs s y).bind λr=>K [l] (.ob l (.mp e r)::eZ d (.tup []))
   |_=>none
  |_,_,_=>none
 |_=>none
end
end
end
section
def aH{σ δ:Type}(b:(σ->Option δ)->σ->Option δ)n:=Nat.rec (motive:=λ_=>σ->Option δ) (λ_=>none) (λ_ i=>b i) n
inductive PZ(α ζ:Type) where
 |ok (x:α)
 |er (e:Int) (z:ζ)
def PZ.el{α ζ β:Type}(f:α->Option β)(g:Int->ζ->Option β):PZ α ζ->Option β| .ok x=>f x| .er e z=>g e z
end
end Abs
end Go.Proofs.YtneeginmfjageaaGreat
