/-
  Literals of slices, appends, maps; any operation. Conditions: none; lemmas over any program.
-/
import Derived.Test.YtfmdmcenjfkbhaaGreatDoorCTaboxf534ce
set_option linter.all false
namespace Go.Proofs.YtfmdmcenjfkbhaaGreatDoor
namespace Abs
section
open Go
section
variable {P:Program}{γ:Type}{b:γ}{H:List TObj}{t:List TV}{θ:Nat→Option ET}{up:List Nat}{k:Nat}{d:Option Tmp}{ty:TypeId}{ps:String}{aft:Array Edge}{gd:Option (Nat×Bool)}{K:List Nat→List TWr→Option γ}
theorem qj{k:Nat}(h:fA (nth .dead H k)=true):k<H.length:=by
 apply qAm;intro hn;rw[dF,List.getD,qAo (qAM hn)]at h;cases h
theorem aW{α:Type}{d:α}{l:List α}{k:Nat}{v:α}(h:k<l.length):nth d (l.set k v) k=v:=by rw[dF];simp[h]
theorem aL{α:Type}{d:α}{l:List α}{k m:Nat}{v:α}(h:k≠m):nth d (l.set k v) m=nth d l m:=by rw[dF,dF];simp[qBF h]
theorem xQ{k z:Nat}{e:ET}{r:List e.D}(h:k<H.length):av (H.set k (.arr e r)) (.psl k z none)=.psl k z r.length:=by simp only[av,aW h,bI]
theorem CF{k:Nat}{e:ET}{r:List e.D}(h:k<H.length):av (H.set k (.own e r)) (.own k)=.slice (r.map e.enc) (.tip k e.sz):=by simp only[av,aW h,bV]
theorem Yt{e:ET}:∀(l:List (Nat×Operand)) (i:Nat) (K:List e.D→Option γ),Sq H e i (l.map fun p=>(p.1,bT t p.2)) K=some b→
  ∃(xs:List e.D) (css:List (List AV)),K xs=some b∧Ci i l=true∧css.length=l.length∧(∀c∈css,c.length=e.sz)∧(∀j:Nat,j<l.length→∃p,l[j]? =some p∧bH (aN (aI H t) p.2)=css[j]?)∧css.map (fun c=>c.map shr)=xs.map e.enc:=by
 intro l
 induction l with
 |nil=>intro i K h;exact⟨[],[],h,rfl,rfl,fun c hc=>(by cases hc),fun j hj=>(by cases hj),rfl⟩
 |cons p l ih=>
  intro i K h;rcases aM h with⟨hi,h⟩|⟨_,h⟩
  ·obtain⟨x,cs,h1,h2,h3⟩:=aaN h;obtain⟨xs,css,g1,g2,g3,g4,g5,g6⟩:=ih _ _ h1;refine⟨x::xs,cs::css,g1,by simp only[Ci,hi,g2,qCi],by simp[g3],?_,?_,by simp only[qAz,Rx h3,g6]⟩
   ·intro c hc;rcases qAh.1 hc with rfl|hc
    ·rw[←h3.len,vg]
    grind
   ·intro j hj;cases j with
    |zero=>exact⟨p,rfl,by rw[aU];exact h2⟩
    |succ j=>
     grind
  ·cases h
theorem OX{tt:TypeId}{len:Nat}{parts:Array (Nat×Operand)}(h:bg (TI.of P) θ up k d t H (.buildSlice tt len parts) K=some b):jP P H t k (op' d (.buildSlice tt len parts) ty ps aft gd) K b:=by
 simp only[bg]at h;split at h
 ·rename_i et sz by_ he;have he:fF P tt=some (et,sz,by_):=he;split at h
  ·rename_i e z hθ hz;have hz:gu P et=some z:=hz;rcases aM h with⟨hi,h⟩|⟨hi,h⟩
   ·rcases aM h with⟨hc,hh⟩|⟨_,h⟩
    ·simp only[qAa]at hc;obtain⟨c2,c3,c4⟩:=hc;have c2:=uX c2;subst c2;have c4:=qAc c4;obtain⟨hl,hp⟩:=Vj hi;subst hl;refine oZ (rd:=[k]) ?_ hh;simp only[aD,aj,he,hz,hi];rw[if_pos ⟨jY c3,by omega,by omega,c4⟩,hp];simp only[mM,AU,dS];rw[xQ (qj c3)];rfl
    ·cases h
   rcases aM h with⟨hc,hh⟩|⟨_,h⟩
   ·clear h;simp only[qAa]at hc;obtain⟨⟨c1,c2,c3⟩,c4,c5,c6⟩:=hc;have c1:=qAc c1;have c2:=uX c2;subst c2;have c4:=qAc c4;have c5:=qAf c5;have c6:=qAf c6;obtain⟨xs,css,g1,g2,g3,g4,g5,g6⟩:=Yt _ _ _ hh;have hlen:((List.replicate len z).flatten).length=len*e.sz:=by
     simp_all
    have hf:=Ih (ρ:=aN (aI H t)) (sz:=e.sz) parts.toList 0 css ((List.replicate len z).flatten) g2 g3 g4 g5 (by rw[hlen,qAu,c1];exact qAq _);rw[qCQ,qBj,qAC,qAu,c1,qCZ (by rw[hlen];exact qAq _),qAt]at hf;refine oZ (rd:=[k]) ?_ g1;simp only[aD,aj,he,hz];rw[if_pos ⟨jY c3,c5,c6,c4⟩,hf];have hx:xs.length=len:=by
     have:=congrArg List.length g6
     grind
    have hch:chunks e.sz len (css.flatten.map shr)=xs.map e.enc:=by
     have:=chunks_flatten (sz:=e.sz) (css:=css.map fun c=>c.map shr) (fun c hc=>by
      obtain⟨c',h1,rfl⟩:=qBc.1 hc;rw[qAi];exact g4 c' h1)
     grind
    simp only[qAv,hi,cond_false,mM,qR,bY,dS,AU,CF (qj c3),hch,hx]
   ·cases h
  ·cases h
 ·cases h
theorem aeh{l:Int}(h:isZ l=true):l=0:=by unfold isZ at h;split at h;rfl;cases h
theorem ZO{x y:Operand}(h:Wn x y=true):x=y:=by
 unfold Wn at h;split at h
 ·rw[qAc h]
 ·cases h
theorem acz{z:List AV}(h:aap z=true):z=[.bool false]:=by
 unfold aap at h;split at h
 ·rfl
 ·cases h
theorem Rw{tt:TypeId}{x y:Operand}(h:bg (TI.of P) θ up k d t H (.makeSlice tt x y) K=some b):jP P H t k (op' d (.makeSlice tt x y) ty ps aft gd) K b:=by
 simp only[bg]at h;split at h
 ·rename_i et sz by_ he;have he:fF P tt=some (et,sz,by_):=he;split at h
  ·rename_i e z hθ hz;have hz:gu P et=some z:=hz;obtain⟨k1,l,e1,h1,_⟩:=oC (H:=H) h;obtain⟨k2,c,e2,h2,_⟩:=oC (H:=H) h1;rcases aM h2 with⟨hc,hh⟩|⟨_,h2⟩
   ·simp only[qAa]at hc;obtain⟨⟨c1,c2⟩,c3,c4,c5⟩:=hc;have c1:=ZO c1;have c2:=acz c2;have c3:=qAc c3;have c4:=qAf c4;subst c1 c2 c3;obtain⟨xs,h3,h4⟩:=ob hh;cases e1.symm.trans e2;unfold mkz at h3;split at h3
    ·rename_i hm;cases h3;refine oZ (rd:=[k]) ?_ h4;simp only[aD,he,aU,e1,hz];rw[if_pos ⟨jY c5,hm.1,qCu _,by have:=Int.mul_le_mul (Int.ofNat_le.2 c4) hm.2 hm.1 (by omega);omega,by omega,rfl⟩];simp only[mM,AU,dS];rw[xQ (qj c5)];simp only[qR,bY,qAS,qCa];rfl
    ·cases h3
   rcases aM h2 with⟨hc,hh⟩|⟨_,h⟩
   ·simp only[qAa]at hc;obtain⟨c1,c2,c3,c4⟩:=hc;have c1:=aeh c1;have c2:=uX c2;have c3:=qAc c3;subst c1;subst c2;obtain⟨_,h3,h4⟩:=ob hh;unfold mkS at h3;split at h3
    ·rename_i hm;refine oZ (rd:=[k]) ?_ h4;simp only[aD,he,aU,e1,e2,hz];rw[if_pos ⟨jY c4,by omega,hm.1,hm.2.1,hm.2.2,c3⟩];simp only[mM,AU,dS];rw[xQ (qj c4)];rfl
    ·cases h3
   ·cases h
  ·cases h
 ·cases h
theorem Yn{args:Array Operand}{ats:Array TypeId}(h:bg (TI.of P) θ up k d t H (.call {callee:=.builtin .append,args,argTypes:=ats}) K=some b):jP P H t k (op' d (.call {callee:=.builtin .append,args,argTypes:=ats}) ty ps aft gd) K b:=by
 simp only[bg]at h;split at h
 ·rename_i x y t1 t2 ha hat;split at h
  ·rename_i et sz by_ he;have he:fF P t1=some (et,sz,by_):=he;split at h
   ·rename_i e hθ;rcases aM h with⟨hc,hh⟩|⟨_,h⟩
    ·clear h;simp only[qAa]at hc;obtain⟨c2,c7,c3⟩:=hc;have c2:=uX c2;subst c2;have c7:aD.isSliceT P t2=true:=c7;obtain⟨ys,h1,_,h2⟩:=ab2 (H:=H) (t:=.l e) (fun e h=>by cases h) hh;obtain⟨tg,hy⟩:∃tg,av H (bT t y)=.slice (ys.map e.enc) tg:=by
      simp only[eP]at h2;generalize av H (bT t y)=a at h2;cases h2
      ·grind
      grind
     split at h1
     ·rename_i hx;obtain⟨r,h3,h4⟩:=ob h1;obtain⟨q1,q2,rfl⟩:=uW h3;simp only[qAx,qAu]at q1 q2;refine oZ (rd:=[k]) ?_ h4;simp only[aD,aj,ha,hat,he,c7,aU,hx,hy,av];rw[if_pos ⟨jY c3,trivial,by rw[qAi];exact q1,by rw[qAi];exact q2,nZ (qZ e) _⟩];simp only[mM,qR,bY,dS,AU,CF (qj c3),qAC,qAi]
     ·rename_i l hx;split at h1
      ·rename_i e' xs hl;obtain⟨xs',e1,g1⟩:=eY h1;clear h1;cases e1;obtain⟨r,h3,h4⟩:=ob g1;obtain⟨q1,q2,rfl⟩:=uW h3;have hlk:l≠k:=fun e=>by subst e;rw[hl]at c3;cases c3
       refine oZ (rd:=[l,k]) ?_ h4;have hx2:av H (TV.own l)=.slice (List.map e.enc xs') (.tip l e.sz):=by simp only[av,hl,bV]
       have hσ:obj? (au H) l=.tip (xs'.length*e.sz):=by rw[fC,hl];rfl
       simp only[aD,aj,ha,hat,he,c7,aU,hx,hy,hx2,hσ];rw[if_pos ⟨jY c3,by rw[qAi],trivial,by simp only[qAi];exact q1,by simp only[qAi];exact q2,nZ (qZ e) _,nZ (qZ e) _⟩];simp only[mM,qR,AU,hl,bY,dS];rw[CF (by rw[qAD];exact qj c3)];simp only[qAY,qAj,qAi]
      ·cases h1
     ·rename_i l z hx;split at h1
      ·rename_i e' xs hl;rcases aM h1 with⟨hz,h1⟩|⟨_,h1⟩
       ·have hz:z=e.sz:=qAc hz;subst hz;obtain⟨xs',e1,g1⟩:=eY h1;clear h1;cases e1;obtain⟨r,h3,h4⟩:=ob g1;obtain⟨q1,q2,rfl⟩:=uW h3;refine oZ (rd:=[l,k]) ?_ h4;have hx2:av H (TV.psl l e.sz none)=.psl l e.sz xs'.length:=by simp only[av,hl,bI]
        have hσ:obj? (au H) l=.arr e.sz (xs'.map e.enc):=by rw[fC,hl];rfl
        simp only[aD,aj,ha,hat,he,c7,aU,hx,hy,hx2,hσ];rw[if_pos ⟨jY c3,trivial,trivial,by simp only[qAi];exact qAq _,by simp only[qAi];exact q1,by simp only[qAi];exact q2,nZ (qZ e) _,nZ (qZ e) _⟩];simp only[mM,qR,AU,hl,bY,dS];rw[xQ (by rw[qAD];exact qj c3)];simp only[qAY,qAj,qAi,qCc (qBn (show(List.map e.enc xs').length=xs'.length from qAi e.enc))]
       ·cases h1
      ·cases h1
     ·rename_i e' xs hx;obtain⟨xs',e1,g1⟩:=eY h1;clear h1;cases e1;obtain⟨r,h3,h4⟩:=ob g1;obtain⟨q1,q2,rfl⟩:=uW h3;refine oZ (rd:=[k]) ?_ h4;have hx2:av H (TV.lf (.c e) xs')=.slice (List.map e.enc xs') (.full xs'.length):=rfl;simp only[aD,aj,ha,hat,he,c7,aU,hx,hy,hx2];rw[if_pos ⟨jY c3,by simp only[qAi];exact qAq _,by simp only[qAi];exact q1,by simp only[qAi];exact q2,nZ (qZ e) _,nZ (qZ e) _⟩];simp only[mM,qR,AU,bY,dS,av,eP,qAY]
     ·cases h1
    ·cases h
   ·cases h
  ·cases h
 ·cases h
theorem Ye{tt:TypeId}{m key:Operand}{ok:Bool}(h:bg (TI.of P) θ up k d t H (.lookup tt m key ok) K=some b):jP P H t k (op' d (.lookup tt m key ok) ty ps aft gd) K b:=by
 simp only[bg]at h;split at h
 ·rename_i et l s hm hmm hkk;have hm:kG P tt=some et:=hm;split at h
  ·rename_i e xs z hl hz;have hz:vZ P et=some z:=hz;rcases aM h with⟨ho,h⟩|⟨_,h⟩
   ·have key:∀v,av H v=qD ((dY xs s).map e.one) ok z→K [l] (bM d v)=some b→jP P H t k (op' d (.lookup tt m key ok) ty ps aft gd) K b:=fun v hv h=>by
     refine oZ (rd:=[l]) (ws:=bM d v) ?_ h;simp only[aD,aj,hm,aU,hmm,hkk,av,eP,fC,hl,bY,hz,dS,hv,I4]
    unfold mel at h;split at h
    ·rename_i y hy;cases ok
     ·exact key (e.seg y) (by rw[hy];exact R8 H e y) h
     ·exact key (.tup [e.seg y,.lf .b true]) (by rw[hy];simp only[av,aI,R8,qAv,qD,eP]) h
    ·rename_i hy;cases ok
     ·exact key (F6 z) (by rw[hy];simp only[qCl,qD,UL (H:=H) ho]) h
     ·exact key (.tup [F6 z,.lf .b false]) (by rw[hy];simp only[av,aI,UL (H:=H) ho,qCl,qD,eP]) h
   ·cases h
  ·cases h
 ·cases h
theorem adb{e:ET}{x:e.D}{xs:List AV}{a:AV}(h1:bH a=some xs)(h2:Cvs true (e.enc x) xs)(h3:e.sc=true→xs=[a]):kU a=e.one x:=by
 have hx:=Rx h2;have hl:xs.length=e.sz:=by rw[←h2.len,vg]
 have key:e.sc=false→kU a=.agg (e.enc x):=fun hsc=>by
  have h2:2≤e.sz:=by cases e<;>first|(cases hsc;done)|(simp[ET.sz])
  cases a with
  |agg cs=>cases h1;simp only[kU,hx]
  |unk=>cases h1
  |tup cs=>cases h1
  |_=>cases h1;simp at hl;omega
 cases e with
 |i=>have:=h3 rfl;subst this;cases h2 with|cons g _=>cases g;rfl
 |u=>have:=h3 rfl;subst this;cases h2 with|cons g _=>cases g;rfl
 |s=>have:=h3 rfl;subst this;cases h2 with|cons g _=>cases g;rfl
 |b=>have:=h3 rfl;subst this;cases h2 with|cons g _=>cases g;rfl
 |vals=>have:=h3 rfl;subst this;cases h2 with|cons g _=>cases g<;>rfl
 |tms=>have:=h3 rfl;subst this;cases h2 with|cons g _=>cases g<;>rfl
 |_=>exact key rfl
theorem Sv{tt:TypeId}{m key x:Operand}(h:bg (TI.of P) θ up k d t H (.mapUpdate tt m key x) K=some b):jP P H t k (op' d (.mapUpdate tt m key x) ty ps aft gd) K b:=by
 simp only[bg]at h;split at h
 ·rename_i et l s hm hmm hkk;have hm:kG P tt=some et:=hm;split at h
  ·rename_i e xs hl;obtain⟨y,cs,h1,h2,h3,h4⟩:=OJ h;obtain⟨r,h5,h6⟩:=ob h1;unfold Nc at h5;split at h5
   ·rename_i hlt;cases h5;refine oZ (rd:=[l]) ?_ h6;have hs:=adb h2 h3 h4;simp only[aD,hm,aU,hmm,hkk,av,eP,fC,hl,bY,qAi,hlt,mM,dS,hs,MO];rfl
   ·cases h5
  ·cases h
 ·cases h
end
end
section
open Go
noncomputable section
def bX(s:DS):ASt:=⟨aI s.h s.t,au s.h⟩
def Lk(H H':List TObj)(l:Nat):Prop:=bV l (nth .dead H l)=bV l (nth .dead H' l)∧∀z,bI l z (nth .dead H l)=bI l z (nth .dead H' l)
theorem je(n:Nat):Nat.beq n n=true:=qCS n
mutual
theorem BJ{H H':List TObj}:∀v:TV,(∀l,Py l v=true→Lk H H' l)→av H v=av H' v
 | .own l,h=>by simp only[av];exact(h l (je l)).1
 | .psl l z c,h=>by
  cases c with
  |none=>simp only[av,(h l (je l)).2 z]
  |some n=>rfl
 | .eptr cs,h=>by simp only[av];rw[qm cs h]
 | .agg cs,h=>by simp only[av];rw[qm cs h]
 | .tup cs,h=>by simp only[av];rw[Cy cs h]
 | .func f cs,h=>by simp only[av];rw[Cy cs h]
 | .unk,_=>rfl| .nilp,_=>rfl| .nilF,_=>rfl| .nils,_=>rfl| .lf _ _,_=>rfl| .nat _,_=>rfl| .ptr _ _,_=>rfl| .mapr _,_=>rfl| .ap _ _ _ _,_=>rfl
theorem qm{H H':List TObj}:∀vs:List TV,(∀l,gH l vs=true→Lk H H' l)→aO H vs=aO H' vs
 |[],_=>rfl
 |v::vs,h=>by
  simp only[aO];rw[BJ v fun l hl=>h l (by simp only[gH,hl,qCf]),qm vs fun l hl=>h l (by simp only[gH,hl,Bool.or_true])]
theorem Cy{H H':List TObj}:∀vs:List TV,(∀l,gH l vs=true→Lk H H' l)→aI H vs=aI H' vs
 |[],_=>rfl
 |v::vs,h=>by
  simp only[aI];rw[BJ v fun l hl=>h l (by simp only[gH,hl,qCf]),Cy vs fun l hl=>h l (by simp only[gH,hl,Bool.or_true])]
end
theorem Q7{H H':List TObj}(o:TObj)(h:∀cs,o=.box cs→∀l,gH l cs=true→Lk H H' l):bY H o=bY H' o:=by
 cases o with
 |box cs=>simp only[bY];rw[qm cs (h cs rfl)]
 |_=>rfl
theorem acQ(H:List TObj)(l:Nat)(o:TObj)(m:Nat):nth .dead (H.set l o) m=if l=m∧l<H.length then o else nth .dead H m:=by
 by_cases h:l=m
 ·subst h;by_cases hl:l<H.length
  ·rw[aW hl,if_pos ⟨rfl,hl⟩]
  ·rw[if_neg (fun h=>hl h.2),qBG (qAM hl)]
 ·rw[aL h,if_neg (fun k=>h k.1)]
theorem zn{H:List TObj}{l:Nat}{o:TObj}(h:bV l (nth .dead H l)=bV l o∧∀z,bI l z (nth .dead H l)=bI l z o)(m:Nat):Lk H (H.set l o) m:=by
 unfold Lk;rw[acQ]
 grind
theorem Fw{H:List TObj}{l:Nat}{o:TObj}{m:Nat}(h:l≠m):Lk H (H.set l o) m:=by
 unfold Lk;rw[aL h];exact⟨rfl,fun _=>rfl⟩
theorem qH{l:Nat}{o:TObj}(h:plainO o=true):bV l o=.unk∧∀z,bI l z o=.unk:=by
 cases o<;>first|exact⟨rfl,fun _=>rfl⟩|cases h
theorem R9{l:Nat}{o o':TObj}(h:plainO o=true)(h':plainO o'=true):bV l o=bV l o'∧∀z,bI l z o=bI l z o':=
 ⟨by rw[(qH h).1,(qH h').1],fun z=>by rw[(qH h).2,(qH h').2]⟩
def CP(H H':List TObj)(t:List TV):Prop:=(∀v∈t,av H v=av H' v)∧∀m,(∀cs,nth .dead H m=.box cs→aO H cs=aO H' cs)
theorem zZ{H H':List TObj}(t:List TV)(h:∀m,Lk H H' m):CP H H' t:=⟨fun v _=>BJ v fun l _=>h l,fun m cs _=>qm cs fun l _=>h l⟩
theorem OU:∀{t:List TV} {l:Nat} {v:TV},v∈t→gH l t=false→Py l v=false
 |x::t,l,v,hv,h=>by
  simp only[gH,qBe]at h;rcases qAh.1 hv with rfl|hv
  ·exact h.1
  ·exact OU hv h.2
theorem Ky:∀{H:List TObj} {l m:Nat} {cs:List TV},Co l H=false→nth .dead H m=.box cs→gH l cs=false
 |[],l,m,cs,_,h=>by cases h
 |o::H,l,m,cs,h,hm=>by
  simp only[Co,qBe]at h;cases m with
  |zero=>have e:o=.box cs:=hm;subst e;exact h.1
  |succ m=>exact Ky h.2 hm
theorem aaK{H:List TObj}{t:List TV}{l:Nat}{o:TObj}(h1:gH l t=false)(h2:Co l H=false):CP H (H.set l o) t:=by
 refine⟨fun v hv=>BJ v fun m hm=>Fw fun e=>?_,fun m cs hc=>qm cs fun q hq=>Fw fun e=>?_⟩
 ·subst e;rw[OU hv h1]at hm;cases hm
 ·subst e;rw[Ky h2 hc]at hq;cases hq
theorem R5{H H':List TObj}{t:List TV}(h:∀v∈t,av H v=av H' v):aI H t=aI H' t:=by
 rw[kL,kL];exact qAZ h
theorem aas{H:List TObj}{t:List TV}{l:Nat}{o:TObj}(h:CP H (H.set l o) t):au (H.set l o)=(au H).set l (bY (H.set l o) o):=by
 have key:∀m,bY (H.set l o) (nth .dead H m)=bY H (nth .dead H m):=fun m=>(by
  cases hm:nth .dead H m with
  |box cs=>simp only[bY,h.2 m cs hm]
  |_=>rfl)
 unfold au;generalize hH':H.set l o=H' at key;rw[←hH',qCE,hH'];congr 1;apply qBI;intro m;simp;cases hm:H[m]? with
 |none=>rfl
 |some x=>
  have:=key m;rw[dF,List.getD,hm]at this
  grind
theorem iy{α β:Type}:∀(l:List α) (n:Nat) (v:α) (K:List α→β),nU l n v K=K (l.set n v)
 |[],_,_,_=>rfl
 |_::_,0,_,_=>rfl
 |x::xs,n+1,v,K=>(iy xs n v fun ys=>K (x::ys)).trans rfl
theorem UZ{α γ:Type}{b:γ}:∀(l:List α) (n:Nat) (v:α) (K:List α→Option γ),ab8 l n v K=some b→n<l.length∧K (l.set n v)=some b
 |[],_,_,_,h=>by cases h
 |_::_,0,_,_,h=>⟨by simp,h⟩
 |x::xs,n+1,v,K,h=>by
  obtain⟨h1,h2⟩:=UZ xs n v (fun ys=>K (x::ys)) h
  grind
theorem af6{γ:Type}(v:TV)(K:TV→Option γ):fV v K=K v:=by cases v<;>rfl
section
variable {γ:Type}{b:γ}
def W1(s:DS):TWr→DS→Prop
 | .sl n v,s'=>n<s.t.length∧s'=⟨s.t.set n v,s.h,n::s.d,s.o,s.up.filter fun i=>!(Nat.beq i n),s.rl.filter fun p=>!(Nat.beq p.1 n ||(Nat.beq p.2.1 n ||Nat.beq p.2.2 n)),s.cp.filter fun p=>!(Nat.beq p.1 n ||Nat.beq p.2 n),s.oo⟩
 | .ob l o,s'=>plainO o=true∧plainO (nth .dead s.h l)=true∧s'={s with h:=s.h.set l o,o:=(l,0)::s.o}
 | .st l off vs,s'=>∃cs cs',nth .dead s.h l=.box cs∧lC cs off vs some=some cs'∧s'={s with h:=s.h.set l (.box cs'),o:=(rng (off+1) (widths vs)).map (fun q=>(l,q))++s.o}
 | .kill l,s'=>(∃e xs,nth .dead s.h l=.own e xs∧s'={s with h:=s.h.set l (.gone e xs),o:=(l,0)::s.o})∨(∃e xs,nth .dead s.h l=.arr e xs∧s'={s with h:=s.h.set l (.gon xs.length),o:=(l,0)::s.o})∨(((∃cs,nth .dead s.h l=.box cs)∨∃e xs,nth .dead s.h l=.mp e xs)∧s'={s with h:=s.h.set l .dead,o:=(l,0)::s.o})
 | .nw l o,s'=>fA (nth .dead s.h l)=true∧(plainO o=true∨gH l s.t=false∧Co l s.h=false)∧s'={s with h:=s.h.set l o,o:=(l,0)::s.o}
 | .up l i e y,s'=>∃xs,nth .dead s.h l=.arr e xs∧s'={s with h:=s.h.set l (.arr e (upd xs i y)),o:=(l,0)::s.o}
inductive Ws:DS→List TWr→DS→Prop where
 |nil (s:DS):Ws s [] s
 |cons {s s1 s2:DS} {w:TWr} {ws:List TWr}:W1 s w s1→Ws s1 ws s2→Ws s (w::ws) s2
theorem lJ:∀(ws:List TWr) (s:DS) (K:DS→Option γ),pI ws s K=some b→∃s',Ws s ws s'∧K s'=some b
 |[],s,K,h=>⟨s,.nil s,h⟩
 | .sl n v::ws,s,K,h=>by
  simp only[pI,af6]at h;obtain⟨hn,h⟩:=UZ _ _ _ _ h;obtain⟨s',h1,h2⟩:=lJ ws _ _ h;exact⟨s',(.cons (w:=.sl n v) (s1:=_) ⟨hn,rfl⟩ h1),h2⟩
 | .ob l o::ws,s,K,h=>by
  simp only[pI,iy]at h;rcases aM h with⟨hc,h⟩|⟨_,h⟩
  ·simp only[qAa]at hc;obtain⟨s',h1,h2⟩:=lJ ws _ _ h;exact⟨s',.cons ⟨hc.1,hc.2,rfl⟩ h1,h2⟩
  ·cases h
 | .st l off vs::ws,s,K,h=>by
  simp only[pI]at h;split at h
  ·rename_i cs hl;obtain⟨cs',h1,h2⟩:=Ow h;rw[iy]at h2;obtain⟨s',h3,h4⟩:=lJ ws _ _ h2;exact⟨s',.cons ⟨cs,cs',hl,h1,rfl⟩ h3,h4⟩
  ·cases h
 | .kill l::ws,s,K,h=>by
  simp only[pI]at h;split at h
  ·rename_i e xs hl;rw[iy]at h;obtain⟨s',h1,h2⟩:=lJ ws _ _ h;exact⟨s',.cons (.inl ⟨e,xs,hl,rfl⟩) h1,h2⟩
  ·rename_i e xs hl;rw[iy]at h;obtain⟨s',h1,h2⟩:=lJ ws _ _ h;exact⟨s',.cons (.inr (.inl ⟨e,xs,hl,rfl⟩)) h1,h2⟩
  ·rename_i cs hl;rw[iy]at h;obtain⟨s',h1,h2⟩:=lJ ws _ _ h;exact⟨s',.cons (.inr (.inr ⟨.inl ⟨cs,hl⟩,rfl⟩)) h1,h2⟩
  ·rename_i e xs hl;rw[iy]at h;obtain⟨s',h1,h2⟩:=lJ ws _ _ h;exact⟨s',.cons (.inr (.inr ⟨.inr ⟨e,xs,hl⟩,rfl⟩)) h1,h2⟩
  ·cases h
 | .nw l o::ws,s,K,h=>by
  simp only[pI]at h;rcases aM h with⟨hc,h⟩|⟨_,h⟩
  ·simp only[qAa,qBg,qBb,qBe]at hc;rw[iy]at h;obtain⟨s',h1,h2⟩:=lJ ws _ _ h;exact⟨s',.cons ⟨hc.1,hc.2,rfl⟩ h1,h2⟩
  ·cases h
 | .up l i e y::ws,s,K,h=>by
  simp only[pI]at h;split at h
  ·rename_i e' xs hl;split at h
   ·rename_i q _;subst q;rw[iy]at h;obtain⟨s',h1,h2⟩:=lJ ws _ _ h;exact⟨s',.cons ⟨xs,hl,rfl⟩ h1,h2⟩
   ·cases h
  ·cases h
theorem vB{s s':DS}{w:TWr}(h:W1 s w s'):CP s.h s'.h s.t∧s'.h=AU s.h w:=by
 cases w with
 |sl n v=>obtain⟨_,h2⟩:=h;subst h2;exact⟨⟨fun _ _=>rfl,fun _ _ _=>rfl⟩,rfl⟩
 |ob l o=>
  obtain⟨h1,h2,rfl⟩:=h;exact⟨zZ _ (zn (R9 h2 h1)),rfl⟩
 |st l off vs=>
  obtain⟨cs,cs',h1,h2,rfl⟩:=h;refine⟨zZ _ (zn ?_),?_⟩
  ·rw[h1];exact⟨rfl,fun _=>rfl⟩
  ·simp only[AU,h1,h2]
 |kill l=>
  rcases h with⟨e,xs,h1,rfl⟩|⟨e,xs,h1,rfl⟩|⟨⟨cs,h1⟩|⟨e,xs,h1⟩,rfl⟩<;>
  ·refine⟨zZ _ (zn ?_),by simp only[AU,h1]⟩;rw[h1];exact⟨rfl,fun _=>rfl⟩
 |nw l o=>
  obtain⟨h1,h2,rfl⟩:=h;refine⟨?_,rfl⟩;rcases h2 with h2|⟨h2,h3⟩
  ·refine zZ _ (zn ?_);have e:nth .dead s.h l=.res:=by unfold fA at h1;split at h1;assumption;cases h1
   rw[e];exact⟨(qH h2).1.symm,fun z=>((qH h2).2 z).symm⟩
  ·exact aaK h2 h3
 |up l i e y=>
  obtain⟨xs,h1,rfl⟩:=h;refine⟨zZ _ (zn ?_),?_⟩
  ·rw[h1];exact⟨rfl,fun _=>by simp only[bI,upd,qAD]⟩
  ·simp only[AU,h1,ET.eq_self]
theorem ag2{s s':DS}{w:TWr}(h:W1 s w s'):bX s'=(bX s).BX (qR s.h w):=by
 obtain⟨hs,hh⟩:=vB h;have obj:∀l o,s'.t=s.t→s'.h=s.h.set l o→bX s'=(bX s).setObj l (bY (s.h.set l o) o):=fun l o h1 h2=>by
  unfold bX ASt.setObj;rw[h1,h2];rw[h2]at hs;rw[aas hs,R5 (fun v hv=>(hs.1 v hv).symm)]
 cases w with
 |sl n v=>
  obtain⟨_,h2⟩:=h;subst h2;unfold bX;simp only[kL,qCE];rfl
 |ob l o=>obtain⟨_,_,rfl⟩:=h;exact obj l o rfl rfl
 |st l off vs=>
  obtain⟨cs,cs',h1,h2,rfl⟩:=h;rw[obj l (.box cs') rfl rfl];have e:aO (s.h.set l (.box cs')) cs'=aO s.h cs':=(qm cs' fun m _=>zn (by rw[h1];exact⟨rfl,fun _=>rfl⟩) m).symm;simp only[qR,h1,bY,ASt.BX,e,(UQ s.h h2).1]
 |kill l=>
  rcases h with⟨e,xs,h1,rfl⟩|⟨e,xs,h1,rfl⟩|⟨_,rfl⟩<;>exact obj l _ rfl rfl
 |nw l o=>obtain⟨_,_,rfl⟩:=h;exact obj l o rfl rfl
 |up l i e y=>
  obtain⟨xs,h1,rfl⟩:=h;rw[obj l _ rfl rfl];simp only[qR,h1,ET.eq_self,bY,ASt.BX]
theorem Wi{s s':DS}{ws:List TWr}(h:Ws s ws s'):bX s'=(bX s).wr (mM s.h ws):=by
 induction h with
 |nil s=>rfl
 |cons h _ ih=>
  rw[ih,ag2 h];simp only[(vB h).2];rfl
end
end
end
section
open Go
noncomputable section
def vT:(e:ET)→e.D→List TV
 | .i,x=>[.lf (.n .i64) x]| .u,x=>[.lf (.n .u8) x]| .s,x=>[.lf .s x]| .b,x=>[.lf .b x]
 | .car,x=>[.lf .s x.name,.lf (.l .s) x.elems]
 | .dec,x=>[.lf .s x.name,.lf (.n .i64) x.ty.kind,.lf .s x.ty.name,.lf (.l .ty) x.ty.kids]
 | .ty,x=>[.lf (.n .i64) x.kind,.lf .s x.name,.lf (.l .ty) x.kids]
 | .tm,x=>[.lf (.n .i64) x.op,.lf .s x.name,.lf (.n .i64) x.n,.lf (.n .i64) x.ty.kind,.lf .s x.ty.name,.lf (.l .ty) x.ty.kids,.lf (.l .tm) x.kids]
 | .env,x=>[.lf (.l .car) x.carriers,.lf (.l .dec) x.names]
 | .val,x=>[.lf (.n .i64) x.kind,.lf (.n .i64) x.n,.lf .s x.name,.lf (.l .val) x.kids]
 | .bnd,x=>[.lf .s x.name,.lf (.n .i64) x.v.kind,.lf (.n .i64) x.v.n,.lf .s x.v.name,.lf (.l .val) x.v.kids]
 | .vals,x=>[.lf (.l .val) x]| .tms,x=>[.lf (.l .tm) x]
def AA:TV→List TV
 | .lf (.t e) x=>vT e x
 |v=>[v]
def aB:List TV→List TV
 |[]=>[]
 |v::vs=>AA v++aB vs
theorem nG:∀a b:List TV,aB (a++b)=aB a++aB b
 |[],_=>rfl
 |v::a,b=>by simp only[qAH,aB,nG a b,qAr]
theorem NG:∀(e:ET) (x:e.D),(vT e x).length=e.sz
 | .i,_=>rfl| .u,_=>rfl| .s,_=>rfl| .b,_=>rfl| .car,_=>rfl| .dec,_=>rfl| .ty,_=>rfl| .tm,_=>rfl| .env,_=>rfl| .val,_=>rfl| .bnd,_=>rfl| .vals,_=>rfl| .tms,_=>rfl
theorem sJ(v:TV):(AA v).length=width v:=by
 rcases j6 v with h|⟨e,x,rfl⟩
 ·cases v with
  |lf t x=>cases t<;>first|rfl|exact NG _ _
  |_=>rfl
 ·exact NG e x
theorem ji:∀vs,(aB vs).length=widths vs
 |[]=>rfl
 |v::vs=>by simp only[aB,qAj,sJ,ji vs,widths]
theorem lU{v:TV}(h:one v):AA v=[v]:=by
 cases v with
 |lf t x=>cases t<;>first|rfl|(rename_i e;have:=h (.tup []);simp only[nX]at this;cases e<;>first|(simp only[ET.enc]at this;cases this;done)|(simp[ET.enc,gI,kJ,gY]at this;done))
 |_=>rfl
theorem abm(H:List TObj):∀(e:ET) (x:e.D),(vT e x).map (av H)=e.enc x
 | .i,_=>rfl| .u,_=>rfl| .s,_=>rfl| .b,_=>rfl| .car,_=>rfl
 | .dec,x=>by have:=gI x.ty;simp only[ET.enc];rfl
 | .ty,x=>by simp only[ET.enc,gI];rfl
 | .tm,x=>by have:=gI x.ty;simp only[ET.enc,kJ];rfl
 | .env,_=>rfl
 | .val,x=>by simp only[ET.enc,gY];rfl
 | .bnd,x=>by have:=gY x.v;simp only[ET.enc,this];rfl
 | .vals,_=>rfl| .tms,_=>rfl
theorem JG(H:List TObj):∀vs,(aB vs).map (av H)=aO H vs
 |[]=>rfl
 |v::vs=>by
  simp only[aB,qAY,JG H vs];congr 1;cases v with
  |lf t x=>cases t<;>first|rfl|exact abm H _ _
  |_=>rfl
theorem TT(e:ET)(x:e.D):aB (comps e x)=vT e x:=by cases e<;>rfl
section
variable {γ:Type}{b:γ}
theorem qo:∀(f:Nat) (cs:List TV) (n:Nat) (K:List TV→List TV→Option γ),splitK f cs n K=some b→∃a r,aB cs=aB a++aB r∧(aB a).length=n∧K a r=some b:=by
 intro f
 induction f with
 |zero=>intro cs n K h;cases h
 |succ f ih=>
  intro cs n K h;unfold splitK at h;cases n with
  |zero=>exact⟨[],cs,rfl,rfl,h⟩
  |succ m=>
   cases cs with
   |nil=>cases h
   |cons c r=>
    rcases aM h with⟨hw,h⟩|⟨_,h⟩
    ·obtain⟨a,r',h1,h2,h3⟩:=ih _ _ _ h;have hw:=qAf hw;refine⟨c::a,r',?_,?_,h3⟩
     ·simp only[aB,h1,qAr]
     ·simp only[aB,qAj,sJ];omega
    ·split at h
     ·rename_i e x;obtain⟨a,r',h1,h2,h3⟩:=ih _ _ _ h;refine⟨a,r',?_,h2,h3⟩;rw[←h1,nG,TT];rfl
     ·cases h
theorem uS{cs cs' vs:List TV}{off:Nat}(h:lC cs off vs some=some cs'):aB cs'=(aB cs).take off++aB vs++(aB cs).drop (off+(aB vs).length)∧off+(aB vs).length≤(aB cs).length:=by
 unfold lC at h;obtain⟨a,r,h1,h2,h3⟩:=qo _ _ _ _ h;obtain⟨c,r',h4,h5,h6⟩:=qo _ _ _ _ h3;cases h6;rw[←ji vs]at h5;have e1:(aB cs).take off=aB a:=by rw[h1,←h2,qDb]
 have e2:(aB cs).drop (off+(aB vs).length)=aB r':=by
  rw[h1,h4,←qAr,qCV (by simp only[qAj];omega)]
 refine⟨by rw[nG,nG,e1,e2,qAr],?_⟩;rw[h1,h4];simp only[qAj];omega
end
mutual
def bK(g:Nat→Nat):Sk→List U→TV×List U
 | .unk,us=>(.unk,us)
 | .nilp,us=>(.nilp,us)
 | .nilF,us=>(.nilF,us)
 | .k c,us=>(.lf c.t c.x,us)
 | .nils,us=>(.nils,us)
 | .lf _,us=>match us with
  |u::us=>(.lf u.t u.x,us)
  |[]=>(.unk,[])
 | .ptr l o,us=>(.ptr (g l) o,us)
 | .eptr cs,us=>(.eptr (dh g cs us).1,(dh g cs us).2)
 | .agg cs,us=>(.agg (dh g cs us).1,(dh g cs us).2)
 | .tup cs,us=>(.tup (dh g cs us).1,(dh g cs us).2)
 | .func f cs,us=>(.func f (dh g cs us).1,(dh g cs us).2)
 | .mapr l,us=>(.mapr (g l),us)
 | .own l,us=>(.own (g l),us)
 | .psl l z,us=>(.psl (g l) z none,us)
def dh(g:Nat→Nat):List Sk→List U→List TV×List U
 |[],us=>([],us)
 |s::ss,us=>((bK g s us).1::(dh g ss (bK g s us).2).1,(dh g ss (bK g s us).2).2)
end
section
variable {β:Type}(g:Nat→Nat)
mutual
theorem fill_eq:∀(s:Sk) (us:List U) (K:TV→List U→β),fill g s us K=K (bK g s us).1 (bK g s us).2
 | .unk,_,_=>rfl
 | .nilp,_,_=>rfl
 | .nilF,_,_=>rfl
 | .k _,_,_=>rfl
 | .nils,_,_=>rfl
 | .lf _,us,_=>by cases us<;>rfl
 | .ptr _ _,_,_=>rfl
 | .eptr cs,us,K=>by simp only[fill,bK,vG cs us]
 | .agg cs,us,K=>by simp only[fill,bK,vG cs us]
 | .tup cs,us,K=>by simp only[fill,bK,vG cs us]
 | .func _ cs,us,K=>by simp only[fill,bK,vG cs us]
 | .mapr _,_,_=>rfl
 | .own _,_,_=>rfl
 | .psl _ _,_,_=>rfl
theorem vG:∀(ss:List Sk) (us:List U) (K:List TV→List U→β),fills g ss us K=K (dh g ss us).1 (dh g ss us).2
 |[],_,_=>rfl
 |s::ss,us,K=>by simp only[fills,dh,fill_eq s us,vG ss]
end
end
def fE(g:Nat→Nat):List (Nat×Sk)→Option (List TV)→List U→Option (List TV)×List U
 |[],c,us=>(c,us)
 |p::ps,c,us=>fE g ps (c.bind fun cs=>lC cs p.1 [(bK g p.2 us).1] some) (bK g p.2 us).2
theorem Df{β:Type}(g:Nat→Nat):∀(ps:List (Nat×Sk)) (c:Option (List TV)) (us:List U) (K:Option (List TV)→List U→β),DR g ps c us K=K (fE g ps c us).1 (fE g ps c us).2
 |[],_,_,_=>rfl
 |p::ps,c,us,K=>by
  simp only[DR,fE,fill_eq];cases c with
  |none=>exact Df g ps none _ K
  |some cs=>
   simp only[qAb];split
   ·rename_i e;rw[e];exact Df g ps _ _ K
   ·rename_i e;rw[e];exact Df g ps _ _ K
def aS(g:Nat→Nat)(o:TObj):HO→List U→TObj×List U
 | .dead,us=>(.dead,us)
 | .box cs,us=>(.box (dh g cs us).1,(dh g cs us).2)
 | .bx l,us=>match o with
  | .box cs=>((match(fE g l (some cs) us).1 with|some cs=>.box cs|none=>.dead),(fE g l (some cs) us).2)
  |_=>(.dead,(fE g l none us).2)
 | .own _,us=>match us with
  |⟨.l e,xs⟩::us=>(.own e xs,us)
  |us=>(.dead,us)
 | .mp _,us=>match us with
  |⟨.m e,xs⟩::us=>(.mp e xs,us)
  |us=>(.dead,us)
 | .arr _,us=>match us with
  |⟨.l e,xs⟩::us=>(.arr e xs,us)
  |us=>(.dead,us)
theorem RG{β:Type}(g:Nat→Nat)(o:TObj)(h:HO)(us:List U)(K:TObj→List U→β):Ao g o h us K=K (aS g o h us).1 (aS g o h us).2:=by
 cases h with
 |dead=>rfl
 |box cs=>simp only[Ao,aS,vG]
 |bx l=>
  cases o<;>simp only[Ao,aS,Df]
  grind
 |own e=>simp only[Ao,aS];split<;>first|rfl|(rename_i h;split<;>first|rfl|(rename_i h2;exact(h _ _ _ rfl).elim))
 |mp e=>simp only[Ao,aS];split<;>first|rfl|(rename_i h;split<;>first|rfl|(rename_i h2;exact(h _ _ _ rfl).elim))
 |arr e=>simp only[Ao,aS];split<;>first|rfl|(rename_i h;split<;>first|rfl|(rename_i h2;exact(h _ _ _ rfl).elim))
def bE(g:Nat→Nat):List Ed→List U→List TV→List TObj→List TV×List TObj
 |[],_,t,h=>(t,h)
 | .r n s::es,us,t,h=>bE g es (bK g s us).2 (t.set n (bK g s us).1) h
 | .o l s::es,us,t,h=>bE g es (aS g (nth .dead h l) s us).2 t (h.set l (aS g (nth .dead h l) s us).1)
 | .w s::es,us,t,h=>bE g es (aS g .dead s us).2 t (h++[(aS g .dead s us).1])
theorem Sy{α β:Type}:∀(l:List α) (v:α) (K:List α→β),abU l v K=K (l++[v])
 |[],_,_=>rfl
 |x::xs,v,K=>(Sy xs v fun ys=>K (x::ys)).trans rfl
theorem zK{β:Type}(g:Nat→Nat):∀(es:List Ed) (us:List U) (t:List TV) (h:List TObj) (K:List TV→List TObj→β),zS g es us t h K=K (bE g es us t h).1 (bE g es us t h).2
 |[],_,_,_,_=>rfl
 | .r n s::es,us,t,h,K=>by simp only[zS,bE,fill_eq,iy,zK g es]
 | .o l s::es,us,t,h,K=>by simp only[zS,bE,RG,iy,zK g es]
 | .w s::es,us,t,h,K=>by simp only[zS,bE,RG,Sy,zK g es]
inductive Rs(R:AV→AV→Prop):List AV→List AV→Prop where
 |nil:Rs R [] []
 |cons {x y:AV} {xs ys:List AV}:R x y→Rs R xs ys→Rs R (x::xs) (y::ys)
theorem Rs.app{R:AV→AV→Prop}{a b c d:List AV}(h:Rs R a c)(k:Rs R b d):Rs R (a++b) (c++d):=by
 induction h with
 |nil=>exact k
 |cons h _ ih=>exact .cons h ih
theorem Rs.len{R:AV→AV→Prop}{a c:List AV}(h:Rs R a c):a.length=c.length:=by
 induction h with
 |nil=>rfl
 |cons _ _ ih=>simp[ih]
theorem Rs.get{R:AV→AV→Prop}{a c:List AV}(h:Rs R a c):∀j,j<a.length→R (a.getD j .unk) (c.getD j .unk):=by
 induction h with
 |nil=>intro j hj;cases hj
 |cons h1 _ ih=>intro j hj;cases j with
  |zero=>exact h1
  |succ j=>exact ih j (by simpa using hj)
structure Wk(H Hf:List TObj)(L:Nat→Option Nat)(R:Nat→AV→AV→Prop):Prop where
 unk0:R 0 .unk .unk
 unk:∀m a,R (m+1) .unk a
 fix:∀m a a',(∀g,ren g a=a)→Cv (Nat.ble 1 m) a a'→R m a a'
 ptr:∀m j l o,L j=some l→R m (.ptr j o) (.ptr l o)
 mapr:∀m j l,L j=some l→R m (.mapr j) (.mapr l)
 own:∀m j l,L j=some l→R m (av Hf (.own j)) (av H (.own l))
 ownN:∀m j,L j=none→R (m+2) (av Hf (.own j)) (.slice [] .nils)
 psl:∀m j l z,L j=some l→R m (av Hf (.psl j z none)) (av H (.psl l z none))
 pslN:∀m j z,L j=none→R (m+2) (av Hf (.psl j z none)) (.slice [] .nils)
 eptr:∀m cs cs',Rs (R 0) cs cs'→R m (.eptr cs) (.eptr cs')
 agg:∀m cs cs',Rs (R m) cs cs'→R m (.agg cs) (.agg cs')
 tup2:∀m cs cs',Rs (R (m+2)) cs cs'→R (m+2) (.tup cs) (.tup cs')
 tup0:∀m cs cs',Rs (R 0) cs cs'→R m (.tup cs) (.tup cs')
 func2:∀m f cs cs',Rs (R (m+2)) cs cs'→R (m+2) (.func f cs) (.func f cs')
 func0:∀m f cs cs',Rs (R 0) cs cs'→R m (.func f cs) (.func f cs')
theorem RV{g:Nat→Nat}:∀{l:List AV},bF g l=l→∀a∈l,ren g a=a
 |[],_,a,h=>by cases h
 |x::l,h,a,ha=>by
  simp only[bF,List.cons.injEq]at h;rcases qAh.1 ha with rfl|ha
  ·exact h.1
  ·exact RV h.2 a ha
theorem GU(e:ET)(x:e.D):∀a∈e.enc x,∀g,ren g a=a:=fun a ha g=>RV (EI e g x) a ha
theorem Ox(u:U):∀a∈rE u,∀g,ren g a=a:=by
 intro a ha g;rcases j6 (.lf u.t u.x)with h|⟨e,x,h⟩
 ·unfold rE at ha;rw[h]at ha;rw[qAL]at ha;subst ha;exact uV g _ _
 ·obtain⟨t,y⟩:=u;obtain⟨rfl,h⟩:=h;exact GU e y a ha g
theorem Cvs.rs{H Hf:List TObj}{L:Nat→Option Nat}{R:Nat→AV→AV→Prop}(hW:Wk H Hf L R){m:Nat}{xs ys:List AV}(h:Cvs (Nat.ble 1 m) xs ys):(∀a∈xs,∀g,ren g a=a)→Rs (R m) xs ys:=by
 generalize hq:Nat.ble 1 m=q at h
 induction h with
 |nil=>intro _;exact .nil
 |cons h _ ih=>subst hq;intro hf;exact .cons (hW.fix _ _ _ (hf _ (by simp)) h) (ih fun a ha=>hf a (by simp[ha]))
end
end
section
open Go
section
variable {γ:Type}{b:γ}{H:List TObj}{L:Nat→Option Nat}
theorem abQ{w:Bool}{t:LT}{v:TV}{K:t.D→Option γ}(ht:∀e,t≠ .t e)(h:(kX H w t v fun u=>fI t u K)=some b):∃x,K x=some b∧one v∧Cv w (eP t x) (av H v):=by
 rcases j6 v with h1|⟨e,x,rfl⟩
 ·obtain⟨u,h2,h3,_⟩:=II h1 h;obtain⟨x,rfl,h4⟩:=eY h2
  grind
 ·simp only[kX]at h;obtain⟨y,h5,_⟩:=eY h
  grind
theorem Ya{a:AV}{xs:List AV}(h:bH a=some xs)(hl:xs.length≠1):a=.agg xs:=by
 cases a<;>simp only[bH]at h<;>cases h<;>first|rfl|exact(hl rfl).elim
theorem KP{a:Option Nat}{l:Nat}(h:oeq a l=true):a=some l:=by
 cases a with
 |none=>cases h
 |some x=>exact congrArg some (qAc h)
theorem sz2:∀{e:ET},e.sc=false→e.sz≠1
 | .i,h=>by cases h
 | .u,h=>by cases h
 | .s,h=>by cases h
 | .b,h=>by cases h
 | .car,_=>by decide
 | .dec,_=>by decide
 | .ty,_=>by decide
 | .tm,_=>by decide
 | .env,_=>by decide
 | .val,_=>by decide
 | .bnd,_=>by decide
 | .vals,h=>by cases h
 | .tms,h=>by cases h
theorem CU.aiu:∀(c:CU) (e:ET),c.t≠ .t e:=by intro c e h;cases c<;>cases h
mutual
theorem aeY:∀{a c:Ty},aa9 a c=true→a=c
 | .mk k s l,.mk k' s' l',h=>by
  simp only[aa9,qAa]at h;rw[of_decide_eq_true h.1,eq_of_beq h.2.1,Mg h.2.2]
theorem Mg:∀{a c:List Ty},JI a c=true→a=c
 |[],[],_=>rfl
 |x::xs,y::ys,h=>by
  simp only[JI,qAa]at h;rw[aeY h.1,Mg h.2]
 |[],_::_,h=>by simp[JI]at h
 |_::_,[],h=>by simp[JI]at h
end
theorem CU.abX:∀{c:CU} {x:c.t.D},c.is x=true→x=c.x:=by
 intro c x h;cases c with
 |n k y=>exact of_decide_eq_true (p:=(show Int from x)=y) h
 |b y=>exact(eq_of_beq (α:=Bool) h).symm
 |s y=>exact eq_of_beq (α:=Str) h
 |l e=>exact qBa.1 h
 |ly z=>exact(Mg h).symm
theorem CU.one(c:CU):one (.lf c.t c.x):=by cases c<;>exact fun _=>rfl
theorem CU.width(c:CU):width (.lf c.t c.x)=mh (.k c):=by cases c<;>rfl
def aeI(H:List TObj)(L:Nat→Option Nat)(m:Nat)(s:Sk)(v:TV)(K:List U→Option γ)(b:γ):Prop:=
 ∃us w,K us=some b∧(∀rest,bK aT s (us++rest)=(w,rest))∧((∀t,s≠ .lf t)→one w)∧width w=mh s∧∀Hf R,Wk H Hf L R→R m (av Hf w) (av H v)
def ah6(H:List TObj)(L:Nat→Option Nat)(m:Nat)(ss:List Sk)(vs:List TV)(K:List U→Option γ)(b:γ):Prop:=
 ∃us ws,K us=some b∧(∀rest,dh aT ss (us++rest)=(ws,rest))∧∀Hf R,Wk H Hf L R→Rs (R m) (aI Hf ws) (aI H vs)
def abe(H:List TObj)(L:Nat→Option Nat)(m:Nat)(ss:List Sk)(vs:List TV)(K:List U→Option γ)(b:γ):Prop:=
 ∃us ws,K us=some b∧(∀rest,dh aT ss (us++rest)=(ws,rest))∧∀Hf R,Wk H Hf L R→Rs (R m) (aO Hf ws) (aO H vs)
theorem DY{w:TV}(h:∀e x,w≠ .lf (.t e) x):one w:=(j6 w).elim id fun⟨e,x,q⟩=>(h e x q).elim
set_option linter.unusedVariables false in
mutual
theorem QB:∀(s:Sk) (m:Nat) (v:TV) (K:List U→Option γ),ext m H L s v K=some b→aeI H L m s v K b
 | .unk,m,v,K,h=>by
  simp only[ext]at h;cases m with
  |zero=>
   cases v with
   |unk=>exact⟨[],.unk,h,fun rest=>rfl,fun _=>fun _=>rfl,rfl,fun Hf R hW=>hW.unk0⟩
   |_=>cases h
  |succ m=>exact⟨[],.unk,h,fun rest=>rfl,fun _=>fun _=>rfl,rfl,fun Hf R hW=>hW.unk m _⟩
 | .nilp,m,v,K,h=>by
  simp only[ext]at h;cases v with
  |nilp=>exact⟨[],.nilp,h,fun rest=>rfl,fun _=>fun _=>rfl,rfl,fun Hf R hW=>hW.fix m _ _ (fun _=>rfl) (.same _ _)⟩
  |_=>cases h
 | .nilF,m,v,K,h=>by
  simp only[ext]at h;cases v with
  |nilF=>exact⟨[],.nilF,h,fun rest=>rfl,fun _=>fun _=>rfl,rfl,fun Hf R hW=>hW.fix m _ _ (fun _=>rfl) (.same _ _)⟩
  |_=>cases h
 | .nils,m,v,K,h=>by
  simp only[ext]at h;cases v with
  |nils=>exact⟨[],.nils,h,fun rest=>rfl,fun _=>fun _=>rfl,rfl,fun Hf R hW=>hW.fix m _ _ (fun _=>rfl) (.same _ _)⟩
  |_=>cases h
 | .k c,m,v,K,h=>by
  simp only[ext]at h;obtain⟨x,h1,h2,h3⟩:=abQ (CU.aiu c) h;obtain⟨hc,h4⟩:=(aM h1).resolve_right fun h=>by cases h.2
  have e:=CU.abX hc;subst e;exact⟨[],.lf c.t c.x,h4,fun rest=>rfl,fun _=>CU.one c,CU.width c,fun Hf R hW=>hW.fix m _ _ (uV · c.t c.x) h3⟩
 | .lf t,m,v,K,h=>by
  have leaf:(∀e,t≠ .t e)→(kX H (Nat.ble 1 m) t v fun u=>fI t u fun x=>K [⟨t,x⟩])=some b→aeI H L m (.lf t) v K b:=fun ht h=>by
   obtain⟨x,h1,h2,h3⟩:=abQ ht h;exact⟨[⟨t,x⟩],.lf t x,h1,fun rest=>rfl,fun hn=>(hn t rfl).elim,by cases t<;>first|rfl|exact(ht _ rfl).elim,fun Hf R hW=>hW.fix m _ _ (uV · t x) h3⟩
  simp only[ext]at h;cases t with
  |t e=>
   simp only at h;rcases aM h with⟨_,h⟩|⟨hsc,h⟩
   ·cases h
   ·split at h
    ·rename_i cs hc;obtain⟨u,r,xs,h1,h2,h3⟩:=Cr _ _ _ _ h;split at h1
     ·obtain⟨x,rfl,h4⟩:=eY h1;refine⟨[⟨.t e,x⟩],.lf (.t e) x,h4,fun rest=>rfl,fun hn=>(hn _ rfl).elim,rfl,fun Hf R hW=>?_⟩;have hxs:bH (av H v)=some xs:=by rw[su hc,h2];simp only[aO,qAt]
      have hl:xs.length=e.sz:=by rw[←h3.len];exact vg e x
      rw[Ya hxs (by rw[hl];exact sz2 hsc)];exact hW.agg m _ _ (h3.rs hW (GU e x))
     ·cases h1
    ·cases h
  |_=>exact leaf (fun e h=>by cases h) h
 | .ptr j o,m,v,K,h=>by
  simp only[ext]at h;cases v with
  |ptr l o'=>
   simp only at h;rcases aM h with⟨hc,g⟩|⟨_,g⟩
   ·simp only[qAa]at hc;have e1:=qAc hc.1;subst e1;exact⟨[],.ptr j o,g,fun rest=>rfl,fun _=>fun _=>rfl,rfl,fun Hf R hW=>hW.ptr m _ _ _ (KP hc.2)⟩
   ·cases g
  |_=>cases h
 | .mapr j,m,v,K,h=>by
  simp only[ext]at h;cases v with
  |mapr l=>
   simp only at h;rcases aM h with⟨hc,g⟩|⟨_,g⟩
   ·exact⟨[],.mapr j,g,fun rest=>rfl,fun _=>fun _=>rfl,rfl,fun Hf R hW=>hW.mapr m _ _ (KP hc)⟩
   ·cases g
  |_=>cases h
 | .own j,m,v,K,h=>by
  simp only[ext]at h;cases v with
  |own l=>
   simp only at h;rcases aM h with⟨hc,g⟩|⟨_,g⟩
   ·exact⟨[],.own j,g,fun rest=>rfl,fun _=>fun _=>rfl,rfl,fun Hf R hW=>hW.own m _ _ (KP hc)⟩
   ·cases g
  |nils=>
   simp only at h;rcases aM h with⟨hc,g⟩|⟨_,g⟩
   ·simp only[qAa]at hc;obtain⟨m,rfl⟩:∃k,m=k+2:=⟨m - 2,by have:=qAf hc.1;omega⟩;exact⟨[],.own j,g,fun rest=>rfl,fun _=>fun _=>rfl,rfl,fun Hf R hW=>hW.ownN m j (by cases hl:L j with|none=>rfl|some x=>rw[hl]at hc;cases hc.2)⟩
   ·cases g
  |_=>cases h
 | .psl j z,m,v,K,h=>by
  simp only[ext]at h;split at h
  ·rename_i l z';rcases aM h with⟨hc,g⟩|⟨_,g⟩
   ·simp only[qAa]at hc;have e1:=qAc hc.2;subst e1;exact⟨[],.psl j z none,g,fun rest=>rfl,fun _=>fun _=>rfl,rfl,fun Hf R hW=>hW.psl m _ _ _ (KP hc.1)⟩
   ·cases g
  ·rcases aM h with⟨hc,g⟩|⟨_,g⟩
   ·simp only[qAa]at hc;obtain⟨m,rfl⟩:∃k,m=k+2:=⟨m - 2,by have:=qAf hc.1;omega⟩;exact⟨[],.psl j z none,g,fun rest=>rfl,fun _=>fun _=>rfl,rfl,fun Hf R hW=>hW.pslN m j z (by cases hl:L j with|none=>rfl|some x=>rw[hl]at hc;cases hc.2)⟩
   ·cases g
  ·cases h
 | .eptr cs,m,v,K,h=>by
  simp only[ext]at h;cases v with
  |eptr vs=>
   obtain⟨us,ws,h1,h2,h3⟩:=rZ cs 0 vs K h;exact⟨us,.eptr ws,h1,fun rest=>by simp only[bK,h2],fun _=>fun _=>rfl,rfl,fun Hf R hW=>by simp only[av];exact hW.eptr m _ _ (h3 Hf R hW)⟩
  |_=>cases h
 | .agg cs,m,v,K,h=>by
  simp only[ext]at h;split at h
  ·rename_i vs;obtain⟨us,ws,h1,h2,h3⟩:=rZ cs m vs K h;exact⟨us,.agg ws,h1,fun rest=>by simp only[bK,h2],fun _=>fun _=>rfl,rfl,fun Hf R hW=>by simp only[av];exact hW.agg m _ _ (h3 Hf R hW)⟩
  ·rename_i e x;obtain⟨us,ws,h1,h2,h3⟩:=rZ cs m [.lf (.t e) x] K h;refine⟨us,.agg ws,h1,fun rest=>by simp only[bK,h2],fun _=>fun _=>rfl,rfl,fun Hf R hW=>?_⟩;have:=hW.agg m _ _ (h3 Hf R hW);simp only[aO,nX,qAt]at this;exact this
  ·cases h
 | .tup cs,m,v,K,h=>by
  simp only[ext]at h;cases v with
  |tup vs=>
   obtain⟨us,ws,h1,h2,h3⟩:=M0 cs _ vs K h;refine⟨us,.tup ws,h1,fun rest=>by simp only[bK,h2],fun _=>fun _=>rfl,rfl,fun Hf R hW=>?_⟩;simp only[av];cases hm:Nat.ble 2 m with
   |false=>rw[hm]at h3;exact hW.tup0 m _ _ (h3 Hf R hW)
   |true=>
    rw[hm]at h3;obtain⟨m,rfl⟩:∃k,m=k+2:=⟨m - 2,by have:=qAf hm;omega⟩;exact hW.tup2 m _ _ (h3 Hf R hW)
  |_=>cases h
 | .func f cs,m,v,K,h=>by
  simp only[ext]at h;cases v with
  |func f' vs=>
   simp only at h;rcases aM h with⟨hc,g⟩|⟨_,g⟩
   ·have e1:=qAc hc;subst e1;obtain⟨us,ws,h1,h2,h3⟩:=M0 cs _ vs K g;refine⟨us,.func f ws,h1,fun rest=>by simp only[bK,h2],fun _=>fun _=>rfl,rfl,fun Hf R hW=>?_⟩;simp only[av];cases hm:Nat.ble 2 m with
    |false=>rw[hm]at h3;exact hW.func0 m f _ _ (h3 Hf R hW)
    |true=>
     rw[hm]at h3;obtain⟨m,rfl⟩:∃k,m=k+2:=⟨m - 2,by have:=qAf hm;omega⟩;exact hW.func2 m f _ _ (h3 Hf R hW)
   ·cases g
  |_=>cases h
theorem M0:∀(ss:List Sk) (m:Nat) (vs:List TV) (K:List U→Option γ),M4 m H L ss vs K=some b→ah6 H L m ss vs K b
 |[],m,vs,K,h=>by
  simp only[M4]at h;cases vs with
  |nil=>exact⟨[],[],h,fun rest=>rfl,fun Hf R hW=>.nil⟩
  |cons _ _=>cases h
 |s::ss,m,vs,K,h=>by
  simp only[M4]at h;cases vs with
  |nil=>cases h
  |cons v r=>
   obtain⟨us,w,h1,h2,_,_,h3⟩:=QB s m v _ h;obtain⟨us',ws,h4,h5,h6⟩:=M0 ss m r _ h1;refine⟨us++us',w::ws,h4,fun rest=>?_,fun Hf R hW=>?_⟩
   ·simp only[dh,qAr,h2,h5]
   ·simp only[aI];exact .cons (h3 Hf R hW) (h6 Hf R hW)
theorem rZ:∀(ss:List Sk) (m:Nat) (vs:List TV) (K:List U→Option γ),jK m H L ss vs K=some b→abe H L m ss vs K b
 |[],m,vs,K,h=>by
  simp only[jK]at h;cases vs with
  |nil=>exact⟨[],[],h,fun rest=>rfl,fun Hf R hW=>.nil⟩
  |cons _ _=>cases h
 |s::ss,m,vs,K,h=>by
  have val:(∀t,s≠ .lf t)→∀v r,vs=v::r→one v→(ext m H L s v fun us=>jK m H L ss r fun us'=>K (us++us'))=some b→abe H L m (s::ss) vs K b:=fun hs v r hv h1 h=>by
   obtain⟨us,w,g1,g2,g3,_,g4⟩:=QB s m v _ h;obtain⟨us',ws,g5,g6,g7⟩:=rZ ss m r _ g1;subst hv;refine⟨us++us',w::ws,g5,fun rest=>?_,fun Hf R hW=>?_⟩
   ·simp only[dh,qAr,g2,g6]
   ·simp only[aO,g3 hs (av Hf w),h1 (av H v),qAH,qAC];exact .cons (g4 Hf R hW) (g7 Hf R hW)
  have key:(∀t,s≠ .lf t)→(hd1 vs fun v r=>ext m H L s v fun us=>jK m H L ss r fun us'=>K (us++us'))=some b→abe H L m (s::ss) vs K b:=fun hs h=>by
   cases vs with
   |nil=>cases h
   |cons v r=>
    simp only[hd1]at h;rcases aM h with⟨_,g⟩|⟨h1,g⟩
    ·cases g
    ·exact val hs v r rfl (DY fun e x q=>by rw[q]at h1;cases h1) g
  cases s with
  |lf t=>
   simp only[jK]at h;obtain⟨u,r,xs,h1,h2,h3⟩:=Cr _ _ _ _ h;obtain⟨x,rfl,h4⟩:=eY h1;obtain⟨us',ws,g5,g6,g7⟩:=rZ ss m r _ h4;refine⟨⟨t,x⟩::us',.lf t x::ws,g5,fun rest=>?_,fun Hf R hW=>?_⟩
   ·simp only[dh,qAH,bK,g6]
   ·rw[h2];simp only[aO];exact(h3.rs hW (Ox ⟨t,x⟩)).app (g7 Hf R hW)
  |k c=>
   simp only[jK]at h;obtain⟨u,r,xs,h1,h2,h3⟩:=Cr _ _ _ _ h;obtain⟨x,rfl,h4⟩:=eY h1;obtain⟨hc,h5⟩:=(aM h4).resolve_right fun h=>by cases h.2
   have e:=CU.abX hc;subst e;obtain⟨us',ws,g5,g6,g7⟩:=rZ ss m r _ h5;refine⟨us',.lf c.t c.x::ws,g5,fun rest=>?_,fun Hf R hW=>?_⟩
   ·simp only[dh,bK,g6]
   ·rw[h2];simp only[aO];exact(h3.rs hW (Ox ⟨c.t,c.x⟩)).app (g7 Hf R hW)
  |unk=>exact key (fun t e=>by cases e) (by simpa only[jK]using h)
  |nilp=>exact key (fun t e=>by cases e) (by simpa only[jK]using h)
  |nilF=>exact key (fun t e=>by cases e) (by simpa only[jK]using h)
  |nils=>exact key (fun t e=>by cases e) (by simpa only[jK]using h)
  |ptr _ _=>exact key (fun t e=>by cases e) (by simpa only[jK]using h)
  |eptr _=>exact key (fun t e=>by cases e) (by simpa only[jK]using h)
  |agg _=>exact key (fun t e=>by cases e) (by simpa only[jK]using h)
  |tup _=>exact key (fun t e=>by cases e) (by simpa only[jK]using h)
  |func _ _=>exact key (fun t e=>by cases e) (by simpa only[jK]using h)
  |mapr _=>exact key (fun t e=>by cases e) (by simpa only[jK]using h)
  |own _=>exact key (fun t e=>by cases e) (by simpa only[jK]using h)
  |psl _ _=>exact key (fun t e=>by cases e) (by simpa only[jK]using h)
end
end
end
section
open Go
theorem mem_iff{l:List Nat}{n:Nat}:mem l n=true↔n∈l:=by
 induction l with
 |nil=>exact⟨fun h=>(by cases h),fun h=>(by cases h)⟩
 |cons x l ih=>
  show(bif Nat.beq x n then true else mem l n)=true↔_;cases hx:Nat.beq x n with
  |true=>simp;exact .inl (qAc hx).symm
  |false=>
   simp only[cond_false,qAh,ih];refine⟨.inr,fun h=>h.elim (fun e=>?_) id⟩
   simp_all
theorem og{l:List Nat}{n:Nat}:mem l n=false↔n∉l:=by
 rw[←mem_iff];cases mem l n<;>simp
theorem rX{n:Nat}:∀{c k:Nat},n∈rng k c↔k≤n∧n<k+c
 |0,k=>by simp only[rng,qCx,false_iff];omega
 |c+1,k=>by simp only[rng,qAh,rX];omega
noncomputable def jN(is:List (Nat×Sk))(q:Nat):Bool:=mem (is.flatMap fun p=>rng (p.1+1) (mh p.2)) (q+1)
theorem nL{p:Nat×Sk}{is:List (Nat×Sk)}{q:Nat}:jN (p::is) q=true↔(p.1≤q∧q<p.1+mh p.2)∨jN is q=true:=by
 unfold jN;rw[mem_iff,mem_iff,qCN,qAy,rX]
 grind
section
variable {γ:Type}{b:γ}{H:List TObj}{L:Nat→Option Nat}{m mo:Nat}
theorem aeM(H Hf:List TObj)(L:Nat→Option Nat):Wk H Hf L (fun _ _ _=>True):=
 ⟨trivial,fun _ _=>trivial,fun _ _ _ _ _=>trivial,fun _ _ _ _ _=>trivial,fun _ _ _ _=>trivial,fun _ _ _ _=>trivial,fun _ _ _=>trivial,fun _ _ _ _ _=>trivial,fun _ _ _ _=>trivial,fun _ _ _ _=>trivial,fun _ _ _ _=>trivial,fun _ _ _ _=>trivial,fun _ _ _ _=>trivial,fun _ _ _ _ _=>trivial,fun _ _ _ _ _=>trivial⟩
theorem yH(H:List TObj)(vs:List TV)(q:Nat):(aO H vs).getD q .unk=av H ((aB vs).getD q .unk):=by
 rw[←JG];simp;cases(aB vs)[q]?<;>rfl
def J7(H:List TObj)(L:Nat→Option Nat)(m:Nat)(cs vs:List TV)(q:Nat):Prop:=∀Hf R,Wk H Hf L R→q<(aB cs).length→R m (av Hf ((aB cs).getD q .unk)) (av H ((aB vs).getD q .unk))
theorem Xb{cs cs' vs:List TV}{q:Nat}(h:J7 H L m cs vs q)(e:(aB cs')[q]? =(aB cs)[q]?):J7 H L m cs' vs q:=by
 intro Hf R hW hq;have hq':q<(aB cs).length:=by
  grind
 have:=h Hf R hW hq'
 grind
theorem UG(vs:List TV):∀(ps:List (Nat×Sk)) (K:List U→Option γ),Xu m H L vs ps K=some b→∃us,K us=some b∧∀(c:Option (List TV)) rest,∃c',fE aT ps c (us++rest)=(c',rest)∧
  ∀cs',c'=some cs'→∃cs,c=some cs∧(aB cs').length=(aB cs).length∧∀q,(jN ps q=true→J7 H L m cs' vs q)∧(jN ps q=false→(aB cs')[q]? =(aB cs)[q]?)
 |[],K,h=>⟨[],h,fun c rest=>⟨c,rfl,fun cs' hc=>⟨cs',hc,rfl,fun q=>⟨fun h=>(by cases h),fun _=>rfl⟩⟩⟩⟩
 |p::ps,K,h=>by
  simp only[Xu]at h;obtain⟨a,r,h1,h2,h⟩:=qo _ _ _ _ h;obtain⟨c1,r1,h3,h4,h⟩:=qo _ _ _ _ h;obtain⟨us,ws,h5,h6,h7⟩:=rZ [p.2] m c1 _ h;obtain⟨us',h8,h9⟩:=UG vs ps _ h5;refine⟨us++us',h8,fun c rest=>?_⟩;have hw:ws=[(bK aT p.2 (us++(us'++rest))).1]∧(bK aT p.2 (us++(us'++rest))).2=us'++rest:=by
   have:=h6 (us'++rest);simp only[dh,Prod.mk.injEq]at this
   grind
  simp only[fE,qAr,hw.2];rw[←hw.1]at *;obtain⟨c',g1,g2⟩:=h9 (c.bind fun cs=>lC cs p.1 ws some) rest;refine⟨c',g1,fun cs' hc'=>?_⟩;obtain⟨cs1,g3,g4,g5⟩:=g2 cs' hc';cases c with
  |none=>cases g3
  |some cs=>
   simp only[qAb]at g3;obtain⟨q1,q2⟩:=uS g3;have hlen:(aB ws).length=mh p.2:=by
    have:=(h7 H _ (aeM H H L)).len;rw[gN,←ji,gN,←ji,h4]at this;exact this
   refine⟨cs,rfl,?_,fun q=>⟨fun hq=>?_,fun hq=>?_⟩⟩
   ·rw[g4,q1];simp only[qAj,qAw,qCh];omega
   ·cases hps:jN ps q with
    |true=>exact(g5 q).1 hps
    |false=>
     have hin:=(nL.1 hq).resolve_right (by rw[hps];simp);refine Xb (cs:=cs1) ?_ ((g5 q).2 hps);intro Hf R hW hq1;have e1:(aB cs1).getD q .unk=(aB ws).getD (q - p.1) .unk:=by
      rw[q1];simp only[List.getD];rw[qAr,qAg (by simp only[qAw];omega),qAe (by simp only[qAw];omega)];simp only[qAw];rw[show min p.1 (aB cs).length=p.1 by omega]
     have e2:(aB vs).getD q .unk=(aB c1).getD (q - p.1) .unk:=by
      rw[h1,h3];simp only[List.getD];rw[qAg (by omega),qAe (by omega),h2]
     rw[e1,e2,←yH,←yH];exact(h7 Hf R hW).get _ (by rw[gN,←ji];omega)
   ·have hps:jN ps q=false:=by
     cases hps:jN ps q with
     |false=>rfl
     |true=>rw[nL.2 (.inr hps)]at hq;cases hq
    have hout:¬(p.1≤q∧q<p.1+mh p.2):=fun hh=>by rw[nL.2 (.inl hh)]at hq;cases hq
    rw[(g5 q).2 hps,q1];by_cases hlt:q<p.1
    ·rw[qAr,qAe (by simp only[qAw];omega),qBf,if_pos hlt]
    ·rw[qAg (by simp only[qAj,qAw];omega),qBY];congr 1;simp only[qAj,qAw];omega
def FO(H:List TObj)(L:Nat→Option Nat)(m:Nat)(hd:HO)(o0 oJ o':TObj):Prop:=match hd with
 | .dead=>oJ=.dead
 | .box _=>∃ws vs,oJ=.box ws∧o'=.box vs∧∀Hf R,Wk H Hf L R→Rs (R m) (aO Hf ws) (aO H vs)
 | .bx is=>oJ=.dead∨∃cs0 cs vs,o0=.box cs0∧oJ=.box cs∧o'=.box vs∧(aB cs).length=(aB cs0).length∧∀q,(jN is q=true→J7 H L m cs vs q)∧(jN is q=false→(aB cs)[q]? =(aB cs0)[q]?)
 | .own _=>∃e xs,oJ=.own e xs∧o'=.own e xs
 | .mp _=>∃e xs,oJ=.mp e xs∧o'=.mp e xs
 | .arr _=>∃e xs,oJ=.arr e xs∧o'=.arr e xs
theorem UJ{o':TObj}{hd:HO}{K:List U→Option γ}(h:Ms m H L o' hd K=some b):∃us,K us=some b∧∀o0 rest,∃oJ,aS aT o0 hd (us++rest)=(oJ,rest)∧FO H L m hd o0 oJ o':=by
 cases hd with
 |dead=>exact⟨[],h,fun o0 rest=>⟨_,rfl,rfl⟩⟩
 |box cs=>
  cases o' with
  |box vs=>
   obtain⟨us,ws,h1,h2,h3⟩:=rZ cs m vs K h;exact⟨us,h1,fun o0 rest=>⟨.box ws,by simp only[aS,h2],ws,vs,rfl,rfl,h3⟩⟩
  |_=>cases h
 |bx is=>
  cases o' with
  |box vs=>
   obtain⟨us,h1,h2⟩:=UG vs is K h;refine⟨us,h1,fun o0 rest=>?_⟩;cases o0 with
   |box cs0=>
    obtain⟨c',g1,g2⟩:=h2 (some cs0) rest;cases c' with
    |none=>exact⟨.dead,by simp only[aS,g1],.inl rfl⟩
    |some cs'=>
     obtain⟨cs,e,g3,g4⟩:=g2 cs' rfl;cases e;exact⟨.box cs',by simp only[aS,g1],.inr ⟨cs0,cs',vs,rfl,rfl,rfl,g3,g4⟩⟩
   |_=>
    obtain⟨c',g1,_⟩:=h2 none rest;exact⟨.dead,by simp only[aS,g1],.inl rfl⟩
  |_=>cases h
 |own e=>
  simp only[Ms]at h;cases o' with
  |own e' xs=>
   obtain⟨x,e1,h1⟩:=eY h;cases e1;exact⟨[⟨.l e,x⟩],h1,fun o0 rest=>⟨_,rfl,e,x,rfl,rfl⟩⟩
  |_=>cases h
 |mp e=>
  simp only[Ms]at h;cases o' with
  |mp e' xs=>
   obtain⟨x,e1,h1⟩:=eY h;cases e1;exact⟨[⟨.m e,x⟩],h1,fun o0 rest=>⟨_,rfl,e,x,rfl,rfl⟩⟩
  |_=>cases h
 |arr e=>
  simp only[Ms]at h;cases o' with
  |arr e' xs=>
   obtain⟨x,e1,h1⟩:=eY h;cases e1;exact⟨[⟨.l e,x⟩],h1,fun o0 rest=>⟨_,rfl,e,x,rfl,rfl⟩⟩
  |_=>cases h
theorem KO{n:Nat}{k:Nat}:∀{es:List Ed} {ss os:List Nat},bQ n ss os es=true→k∈ss→k∉fq es
 |[],_,_,_,_=>by simp[fq]
 | .r k' s::es,ss,os,h,hk=>by
  simp only[bQ,qAa,qBb,og]at h;simp only[fq,qAh,not_or];exact⟨fun e=>h.1 (e▸hk),KO h.2 (qAk _ hk)⟩
 | .o l h'::es,ss,os,h,hk=>by
  simp only[bQ,qAa]at h;exact KO (es:=es) h.2.2 hk
 | .w h'::es,ss,os,h,hk=>KO (es:=es) (by simpa only[bQ]using h) hk
theorem tC{n:Nat}{l:Nat}{hd:HO}:∀{es:List Ed} {ss os:List Nat},bQ n ss os es=true→l∈os→Ed.o l hd∉es
 |[],_,_,_,_=>by simp
 | .r k' s::es,ss,os,h,hk=>by
  simp only[bQ,qAa]at h;simp;exact tC h.2 hk
 | .o l' h'::es,ss,os,h,hk=>by
  simp only[bQ,qAa,qBb,og]at h;simp only[qAh,Ed.o.injEq,not_or];exact⟨fun e=>h.2.1 (e.1▸hk),tC h.2.2 (qAk _ hk)⟩
 | .w h'::es,ss,os,h,hk=>by
  simp;exact tC (es:=es) (by simpa only[bQ]using h) hk
theorem jg{n:Nat}{l:Nat}{hd:HO}:∀{es:List Ed} {ss os:List Nat},bQ n ss os es=true→Ed.o l hd∈es→l<n
 |[],_,_,_,h=>by cases h
 | .r k' s::es,ss,os,h,hk=>by
  simp only[bQ,qAa]at h;simp at hk;exact jg h.2 hk
 | .o l' h'::es,ss,os,h,hk=>by
  simp only[bQ,qAa]at h;rcases qAh.1 hk with e|hk
  ·simp_all
  ·exact jg h.2.2 hk
 | .w h'::es,ss,os,h,hk=>by
  simp at hk;exact jg (es:=es) (by simpa only[bQ]using h) hk
theorem gF{α:Type}{d:α}{a c:List α}{n:Nat}(h:n<a.length):nth d (a++c) n=nth d a n:=by
 rw[dF,dF];simp only[List.getD,qAe h]
theorem CK{α:Type}{d:α}{a:List α}{v:α}{n:Nat}(h:a.length=n):nth d (a++[v]) n=v:=by
 rw[dF];subst h;simp[List.getD]
structure LaidD(H:List TObj)(L:Nat→Option Nat)(m mo:Nat)(t':List TV)(j:Nat)(eds:List Ed)(T:List TV)(h:List TObj)(T1:List TV)(h1:List TObj):Prop where
 tl:T1.length=T.length
 hl:h1.length=j+aA eds
 keep:∀k,k∉fq eds→nth .unk T1 k=nth .unk T k
 slot:∀k s,Ed.r k s∈eds→k<T.length→∀Hf R,Wk H Hf L R→R m (av Hf (nth .unk T1 k)) (av H (nth .unk t' k))
 keepO:∀l,l<j→(∀hd,Ed.o l hd∉eds)→nth .dead h1 l=nth .dead h l
 obj:∀l hd,Ed.o l hd∈eds→FO H L mo hd (nth .dead h l) (nth .dead h1 l) (nth .dead H l)
 new:∀i,i<aA eds→(∃l hd,L (j+i)=some l∧(Ed.w hd∈eds∧nth .dead (kinds eds) i=hd)∧FO H L mo hd .dead (nth .dead h1 (j+i)) (nth .dead H l))∨(L (j+i)=none∧2≤m∧∃e,nth .dead h1 (j+i)=.own e []∨nth .dead h1 (j+i)=.arr e [])
theorem vv{t':List TV}{n:Nat}:∀(eds:List Ed) (j:Nat) (K:List U→Option γ) (ss os:List Nat),bQ n ss os eds=true→n≤j→oW m mo t' H L j eds K=some b→
  ∃us,K us=some b∧∀T h rest,h.length=j→∃T1 h1,bE aT eds (us++rest) T h=(T1,h1)∧LaidD H L m mo t' j eds T h T1 h1
 |[],j,K,ss,os,hw,hn,h=>⟨[],h,fun T hh rest hl=>⟨T,hh,rfl,rfl,hl,fun _ _=>rfl,fun k s hm=>(by cases hm),fun _ _ _=>rfl,fun l hd hm=>(by cases hm),fun i hi=>by simp[aA]at hi⟩⟩
 | .r k s::es,j,K,ss,os,hw,hn,h=>by
  simp only[bQ,qAa,qBb,og]at hw;simp only[oW]at h;obtain⟨us,w,h1,h2,_,_,h3⟩:=QB s m _ _ h;obtain⟨us',h4,h5⟩:=vv es j _ _ _ hw.2 hn h1;refine⟨us++us',h4,fun T hh rest hl=>?_⟩;obtain⟨T1,h1',g1,g⟩:=h5 (T.set k w) hh rest hl;have hk:k∉fq es:=KO hw.2 (by simp);refine⟨T1,h1',by simp only[bE,qAr,h2];exact g1,by rw[g.tl,qAD],g.hl,fun k' hk'=>?_,fun k' s' hm hlt=>?_,fun l hlt hno=>?_,fun l hd hm=>?_,fun i hi=>?_⟩
  ·simp only[fq,qAh,not_or]at hk';rw[g.keep k' hk'.2,aL (qBd hk'.1)]
  ·rcases qAh.1 hm with e|hm
   ·cases e;rw[g.keep k hk,aW hlt];exact h3
   ·exact g.slot k' s' hm (by rw[qAD];exact hlt)
  ·exact g.keepO l hlt fun hd hm=>hno hd (qAk _ hm)
  ·exact g.obj l hd (by simpa using hm)
  ·rcases g.new i hi with⟨l,hd,e1,e2,e3⟩|e
   ·exact .inl ⟨l,hd,e1,⟨qAk _ e2.1,e2.2⟩,e3⟩
   ·exact .inr e
 | .o l hd::es,j,K,ss,os,hw,hn,h=>by
  simp only[bQ,qAa,qBb,og]at hw;simp only[oW]at h;obtain⟨us,h1,h2⟩:=UJ h;obtain⟨us',h4,h5⟩:=vv es j _ _ _ hw.2.2 hn h1;refine⟨us++us',h4,fun T hh rest hl=>?_⟩;obtain⟨oJ,q1,q2⟩:=h2 (nth .dead hh l) (us'++rest);obtain⟨T1,h1',g1,g⟩:=h5 T (hh.set l oJ) rest (by rw[qAD];exact hl);have hln:l<n:=qAf hw.1;have hno:∀hd',Ed.o l hd'∉es:=fun hd'=>tC hw.2.2 (by simp);refine⟨T1,h1',by simp only[bE,qAr,q1];exact g1,g.tl,g.hl,fun k' hk'=>g.keep k' hk',fun k' s' hm hlt=>g.slot k' s' (by simpa using hm) hlt,fun l' hlt hn'=>?_,fun l' hd' hm=>?_,fun i hi=>?_⟩
  ·have hne:l≠l':=fun e=>hn' hd (by subst e;simp);rw[g.keepO l' hlt fun hd' hm=>hn' hd' (qAk _ hm),aL hne]
  ·rcases qAh.1 hm with e|hm
   ·cases e;rw[g.keepO l (by omega) hno,aW (by omega)];exact q2
   ·have hne:l≠l':=fun e=>by subst e;exact hno hd' hm
    have:=g.obj l' hd' hm;rw[aL hne]at this;exact this
  ·rcases g.new i hi with⟨l,hd,e1,e2,e3⟩|e
   ·exact .inl ⟨l,hd,e1,⟨qAk _ e2.1,e2.2⟩,e3⟩
   ·exact .inr e
 | .w hd::es,j,K,ss,os,hw,hn,h=>by
  simp only[bQ]at hw;have nxt:∀(us:List U) (K':List U→Option γ),(∀us',K' us'=K (us++us'))→oW m mo t' H L (j+1) es K'=some b→(∀rest,∃oJ,aS aT .dead hd (us++rest)=(oJ,rest)∧((∃l,L j=some l∧FO H L mo hd .dead oJ (nth .dead H l))∨(L j=none∧2≤m∧∃e,oJ=.own e []∨oJ=.arr e [])))→
    ∃us,K us=some b∧∀T h rest,h.length=j→∃T1 h1,bE aT (.w hd::es) (us++rest) T h=(T1,h1)∧LaidD H L m mo t' j (.w hd::es) T h T1 h1:=fun us K' hK h hq=>by
   obtain⟨us',h4,h5⟩:=vv es (j+1) _ _ _ hw (by omega) h;refine⟨us++us',by rw[←hK];exact h4,fun T hh rest hl=>?_⟩;obtain⟨oJ,q1,q2⟩:=hq (us'++rest);obtain⟨T1,h1',g1,g⟩:=h5 T (hh++[oJ]) rest (by simp[hl]);refine⟨T1,h1',by simp only[bE,qAr,q1];exact g1,g.tl,by rw[g.hl];simp only[aA];omega,fun k' hk'=>g.keep k' hk',fun k' s' hm hlt=>g.slot k' s' (by simpa using hm) hlt,fun l' hlt hn'=>?_,fun l' hd' hm=>?_,fun i hi=>?_⟩
   ·rw[g.keepO l' (by omega) fun hd' hm=>hn' hd' (qAk _ hm),gF (by omega)]
   ·have hm:Ed.o l' hd'∈es:=by simpa using hm
    have hlt:=jg hw hm;have:=g.obj l' hd' hm;rw[gF (by omega)]at this;exact this
   ·cases i with
    |zero=>
     have e:nth .dead h1' (j+0)=oJ:=by
      rw[qAJ,g.keepO j (by omega) fun hd' hm=>(by have:=jg hw hm;omega),CK hl]
     rw[e,qAJ];rcases q2 with⟨l,e1,e2⟩|e1
     ·exact .inl ⟨l,hd,e1,⟨by simp,rfl⟩,e2⟩
     ·exact .inr e1
    |succ i=>
     have:=g.new i (by simp only[aA]at hi;omega);rw[show j+1+i=j+(i+1)from by omega]at this;rcases this with⟨l,hd,e1,e2,e3⟩|e
     ·exact .inl ⟨l,hd,e1,⟨qAk _ e2.1,e2.2⟩,e3⟩
     ·exact .inr e
  simp only[oW]at h;split at h
  ·rename_i l hL;obtain⟨us,h1,h2⟩:=UJ h;exact nxt us _ (fun _=>rfl) h1 fun rest=>(by
    obtain⟨oJ,q1,q2⟩:=h2 .dead rest;exact⟨oJ,q1,.inl ⟨l,hL,q2⟩⟩)
  ·rename_i hL;split at h
   ·rename_i e;rcases aM h with⟨hc,g⟩|⟨_,g⟩
    ·exact nxt [⟨.l e,[]⟩] _ (fun _=>rfl) g fun rest=>⟨.own e [],rfl,.inr ⟨hL,qAf hc,e,.inl rfl⟩⟩
    ·cases g
   ·rename_i e;rcases aM h with⟨hc,g⟩|⟨_,g⟩
    ·exact nxt [⟨.l e,[]⟩] _ (fun _=>rfl) g fun rest=>⟨.arr e [],rfl,.inr ⟨hL,qAf hc,e,.inr rfl⟩⟩
    ·cases g
   ·cases h
end
end
section
open Go
def uF(o o':TObj)(cv:Nat→Bool):Prop:=o'=o∨∃cs cs',o=.box cs∧o'=.box cs'∧(aB cs').length=(aB cs).length∧∀q,cv q=false→(aB cs')[q]? =(aB cs)[q]?
theorem ME{n len:Nat}{L:Nat→Option Nat}{eds:List Ed}:∀(c j:Nat) (seen:List Nat),Rf n len L eds j c seen=true→∀i,i<c→∀l,L (j+i)=some l→l<len∧l∉seen∧(n≤l∨G5 l eds=true)∧∀i',i'<c→L (j+i')=some l→i'=i
 |0,j,seen,_,i,hi=>by omega
 |c+1,j,seen,h,i,hi=>by
  intro l hl;simp only[Rf]at h;split at h
  ·rename_i hj;have ih:=ME c (j+1) seen h;cases i with
   |zero=>rw[qAJ,hj]at hl;cases hl
   |succ i=>
    obtain⟨h1,h2,h3,h4⟩:=ih i (by omega) l (by rw[show j+1+i=j+(i+1) by omega];exact hl);refine⟨h1,h2,h3,fun i' hi' hl'=>?_⟩;cases i' with
    |zero=>rw[qAJ,hj]at hl';cases hl'
    |succ i'=>exact congrArg _ (h4 i' (by omega) (by rw[show j+1+i'=j+(i'+1) by omega];exact hl'))
  ·rename_i l0 hj;simp only[qAa,qBg,qBb,og]at h;obtain⟨h1,h2,h3,h4⟩:=h;have h1:l0<len:=qAf h1;have ih:=ME c (j+1) (l0::seen) h4;cases i with
   |zero=>
    rw[qAJ,hj]at hl;cases hl;refine⟨h1,h2,h3.imp qAf id,fun i' hi' hl'=>?_⟩;cases i' with
    |zero=>rfl
    |succ i'=>
     grind
   |succ i=>
    obtain⟨g1,g2,g3,g4⟩:=ih i (by omega) l (by rw[show j+1+i=j+(i+1) by omega];exact hl);simp at g2;refine⟨g1,g2.2,g3,fun i' hi' hl'=>?_⟩;cases i' with
    |zero=>rw[qAJ,hj]at hl';cases hl';exact(g2.1 rfl).elim
    |succ i'=>exact congrArg _ (g4 i' (by omega) (by rw[show j+1+i'=j+(i'+1) by omega];exact hl'))
theorem Al{l:Nat}:∀{eds:List Ed},G5 l eds=true→Ed.o l .dead∈eds
 |[],h=>by cases h
 | .r _ _::es,h=>qAk _ (Al (eds:=es) h)
 | .w _::es,h=>qAk _ (Al (eds:=es) h)
 | .o l' hd::es,h=>by
  simp only[G5,qBg,qAa]at h;rcases h with⟨h1,h2⟩|h
  ·have:=qAc h1
   grind
  ·exact qAk _ (Al h)
theorem yT{k:Nat}:∀{eds:List Ed},k∈fq eds→∃s,Ed.r k s∈eds
 |[],h=>by cases h
 | .r k' s::es,h=>by
  simp only[fq,qAh]at h;rcases h with rfl|h
  ·grind
  ·obtain⟨s,hs⟩:=yT h;exact⟨s,qAk _ hs⟩
 | .w _::es,h=>(by obtain⟨s,hs⟩:=yT (eds:=es) h;exact⟨s,qAk _ hs⟩)
 | .o _ _::es,h=>(by obtain⟨s,hs⟩:=yT (eds:=es) h;exact⟨s,qAk _ hs⟩)
theorem qy(H:List TObj)(t:List TV)(k:Nat):(aI H t).getD k .unk=av H (nth .unk t k):=aU H t (.tmp k)
theorem qw(H:List TObj)(t:List TV):(aI H t).length=t.length:=by rw[kL,qAi]
theorem gD{α:Type}{d:α}{l:List α}{n:Nat}(h:l.length≤n):nth d l n=d:=by rw[dF,List.getD,qAo h];rfl
section
variable {h' hJ:List TObj}{Lw:List (Option Nat)}{L:Nat→Option Nat}{n:Nat}
theorem I6{j l:Nat}(o:TObj)(hn:eF Lw (au h').length j=l):VW (au h') Lw (bV j o) (bV l o)∧∀z,VW (au h') Lw (bI j z o) (bI l z o):=by
 have sl:∀(e:ET) (xs:List e.D),VW (au h') Lw (.slice (xs.map e.enc) (.tip j e.sz)) (.slice (xs.map e.enc) (.tip l e.sz)):=fun e xs=>.same (by simp only[ren,mg,iq,hn]);have ps:∀z k,VW (au h') Lw (.psl j z k) (.psl l z k):=fun z k=>.same (by simp only[ren,hn]);cases o with
 |own e xs=>exact⟨sl e xs,fun z=>.unk _⟩
 |gone e xs=>exact⟨sl e xs,fun z=>.unk _⟩
 |arr e xs=>exact⟨.unk _,fun z=>ps z _⟩
 |gon k=>exact⟨.unk _,fun z=>ps z _⟩
 |_=>exact⟨.unk _,fun z=>.unk _⟩
theorem Zq{m:Nat}{hd:HO}{o0 oJ o':TObj}{j l:Nat}(h:FO h' L m hd o0 oJ o')(hn:eF Lw (au h').length j=l):VW (au h') Lw (bV j oJ) (bV l o')∧∀z,VW (au h') Lw (bI j z oJ) (bI l z o'):=by
 cases hd with
 |dead=>have e:oJ=.dead:=h;subst e;exact⟨.unk _,fun z=>.unk _⟩
 |box cs=>obtain⟨ws,vs,rfl,rfl,_⟩:=h;exact⟨.unk _,fun z=>.unk _⟩
 |bx is=>
  rcases h with rfl|⟨_,_,_,_,rfl,_⟩
  ·exact⟨.unk _,fun z=>.unk _⟩
  ·exact⟨.unk _,fun z=>.unk _⟩
 |own e=>obtain⟨e,xs,rfl,rfl⟩:=h;exact I6 _ hn
 |mp e=>obtain⟨e,xs,rfl,rfl⟩:=h;exact⟨.unk _,fun z=>.unk _⟩
 |arr e=>obtain⟨e,xs,rfl,rfl⟩:=h;exact I6 _ hn
theorem eO{cs cs':List AV}(h:Rs (VW (au h') Lw) cs cs'):cs.length=cs'.length∧∀j,VW (au h') Lw (cs.getD j .unk) (cs'.getD j .unk):=by
 refine⟨h.len,fun j=>?_⟩;by_cases hj:j<cs.length
 ·exact h.get j hj
 ·rw[List.getD,qAo (qAM hj)];exact .unk _
theorem ahh(hL:∀j l,L j=some l→eF Lw (au h').length j=l)
  (look:∀j l,L j=some l→VW (au h') Lw (bV j (nth .dead hJ j)) (bV l (nth .dead h' l))∧∀z,VW (au h') Lw (bI j z (nth .dead hJ j)) (bI l z (nth .dead h' l)))
  (non:∀j,L j=none→VW (au h') Lw (bV j (nth .dead hJ j)) (.slice [] .nils)∧∀z,VW (au h') Lw (bI j z (nth .dead hJ j)) (.slice [] .nils)):
  Wk h' hJ L (fun _=>VW (au h') Lw):=
 ⟨.unk _,fun _ _=>.unk _,fun m a a' hf hc=>(by
  generalize Nat.ble 1 m=q at hc;cases hc with
  |same=>exact .same (hf _)
  |share es t=>
   have:=hf (eF Lw (au h').length);simp only[ren,AV.slice.injEq]at this;exact .share this.1
  |nilF=>exact .nilF),fun m j l o h=>.same (by simp only[ren,hL j l h]),fun m j l h=>.same (by simp only[ren,hL j l h]),fun m j l h=>(look j l h).1,fun m j h=>(non j h).1,
  fun m j l z h=>(look j l h).2 z,fun m j z h=>(non j h).2 z,fun m cs cs' h=>.eptr (eO h).1 (eO h).2,fun m cs cs' h=>.agg (eO h).1 (eO h).2,fun m cs cs' h=>.tup (eO h).1 (eO h).2,fun m cs cs' h=>.tup (eO h).1 (eO h).2,fun m f cs cs' h=>.func (eO h).1 (eO h).2,fun m f cs cs' h=>.func (eO h).1 (eO h).2⟩
mutual
theorem L9(hW:Wk h' hJ L (fun _=>VW (au h') Lw))(hL:∀j l,L j=some l→eF Lw (au h').length j=l)(hn:∀j,j<n→L j=some j):∀v,F8 n v=true→VW (au h') Lw (av hJ v) (av h' v)
 | .unk,_=>.unk _
 | .nilp,_=>.same rfl
 | .nilF,_=>.same rfl
 | .nils,_=>.same rfl
 | .lf t x,_=>.same (uV _ t x)
 | .nat _,_=>.same rfl
 | .ptr l o,h=>hW.ptr 0 _ _ _ (hn l (qAf h))
 | .mapr l,h=>hW.mapr 0 _ _ (hn l (qAf h))
 | .ap l i z o,h=>hW.ptr 0 _ _ (i.toNat*z+o) (hn l (qAf h))
 | .own l,h=>hW.own 0 _ _ (hn l (qAf h))
 | .psl l z c,h=>by
  cases c with
  |none=>exact hW.psl 0 _ _ _ (hn l (qAf h))
  |some k=>exact .same (by simp only[av,ren,hL l l (hn l (qAf h))])
 | .eptr cs,h=>by simp only[av];exact hW.eptr 0 _ _ (EH hW hL hn cs h)
 | .agg cs,h=>by simp only[av];exact hW.agg 0 _ _ (EH hW hL hn cs h)
 | .tup cs,h=>by simp only[av];exact hW.tup0 0 _ _ (S9 hW hL hn cs h)
 | .func f cs,h=>by simp only[av];exact hW.func0 0 f _ _ (S9 hW hL hn cs h)
theorem EH(hW:Wk h' hJ L (fun _=>VW (au h') Lw))(hL:∀j l,L j=some l→eF Lw (au h').length j=l)(hn:∀j,j<n→L j=some j):∀vs,dM n vs=true→Rs (VW (au h') Lw) (aO hJ vs) (aO h' vs)
 |[],_=>.nil
 |v::vs,h=>by
  simp only[dM,qAa]at h;have h1:=L9 hW hL hn v h.1;have h2:=EH hW hL hn vs h.2;simp only[aO];refine Rs.app ?_ h2;rcases j6 v with ho|⟨e,x,rfl⟩
  ·rw[ho,ho];exact .cons h1 .nil
  ·simp only[nX];have:=(GU e x);generalize e.enc x=l at this;clear h1
   induction l with
   |nil=>exact .nil
   |cons a l ih=>exact .cons (.same (this a (by simp) _)) (ih fun b hb=>this b (by simp[hb]))
theorem S9(hW:Wk h' hJ L (fun _=>VW (au h') Lw))(hL:∀j l,L j=some l→eF Lw (au h').length j=l)(hn:∀j,j<n→L j=some j):∀vs,dM n vs=true→Rs (VW (au h') Lw) (aI hJ vs) (aI h' vs)
 |[],_=>.nil
 |v::vs,h=>by
  simp only[dM,qAa]at h;simp only[aI];exact .cons (L9 hW hL hn v h.1) (S9 hW hL hn vs h.2)
end
theorem Lf{n:Nat}:∀{vs:List TV},dM n vs=true→∀v∈vs,F8 n v=true
 |[],_,v,h=>by cases h
 |x::vs,h,v,hv=>by
  simp only[dM,qAa]at h;rcases qAh.1 hv with rfl|hv
  ·exact h.1
  ·exact Lf h.2 v hv
theorem ZL{n:Nat}:∀(e:ET) (x:e.D),∀v∈vT e x,F8 n v=true:=by
 intro e x v hv;cases e<;>simp only[vT,qAh]at hv<;>(repeat' (rcases hv with rfl|hv))<;>first|rfl|(subst hv;rfl)
theorem ze{n:Nat}:∀{vs:List TV},dM n vs=true→∀v∈aB vs,F8 n v=true
 |[],_,v,h=>by cases h
 |x::vs,h,v,hv=>by
  simp only[dM,qAa]at h;simp only[aB,qAy]at hv;rcases hv with hv|hv
  ·rcases j6 x with ho|⟨e,y,rfl⟩
   ·rw[lU ho,qAL]at hv;subst hv;exact h.1
   ·exact ZL e y v hv
  ·exact ze h.2 v hv
theorem mV{n:Nat}:∀{h:List TObj} {l:Nat},tY n h=true→nth .dead h l≠ .res∧∀cs,nth .dead h l=.box cs→dM n cs=true
 |[],l,_=>⟨fun h=>(by cases h),fun cs h=>(by cases h)⟩
 |o::os,l,h=>by
  simp only[tY,qAa]at h;cases l with
  |zero=>
   have e:nth .dead (o::os) 0=o:=rfl
   grind
  |succ l=>exact mV (h:=os) h.2
theorem CX{cs vs:List TV}(hl:(aB cs).length=(aB vs).length)(h:∀q,q<(aB cs).length→VW (au h') Lw (av hJ ((aB cs).getD q .unk)) (av h' ((aB vs).getD q .unk))):OW (au h') Lw (.box (aO hJ cs)) (.box (aO h' vs)):=by
 refine .box (by rw[gN,gN,←ji,←ji,hl]) fun j=>?_;rw[yH,yH];by_cases hj:j<(aB cs).length
 ·grind
 ·rw[List.getD,qAo (qAM hj)];exact .unk _
theorem yP(g:Nat→Nat)(e:ET)(xs:List (Str×e.D)):(xs.map fun p=>(p.1,e.one p.2)).map (fun p=>(p.1,ren g p.2))=xs.map fun p=>(p.1,e.one p.2):=by
 rw[qBr];refine qAZ fun p _=>?_;simp;rw[←R8 [] e p.2];cases e<;>simp only[ET.seg,av]<;>exact uV _ _ _
theorem ahl(hW:Wk h' hJ L (fun _=>VW (au h') Lw))(hL:∀j l,L j=some l→eF Lw (au h').length j=l)(hn:∀j,j<n→L j=some j)(o:TObj)(hr:o≠ .res)(hb:∀cs,o=.box cs→dM n cs=true):OW (au h') Lw (bY hJ o) (bY h' o):=by
 cases o with
 |box cs=>exact .box (eO (EH hW hL hn cs (hb cs rfl))).1 (eO (EH hW hL hn cs (hb cs rfl))).2
 |own e xs=>exact .tip _
 |gone e xs=>exact .dead _
 |mp e xs=>exact .same rfl (by simp only[bY,bD,yP])
 |arr e xs=>exact .same rfl (by simp only[bY,bD,iq])
 |gon k=>exact .dead _
 |dead=>exact .dead _
 |res=>exact(hr rfl).elim
theorem ab0{m:Nat}(hW:Wk h' hJ L (fun _=>VW (au h') Lw))(hL:∀j l,L j=some l→eF Lw (au h').length j=l)(hn:∀j,j<n→L j=some j){hd:HO}{o0 oJ o':TObj}(h:FO h' L m hd o0 oJ o')
  (hb:∀is cs,hd=.bx is→o0=.box cs→dM n cs=true∧uF o0 o' (jN is)):OW (au h') Lw (bY hJ oJ) (bY h' o'):=by
 cases hd with
 |dead=>have e:oJ=.dead:=h;subst e;exact .dead _
 |box cs=>obtain⟨ws,vs,rfl,rfl,h1⟩:=h;exact .box (eO (h1 hJ _ hW)).1 (eO (h1 hJ _ hW)).2
 |bx is=>
  rcases h with rfl|⟨cs0,cs,vs,rfl,rfl,rfl,h1,h2⟩
  ·exact .dead _
  ·obtain⟨g1,g2⟩:=hb is cs0 rfl rfl;have g3:(aB vs).length=(aB cs0).length∧∀q,jN is q=false→(aB vs)[q]? =(aB cs0)[q]?:=by
    rcases g2 with e|⟨a,b,e1,e2,e3,e4⟩
    ·grind
    grind
   refine CX (h1.trans g3.1.symm) fun q hq=>?_;cases hc:jN is q with
   |true=>exact(h2 q).1 hc hJ _ hW hq
   |false=>
    have hm:(aB cs0).getD q .unk∈aB cs0:=by
     grind
    have:=L9 hW hL hn _ (ze g1 _ hm)
    grind
 |own e=>obtain⟨e,xs,rfl,rfl⟩:=h;exact .tip _
 |mp e=>obtain⟨e,xs,rfl,rfl⟩:=h;exact .same rfl (by simp only[bY,bD,yP])
 |arr e=>obtain⟨e,xs,rfl,rfl⟩:=h;exact .same rfl (by simp only[bY,bD,iq])
end
end
end Abs
end Go.Proofs.YtfmdmcenjfkbhaaGreatDoor
