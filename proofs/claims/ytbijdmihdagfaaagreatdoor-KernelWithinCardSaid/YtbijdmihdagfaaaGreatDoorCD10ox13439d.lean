/-
  Literals of slices, appends, maps; any operation. Conditions: none; lemmas over any program.
-/
import Derived.Test.YtbijdmihdagfaaaGreatDoorCTabox14905a
set_option linter.all false
namespace Go.Proofs.YtbijdmihdagfaaaGreatDoor
namespace Abs
section
open Go
section
variable {P:Program}{γ:Type}{b:γ}{H:List TObj}{t:List TV}{θ:Nat→Option ET}{up:List Nat}{k:Nat}{d:Option Tmp}{ty:TypeId}{ps:String}{aft:Array Edge}{gd:Option (Nat×Bool)}{K:List Nat→List TWr→Option γ}
theorem yC{k:Nat}(h:iq (nth .dead H k)=true):k<H.length:=by
 apply qAl;intro hn;rw[eH,List.getD,qAn (qAP hn)]at h;cases h
theorem bB{α:Type}{d:α}{l:List α}{k:Nat}{v:α}(h:k<l.length):nth d (l.set k v) k=v:=by rw[eH];simp[h]
theorem aN{α:Type}{d:α}{l:List α}{k m:Nat}{v:α}(h:k≠m):nth d (l.set k v) m=nth d l m:=by rw[eH,eH];simp[qBM h]
theorem Nv{k z:Nat}{e:ET}{r:List e.D}(h:k<H.length):av (H.set k (.arr e r)) (.psl k z none)=.psl k z r.length:=by simp only[av,bB h,bZ]
theorem Mt{k:Nat}{e:ET}{r:List e.D}(h:k<H.length):av (H.set k (.own e r)) (.own k)=.slice (r.map e.enc) (.tip k e.sz):=by simp only[av,bB h,dH]
theorem ajV{e:ET}:∀(l:List (Nat×Operand)) (i:Nat) (K:List e.D→Option γ),adw H e i (l.map fun p=>(p.1,dF t p.2)) K=some b→
  ∃(xs:List e.D) (css:List (List AV)),K xs=some b∧LY i l=true∧css.length=l.length∧(∀c∈css,c.length=e.sz)∧(∀j:Nat,j<l.length→∃p,l[j]? =some p∧bY (aS (aQ H t) p.2)=css[j]?)∧css.map (fun c=>c.map shr)=xs.map e.enc:=by
 intro l
 induction l with
 |nil=>intro i K h;exact⟨[],[],h,rfl,rfl,fun c hc=>(by cases hc),fun j hj=>(by cases hj),rfl⟩
 |cons p l ih=>
  intro i K h;rcases aX h with⟨hi,h⟩|⟨_,h⟩
  ·obtain⟨x,cs,h1,h2,h3⟩:=alF h;obtain⟨xs,css,g1,g2,g3,g4,g5,g6⟩:=ih _ _ h1;refine⟨x::xs,cs::css,g1,by simp only[LY,hi,g2,qBR],by simp[g3],?_,?_,by simp only[qAF,ab7 h3,g6]⟩
   ·intro c hc;rcases qAh.1 hc with rfl|hc
    ·rw[←h3.len,BU]
    grind
   ·intro j hj;cases j with
    |zero=>exact⟨p,rfl,by rw[bA];exact h2⟩
    |succ j=>
     grind
  ·cases h
theorem abJ{tt:TypeId}{len:Nat}{parts:Array (Nat×Operand)}(h:bL (TI.of P) θ up k d t H (.buildSlice tt len parts) K=some b):lI P H t k (op' d (.buildSlice tt len parts) ty ps aft gd) K b:=by
 simp only[bL]at h;split at h
 ·rename_i et sz by_ he;have he:dS P tt=some (et,sz,by_):=he;split at h
  ·rename_i e z hθ hz;have hz:bE P et=some z:=hz;rcases aX h with⟨hc,hh⟩|⟨_,h⟩
   ·clear h;simp only[qAa]at hc;obtain⟨⟨c1,c2,c3⟩,c4,c5,c6⟩:=hc;have c1:=qAc c1;have c2:=FR c2;subst c2;have c4:=qAc c4;have c5:=qAf c5;have c6:=qAf c6;obtain⟨xs,css,g1,g2,g3,g4,g5,g6⟩:=ajV _ _ _ hh;have hlen:((List.replicate len z).flatten).length=len*e.sz:=by
     simp_all
    have hf:=T9 (ρ:=aS (aQ H t)) (sz:=e.sz) parts.toList 0 css ((List.replicate len z).flatten) g2 g3 g4 g5 (by rw[hlen,qAv,c1];exact qAr _);rw[qCY,qAQ,qAz,qAv,c1,qDj (by rw[hlen];exact qAr _),qAs]at hf;refine yD (rd:=[k]) ?_ g1;simp only[aH,au,he,hz];rw[if_pos ⟨oQ c3,c5,c6,c4⟩,hf];have hx:xs.length=len:=by
     have:=congrArg List.length g6
     grind
    have hch:chunks e.sz len (css.flatten.map shr)=xs.map e.enc:=by
     have:=chunks_flatten (sz:=e.sz) (css:=css.map fun c=>c.map shr) (fun c hc=>by
      obtain⟨c',h1,rfl⟩:=qBk.1 hc;rw[qAj];exact g4 c' h1)
     grind
    simp only[qAw,sw,yc,dM,gD,Oe,Mt (yC c3),hch,hx]
   ·cases h
  ·cases h
 ·cases h
theorem aoz{l:Int}(h:isZ l=true):l=0:=by unfold isZ at h;split at h;rfl;cases h
theorem aly{x y:Operand}(h:agR x y=true):x=y:=by
 unfold agR at h;split at h
 ·rw[qAc h]
 ·cases h
theorem amI{z:List AV}(h:aku z=true):z=[.bool false]:=by
 unfold aku at h;split at h
 ·rfl
 ·cases h
theorem acO{tt:TypeId}{x y:Operand}(h:bL (TI.of P) θ up k d t H (.makeSlice tt x y) K=some b):lI P H t k (op' d (.makeSlice tt x y) ty ps aft gd) K b:=by
 simp only[bL]at h;split at h
 ·rename_i et sz by_ he;have he:dS P tt=some (et,sz,by_):=he;split at h
  ·rename_i e z hθ hz;have hz:bE P et=some z:=hz;obtain⟨k1,l,e1,h1,_⟩:=tJ (H:=H) h;obtain⟨k2,c,e2,h2,_⟩:=tJ (H:=H) h1;rcases aX h2 with⟨hc,hh⟩|⟨_,h2⟩
   ·simp only[qAa]at hc;obtain⟨⟨c1,c2⟩,c3,c4,c5⟩:=hc;have c1:=aly c1;have c2:=amI c2;have c3:=qAc c3;have c4:=qAf c4;subst c1 c2 c3;obtain⟨xs,h3,h4⟩:=ob hh;cases e1.symm.trans e2;unfold mkz at h3;split at h3
    ·rename_i hm;cases h3;refine yD (rd:=[k]) ?_ h4;simp only[aH,he,bA,e1,hz];rw[if_pos ⟨oQ c5,hm.1,qBB _,by have:=Int.mul_le_mul (Int.ofNat_le.2 c4) hm.2 hm.1 (by omega);omega,by omega,rfl⟩];simp only[sw,Oe,gD];rw[Nv (yC c5)];simp only[yc,dM,qAV,qCg];rfl
    ·cases h3
   rcases aX h2 with⟨hc,hh⟩|⟨_,h⟩
   ·simp only[qAa]at hc;obtain⟨c1,c2,c3,c4⟩:=hc;have c1:=aoz c1;have c2:=FR c2;have c3:=qAc c3;subst c1;subst c2;obtain⟨_,h3,h4⟩:=ob hh;unfold mkS at h3;split at h3
    ·rename_i hm;refine yD (rd:=[k]) ?_ h4;simp only[aH,he,bA,e1,e2,hz];rw[if_pos ⟨oQ c4,by omega,hm.1,hm.2.1,hm.2.2,c3⟩];simp only[sw,Oe,gD];rw[Nv (yC c4)];rfl
    ·cases h3
   ·cases h
  ·cases h
 ·cases h
theorem aiZ{args:Array Operand}{ats:Array TypeId}(h:bL (TI.of P) θ up k d t H (.call {callee:=.builtin .append,args,argTypes:=ats}) K=some b):lI P H t k (op' d (.call {callee:=.builtin .append,args,argTypes:=ats}) ty ps aft gd) K b:=by
 simp only[bL]at h;split at h
 ·rename_i x y t1 t2 ha hat;split at h
  ·rename_i et sz by_ he;have he:dS P t1=some (et,sz,by_):=he;split at h
   ·rename_i e hθ;rcases aX h with⟨hc,hh⟩|⟨_,h⟩
    ·clear h;simp only[qAa]at hc;obtain⟨c2,c7,c3⟩:=hc;have c2:=FR c2;subst c2;have c7:aH.isSliceT P t2=true:=c7;obtain⟨ys,h1,_,h2⟩:=amy (H:=H) (t:=.l e) (fun e h=>by cases h) hh;obtain⟨tg,hy⟩:∃tg,av H (dF t y)=.slice (ys.map e.enc) tg:=by
      simp only[gM]at h2;generalize av H (dF t y)=a at h2;cases h2
      ·grind
      grind
     split at h1
     ·rename_i hx;obtain⟨r,h3,h4⟩:=ob h1;obtain⟨q1,q2,rfl⟩:=FT h3;simp only[qAE,qAv]at q1 q2;refine yD (rd:=[k]) ?_ h4;simp only[aH,au,ha,hat,he,c7,bA,hx,hy,av];rw[if_pos ⟨oQ c3,trivial,by rw[qAj];exact q1,by rw[qAj];exact q2,xM (DC e) _⟩];simp only[sw,yc,dM,gD,Oe,Mt (yC c3),qAz,qAj]
     ·rename_i l hx;split at h1
      ·rename_i e' xs hl;obtain⟨xs',e1,g1⟩:=gZ h1;clear h1;cases e1;obtain⟨r,h3,h4⟩:=ob g1;obtain⟨q1,q2,rfl⟩:=FT h3;have hlk:l≠k:=fun e=>by subst e;rw[hl]at c3;cases c3
       refine yD (rd:=[l,k]) ?_ h4;have hx2:av H (TV.own l)=.slice (List.map e.enc xs') (.tip l e.sz):=by simp only[av,hl,dH]
       have hσ:obj? (aD H) l=.tip (xs'.length*e.sz):=by rw[gK,hl];rfl
       simp only[aH,au,ha,hat,he,c7,bA,hx,hy,hx2,hσ];rw[if_pos ⟨oQ c3,by rw[qAj],trivial,by simp only[qAj];exact q1,by simp only[qAj];exact q2,xM (DC e) _,xM (DC e) _⟩];simp only[sw,yc,Oe,hl,dM,gD];rw[Mt (by rw[qAK];exact yC c3)];simp only[qBa,qAg,qAj]
      ·cases h1
     ·rename_i l z hx;split at h1
      ·rename_i e' xs hl;rcases aX h1 with⟨hz,h1⟩|⟨_,h1⟩
       ·have hz:z=e.sz:=qAc hz;subst hz;obtain⟨xs',e1,g1⟩:=gZ h1;clear h1;cases e1;obtain⟨r,h3,h4⟩:=ob g1;obtain⟨q1,q2,rfl⟩:=FT h3;refine yD (rd:=[l,k]) ?_ h4;have hx2:av H (TV.psl l e.sz none)=.psl l e.sz xs'.length:=by simp only[av,hl,bZ]
        have hσ:obj? (aD H) l=.arr e.sz (xs'.map e.enc):=by rw[gK,hl];rfl
        simp only[aH,au,ha,hat,he,c7,bA,hx,hy,hx2,hσ];rw[if_pos ⟨oQ c3,trivial,trivial,by simp only[qAj];exact qAr _,by simp only[qAj];exact q1,by simp only[qAj];exact q2,xM (DC e) _,xM (DC e) _⟩];simp only[sw,yc,Oe,hl,dM,gD];rw[Nv (by rw[qAK];exact yC c3)];simp only[qBa,qAg,qAj,qCi (qBO (show(List.map e.enc xs').length=xs'.length from qAj e.enc))]
       ·cases h1
      ·cases h1
     ·cases h1
    ·cases h
   ·cases h
  ·cases h
 ·cases h
theorem aiM{tt:TypeId}{m key:Operand}{ok:Bool}(h:bL (TI.of P) θ up k d t H (.lookup tt m key ok) K=some b):lI P H t k (op' d (.lookup tt m key ok) ty ps aft gd) K b:=by
 simp only[bL]at h;split at h
 ·rename_i et l s hm hmm hkk;have hm:jo P tt=some et:=hm;split at h
  ·rename_i e xs z hl hz;have hz:sU P et=some z:=hz;rcases aX h with⟨ho,h⟩|⟨_,h⟩
   ·have key:∀v,av H v=vW ((dI xs s).map e.one) ok z→K [l] (dA d v)=some b→lI P H t k (op' d (.lookup tt m key ok) ty ps aft gd) K b:=fun v hv h=>by
     refine yD (rd:=[l]) (ws:=dA d v) ?_ h;simp only[aH,au,hm,bA,hmm,hkk,av,gM,gK,hl,dM,hz,gD,hv,VG]
    unfold Ux at h;split at h
    ·rename_i y hy;cases ok
     ·exact key (e.seg y) (by rw[hy];exact adq H e y) h
     ·exact key (.tup [e.seg y,.lf .b true]) (by rw[hy];simp only[av,aQ,adq,qAw,vW,gM]) h
    ·rename_i hy;cases ok
     ·exact key (P6 z) (by rw[hy];simp only[qBV,vW,af7 (H:=H) ho]) h
     ·exact key (.tup [P6 z,.lf .b false]) (by rw[hy];simp only[av,aQ,af7 (H:=H) ho,qBV,vW,gM]) h
   ·cases h
  ·cases h
 ·cases h
theorem ant{e:ET}{x:e.D}{xs:List AV}{a:AV}(h1:bY a=some xs)(h2:Cvs true (e.enc x) xs)(h3:e.sc=true→xs=[a]):nG a=e.one x:=by
 have hx:=ab7 h2;have hl:xs.length=e.sz:=by rw[←h2.len,BU]
 have key:e.sc=false→nG a=.agg (e.enc x):=fun hsc=>by
  have h2:2≤e.sz:=by cases e<;>first|(cases hsc;done)|(simp[ET.sz])
  cases a with
  |agg cs=>cases h1;simp only[nG,hx]
  |unk=>cases h1
  |tup cs=>cases h1
  |_=>cases h1;simp at hl;omega
 cases e with
 |i=>have:=h3 rfl;subst this;cases h2 with|cons g _=>cases g;rfl
 |u=>have:=h3 rfl;subst this;cases h2 with|cons g _=>cases g;rfl
 |s=>have:=h3 rfl;subst this;cases h2 with|cons g _=>cases g;rfl
 |b=>have:=h3 rfl;subst this;cases h2 with|cons g _=>cases g;rfl
 |vals=>have:=h3 rfl;subst this;cases h2 with|cons g _=>cases g<;>rfl
 |tms=>have:=h3 rfl;subst this;cases h2 with|cons g _=>cases g<;>rfl
 |_=>exact key rfl
theorem adZ{tt:TypeId}{m key x:Operand}(h:bL (TI.of P) θ up k d t H (.mapUpdate tt m key x) K=some b):lI P H t k (op' d (.mapUpdate tt m key x) ty ps aft gd) K b:=by
 simp only[bL]at h;split at h
 ·rename_i et l s hm hmm hkk;have hm:jo P tt=some et:=hm;split at h
  ·rename_i e xs hl;obtain⟨y,cs,h1,h2,h3,h4⟩:=aar h;obtain⟨r,h5,h6⟩:=ob h1;unfold qZ at h5;split at h5
   ·rename_i hlt;cases h5;refine yD (rd:=[l]) ?_ h6;have hs:=ant h2 h3 h4;simp only[aH,hm,bA,hmm,hkk,av,gM,gK,hl,dM,qAj,hlt,sw,gD,hs,YW];rfl
   ·cases h5
  ·cases h
 ·cases h
end
end
section
open Go
noncomputable section
def dJ(s:DS):ASt:=⟨aQ s.h s.t,aD s.h⟩
def Lk(H H':List TObj)(l:Nat):Prop:=dH l (nth .dead H l)=dH l (nth .dead H' l)∧∀z,bZ l z (nth .dead H l)=bZ l z (nth .dead H' l)
theorem jO(n:Nat):Nat.beq n n=true:=qDc n
mutual
theorem Lu{H H':List TObj}:∀v:TV,(∀l,ab1 l v=true→Lk H H' l)→av H v=av H' v
 | .own l,h=>by simp only[av];exact(h l (jO l)).1
 | .psl l z c,h=>by
  cases c with
  |none=>simp only[av,(h l (jO l)).2 z]
  |some n=>rfl
 | .eptr cs,h=>by simp only[av];rw[vv cs h]
 | .agg cs,h=>by simp only[av];rw[vv cs h]
 | .tup cs,h=>by simp only[av];rw[Nc cs h]
 | .func f cs,h=>by simp only[av];rw[Nc cs h]
 | .unk,_=>rfl| .nilp,_=>rfl| .nilF,_=>rfl| .nils,_=>rfl| .lf _ _,_=>rfl| .nat _,_=>rfl| .ptr _ _,_=>rfl| .mapr _,_=>rfl| .ap _ _ _ _,_=>rfl
theorem vv{H H':List TObj}:∀vs:List TV,(∀l,iD l vs=true→Lk H H' l)→aT H vs=aT H' vs
 |[],_=>rfl
 |v::vs,h=>by
  simp only[aT];rw[Lu v fun l hl=>h l (by simp only[iD,hl,qBT]),vv vs fun l hl=>h l (by simp only[iD,hl,qDd])]
theorem Nc{H H':List TObj}:∀vs:List TV,(∀l,iD l vs=true→Lk H H' l)→aQ H vs=aQ H' vs
 |[],_=>rfl
 |v::vs,h=>by
  simp only[aQ];rw[Lu v fun l hl=>h l (by simp only[iD,hl,qBT]),Nc vs fun l hl=>h l (by simp only[iD,hl,qDd])]
end
theorem acF{H H':List TObj}(o:TObj)(h:∀cs,o=.box cs→∀l,iD l cs=true→Lk H H' l):dM H o=dM H' o:=by
 cases o with
 |box cs=>simp only[dM];rw[vv cs (h cs rfl)]
 |_=>rfl
theorem amJ(H:List TObj)(l:Nat)(o:TObj)(m:Nat):nth .dead (H.set l o) m=if l=m∧l<H.length then o else nth .dead H m:=by
 by_cases h:l=m
 ·subst h;by_cases hl:l<H.length
  ·rw[bB hl,if_pos ⟨rfl,hl⟩]
  ·rw[if_neg (fun h=>hl h.2),qBN (qAP hl)]
 ·rw[aN h,if_neg (fun k=>h k.1)]
theorem Gw{H:List TObj}{l:Nat}{o:TObj}(h:dH l (nth .dead H l)=dH l o∧∀z,bZ l z (nth .dead H l)=bZ l z o)(m:Nat):Lk H (H.set l o) m:=by
 unfold Lk;rw[amJ]
 grind
theorem QX{H:List TObj}{l:Nat}{o:TObj}{m:Nat}(h:l≠m):Lk H (H.set l o) m:=by
 unfold Lk;rw[aN h];exact⟨rfl,fun _=>rfl⟩
theorem wD{l:Nat}{o:TObj}(h:plainO o=true):dH l o=.unk∧∀z,bZ l z o=.unk:=by
 cases o<;>first|exact⟨rfl,fun _=>rfl⟩|cases h
theorem ad5{l:Nat}{o o':TObj}(h:plainO o=true)(h':plainO o'=true):dH l o=dH l o'∧∀z,bZ l z o=bZ l z o':=
 ⟨by rw[(wD h).1,(wD h').1],fun z=>by rw[(wD h).2,(wD h').2]⟩
def Nq(H H':List TObj)(t:List TV):Prop:=(∀v∈t,av H v=av H' v)∧∀m,(∀cs,nth .dead H m=.box cs→aT H cs=aT H' cs)
theorem Gq{H H':List TObj}(t:List TV)(h:∀m,Lk H H' m):Nq H H' t:=⟨fun v _=>Lu v fun l _=>h l,fun m cs _=>vv cs fun l _=>h l⟩
theorem aaw:∀{t:List TV} {l:Nat} {v:TV},v∈t→iD l t=false→ab1 l v=false
 |x::t,l,v,hv,h=>by
  simp only[iD,qCo]at h;rcases qAh.1 hv with rfl|hv
  ·exact h.1
  ·exact aaw hv h.2
theorem Xl:∀{H:List TObj} {l m:Nat} {cs:List TV},Lb l H=false→nth .dead H m=.box cs→iD l cs=false
 |[],l,m,cs,_,h=>by cases h
 |o::H,l,m,cs,h,hm=>by
  simp only[Lb,qCo]at h;cases m with
  |zero=>have e:o=.box cs:=hm;subst e;exact h.1
  |succ m=>exact Xl h.2 hm
theorem alZ{H:List TObj}{t:List TV}{l:Nat}{o:TObj}(h1:iD l t=false)(h2:Lb l H=false):Nq H (H.set l o) t:=by
 refine⟨fun v hv=>Lu v fun m hm=>QX fun e=>?_,fun m cs hc=>vv cs fun q hq=>QX fun e=>?_⟩
 ·subst e;rw[aaw hv h1]at hm;cases hm
 ·subst e;rw[Xl h2 hc]at hq;cases hq
theorem aeP{H H':List TObj}{t:List TV}(h:∀v∈t,av H v=av H' v):aQ H t=aQ H' t:=by
 rw[mY,mY];exact qBi h
theorem alu{H:List TObj}{t:List TV}{l:Nat}{o:TObj}(h:Nq H (H.set l o) t):aD (H.set l o)=(aD H).set l (dM (H.set l o) o):=by
 have key:∀m,dM (H.set l o) (nth .dead H m)=dM H (nth .dead H m):=fun m=>(by
  cases hm:nth .dead H m with
  |box cs=>simp only[dM,h.2 m cs hm]
  |_=>rfl)
 unfold aD;generalize hH':H.set l o=H' at key;rw[←hH',qCK,hH'];congr 1;apply qBQ;intro m;simp;cases hm:H[m]? with
 |none=>rfl
 |some x=>
  have:=key m;rw[eH,List.getD,hm]at this
  grind
theorem iX{α β:Type}:∀(l:List α) (n:Nat) (v:α) (K:List α→β),qW l n v K=K (l.set n v)
 |[],_,_,_=>rfl
 |_::_,0,_,_=>rfl
 |x::xs,n+1,v,K=>(iX xs n v fun ys=>K (x::ys)).trans rfl
theorem agt{α γ:Type}{b:γ}:∀(l:List α) (n:Nat) (v:α) (K:List α→Option γ),al9 l n v K=some b→n<l.length∧K (l.set n v)=some b
 |[],_,_,_,h=>by cases h
 |_::_,0,_,_,h=>⟨by simp,h⟩
 |x::xs,n+1,v,K,h=>by
  obtain⟨h1,h2⟩:=agt xs n v (fun ys=>K (x::ys)) h
  grind
theorem ar6{γ:Type}(v:TV)(K:TV→Option γ):fV v K=K v:=by cases v<;>rfl
section
variable {γ:Type}{b:γ}
def W1(s:DS):TWr→DS→Prop
 | .sl n v,s'=>n<s.t.length∧s'=⟨s.t.set n v,s.h,n::s.d,s.o,s.up.filter fun i=>!(Nat.beq i n),s.rl.filter fun p=>!(Nat.beq p.1 n ||(Nat.beq p.2.1 n ||Nat.beq p.2.2 n)),s.cp.filter fun p=>!(Nat.beq p.1 n ||Nat.beq p.2 n),s.oo⟩
 | .ob l o,s'=>plainO o=true∧plainO (nth .dead s.h l)=true∧s'={s with h:=s.h.set l o,o:=(l,0)::s.o}
 | .st l off vs,s'=>∃cs cs',nth .dead s.h l=.box cs∧nT cs off vs some=some cs'∧s'={s with h:=s.h.set l (.box cs'),o:=(rng (off+1) (widths vs)).map (fun q=>(l,q))++s.o}
 | .kill l,s'=>(∃e xs,nth .dead s.h l=.own e xs∧s'={s with h:=s.h.set l (.gone e xs),o:=(l,0)::s.o})∨(∃e xs,nth .dead s.h l=.arr e xs∧s'={s with h:=s.h.set l (.gon xs.length),o:=(l,0)::s.o})∨(((∃cs,nth .dead s.h l=.box cs)∨∃e xs,nth .dead s.h l=.mp e xs)∧s'={s with h:=s.h.set l .dead,o:=(l,0)::s.o})
 | .nw l o,s'=>iq (nth .dead s.h l)=true∧(plainO o=true∨iD l s.t=false∧Lb l s.h=false)∧s'={s with h:=s.h.set l o,o:=(l,0)::s.o}
 | .up l i e y,s'=>∃xs,nth .dead s.h l=.arr e xs∧s'={s with h:=s.h.set l (.arr e (upd xs i y)),o:=(l,0)::s.o}
inductive Ws:DS→List TWr→DS→Prop where
 |nil (s:DS):Ws s [] s
 |cons {s s1 s2:DS} {w:TWr} {ws:List TWr}:W1 s w s1→Ws s1 ws s2→Ws s (w::ws) s2
theorem oP:∀(ws:List TWr) (s:DS) (K:DS→Option γ),vP ws s K=some b→∃s',Ws s ws s'∧K s'=some b
 |[],s,K,h=>⟨s,.nil s,h⟩
 | .sl n v::ws,s,K,h=>by
  simp only[vP,ar6]at h;obtain⟨hn,h⟩:=agt _ _ _ _ h;obtain⟨s',h1,h2⟩:=oP ws _ _ h;exact⟨s',(.cons (w:=.sl n v) (s1:=_) ⟨hn,rfl⟩ h1),h2⟩
 | .ob l o::ws,s,K,h=>by
  simp only[vP,iX]at h;rcases aX h with⟨hc,h⟩|⟨_,h⟩
  ·simp only[qAa]at hc;obtain⟨s',h1,h2⟩:=oP ws _ _ h;exact⟨s',.cons ⟨hc.1,hc.2,rfl⟩ h1,h2⟩
  ·cases h
 | .st l off vs::ws,s,K,h=>by
  simp only[vP]at h;split at h
  ·rename_i cs hl;obtain⟨cs',h1,h2⟩:=aaq h;rw[iX]at h2;obtain⟨s',h3,h4⟩:=oP ws _ _ h2;exact⟨s',.cons ⟨cs,cs',hl,h1,rfl⟩ h3,h4⟩
  ·cases h
 | .kill l::ws,s,K,h=>by
  simp only[vP]at h;split at h
  ·rename_i e xs hl;rw[iX]at h;obtain⟨s',h1,h2⟩:=oP ws _ _ h;exact⟨s',.cons (.inl ⟨e,xs,hl,rfl⟩) h1,h2⟩
  ·rename_i e xs hl;rw[iX]at h;obtain⟨s',h1,h2⟩:=oP ws _ _ h;exact⟨s',.cons (.inr (.inl ⟨e,xs,hl,rfl⟩)) h1,h2⟩
  ·rename_i cs hl;rw[iX]at h;obtain⟨s',h1,h2⟩:=oP ws _ _ h;exact⟨s',.cons (.inr (.inr ⟨.inl ⟨cs,hl⟩,rfl⟩)) h1,h2⟩
  ·rename_i e xs hl;rw[iX]at h;obtain⟨s',h1,h2⟩:=oP ws _ _ h;exact⟨s',.cons (.inr (.inr ⟨.inr ⟨e,xs,hl⟩,rfl⟩)) h1,h2⟩
  ·cases h
 | .nw l o::ws,s,K,h=>by
  simp only[vP]at h;rcases aX h with⟨hc,h⟩|⟨_,h⟩
  ·simp only[qAa,qBb,qAY,qCo]at hc;rw[iX]at h;obtain⟨s',h1,h2⟩:=oP ws _ _ h;exact⟨s',.cons ⟨hc.1,hc.2,rfl⟩ h1,h2⟩
  ·cases h
 | .up l i e y::ws,s,K,h=>by
  simp only[vP]at h;split at h
  ·rename_i e' xs hl;split at h
   ·rename_i q _;subst q;rw[iX]at h;obtain⟨s',h1,h2⟩:=oP ws _ _ h;exact⟨s',.cons ⟨xs,hl,rfl⟩ h1,h2⟩
   ·cases h
  ·cases h
theorem Bb{s s':DS}{w:TWr}(h:W1 s w s'):Nq s.h s'.h s.t∧s'.h=Oe s.h w:=by
 cases w with
 |sl n v=>obtain⟨_,h2⟩:=h;subst h2;exact⟨⟨fun _ _=>rfl,fun _ _ _=>rfl⟩,rfl⟩
 |ob l o=>
  obtain⟨h1,h2,rfl⟩:=h;exact⟨Gq _ (Gw (ad5 h2 h1)),rfl⟩
 |st l off vs=>
  obtain⟨cs,cs',h1,h2,rfl⟩:=h;refine⟨Gq _ (Gw ?_),?_⟩
  ·rw[h1];exact⟨rfl,fun _=>rfl⟩
  ·simp only[Oe,h1,h2]
 |kill l=>
  rcases h with⟨e,xs,h1,rfl⟩|⟨e,xs,h1,rfl⟩|⟨⟨cs,h1⟩|⟨e,xs,h1⟩,rfl⟩<;>
  ·refine⟨Gq _ (Gw ?_),by simp only[Oe,h1]⟩;rw[h1];exact⟨rfl,fun _=>rfl⟩
 |nw l o=>
  obtain⟨h1,h2,rfl⟩:=h;refine⟨?_,rfl⟩;rcases h2 with h2|⟨h2,h3⟩
  ·refine Gq _ (Gw ?_);have e:nth .dead s.h l=.res:=by unfold iq at h1;split at h1;assumption;cases h1
   rw[e];exact⟨(wD h2).1.symm,fun z=>((wD h2).2 z).symm⟩
  ·exact alZ h2 h3
 |up l i e y=>
  obtain⟨xs,h1,rfl⟩:=h;refine⟨Gq _ (Gw ?_),?_⟩
  ·rw[h1];exact⟨rfl,fun _=>by simp only[bZ,upd,qAK]⟩
  ·simp only[Oe,h1,ET.eq_self]
theorem aqR{s s':DS}{w:TWr}(h:W1 s w s'):dJ s'=(dJ s).TK (yc s.h w):=by
 obtain⟨hs,hh⟩:=Bb h;have obj:∀l o,s'.t=s.t→s'.h=s.h.set l o→dJ s'=(dJ s).setObj l (dM (s.h.set l o) o):=fun l o h1 h2=>by
  unfold dJ ASt.setObj;rw[h1,h2];rw[h2]at hs;rw[alu hs,aeP (fun v hv=>(hs.1 v hv).symm)]
 cases w with
 |sl n v=>
  obtain⟨_,h2⟩:=h;subst h2;unfold dJ;simp only[mY,qCK];rfl
 |ob l o=>obtain⟨_,_,rfl⟩:=h;exact obj l o rfl rfl
 |st l off vs=>
  obtain⟨cs,cs',h1,h2,rfl⟩:=h;rw[obj l (.box cs') rfl rfl];have e:aT (s.h.set l (.box cs')) cs'=aT s.h cs':=(vv cs' fun m _=>Gw (by rw[h1];exact⟨rfl,fun _=>rfl⟩) m).symm;simp only[yc,h1,dM,ASt.TK,e,(agb s.h h2).1]
 |kill l=>
  rcases h with⟨e,xs,h1,rfl⟩|⟨e,xs,h1,rfl⟩|⟨_,rfl⟩<;>exact obj l _ rfl rfl
 |nw l o=>obtain⟨_,_,rfl⟩:=h;exact obj l o rfl rfl
 |up l i e y=>
  obtain⟨xs,h1,rfl⟩:=h;rw[obj l _ rfl rfl];simp only[yc,h1,ET.eq_self,dM,ASt.TK]
theorem aho{s s':DS}{ws:List TWr}(h:Ws s ws s'):dJ s'=(dJ s).wr (sw s.h ws):=by
 induction h with
 |nil s=>rfl
 |cons h _ ih=>
  rw[ih,aqR h];simp only[(Bb h).2];rfl
end
end
end
section
open Go
noncomputable section
def Cq:(e:ET)→e.D→List TV
 | .i,x=>[.lf (.n .i64) x]| .u,x=>[.lf (.n .u8) x]| .s,x=>[.lf .s x]| .b,x=>[.lf .b x]
 | .car,x=>[.lf .s x.name,.lf (.l .s) x.elems]
 | .dec,x=>[.lf .s x.name,.lf (.n .i64) x.ty.kind,.lf .s x.ty.name,.lf (.l .ty) x.ty.kids]
 | .ty,x=>[.lf (.n .i64) x.kind,.lf .s x.name,.lf (.l .ty) x.kids]
 | .tm,x=>[.lf (.n .i64) x.op,.lf .s x.name,.lf (.n .i64) x.n,.lf (.n .i64) x.ty.kind,.lf .s x.ty.name,.lf (.l .ty) x.ty.kids,.lf (.l .tm) x.kids]
 | .env,x=>[.lf (.l .car) x.carriers,.lf (.l .dec) x.names]
 | .val,x=>[.lf (.n .i64) x.kind,.lf (.n .i64) x.n,.lf .s x.name,.lf (.l .val) x.kids]
 | .bnd,x=>[.lf .s x.name,.lf (.n .i64) x.v.kind,.lf (.n .i64) x.v.n,.lf .s x.v.name,.lf (.l .val) x.v.kids]
 | .vals,x=>[.lf (.l .val) x]| .tms,x=>[.lf (.l .tm) x]
def JU:TV→List TV
 | .lf (.t e) x=>Cq e x
 |v=>[v]
def aF:List TV→List TV
 |[]=>[]
 |v::vs=>JU v++aF vs
theorem qL:∀a b:List TV,aF (a++b)=aF a++aF b
 |[],_=>rfl
 |v::a,b=>by simp only[qAH,aF,qL a b,qAo]
theorem aau:∀(e:ET) (x:e.D),(Cq e x).length=e.sz
 | .i,_=>rfl| .u,_=>rfl| .s,_=>rfl| .b,_=>rfl| .car,_=>rfl| .dec,_=>rfl| .ty,_=>rfl| .tm,_=>rfl| .env,_=>rfl| .val,_=>rfl| .bnd,_=>rfl| .vals,_=>rfl| .tms,_=>rfl
theorem yX(v:TV):(JU v).length=width v:=by
 rcases l8 v with h|⟨e,x,rfl⟩
 ·cases v with
  |lf t x=>cases t<;>first|rfl|exact aau _ _
  |_=>rfl
 ·exact aau e x
theorem j5:∀vs,(aF vs).length=widths vs
 |[]=>rfl
 |v::vs=>by simp only[aF,qAg,yX,j5 vs,widths]
theorem ou{v:TV}(h:one v):JU v=[v]:=by
 cases v with
 |lf t x=>cases t<;>first|rfl|(rename_i e;have:=h (.tup []);simp only[rW]at this;cases e<;>first|(simp only[ET.enc]at this;cases this;done)|(simp[ET.enc,iE,jM,iW]at this;done))
 |_=>rfl
theorem akW(H:List TObj):∀(e:ET) (x:e.D),(Cq e x).map (av H)=e.enc x
 | .i,_=>rfl| .u,_=>rfl| .s,_=>rfl| .b,_=>rfl| .car,_=>rfl
 | .dec,x=>by have:=iE x.ty;simp only[ET.enc];rfl
 | .ty,x=>by simp only[ET.enc,iE];rfl
 | .tm,x=>by have:=iE x.ty;simp only[ET.enc,jM];rfl
 | .env,_=>rfl
 | .val,x=>by simp only[ET.enc,iW];rfl
 | .bnd,x=>by have:=iW x.v;simp only[ET.enc,this];rfl
 | .vals,_=>rfl| .tms,_=>rfl
theorem Vm(H:List TObj):∀vs,(aF vs).map (av H)=aT H vs
 |[]=>rfl
 |v::vs=>by
  simp only[aF,qBa,Vm H vs];congr 1;cases v with
  |lf t x=>cases t<;>first|rfl|exact akW H _ _
  |_=>rfl
theorem afy(e:ET)(x:e.D):aF (comps e x)=Cq e x:=by cases e<;>rfl
section
variable {γ:Type}{b:γ}
theorem uU:∀(f:Nat) (cs:List TV) (n:Nat) (K:List TV→List TV→Option γ),splitK f cs n K=some b→∃a r,aF cs=aF a++aF r∧(aF a).length=n∧K a r=some b:=by
 intro f
 induction f with
 |zero=>intro cs n K h;cases h
 |succ f ih=>
  intro cs n K h;unfold splitK at h;cases n with
  |zero=>exact⟨[],cs,rfl,rfl,h⟩
  |succ m=>
   cases cs with
   |nil=>cases h
   |cons c r=>
    rcases aX h with⟨hw,h⟩|⟨_,h⟩
    ·obtain⟨a,r',h1,h2,h3⟩:=ih _ _ _ h;have hw:=qAf hw;refine⟨c::a,r',?_,?_,h3⟩
     ·simp only[aF,h1,qAo]
     ·simp only[aF,qAg,yX];omega
    ·split at h
     ·rename_i e x;obtain⟨a,r',h1,h2,h3⟩:=ih _ _ _ h;refine⟨a,r',?_,h2,h3⟩;rw[←h1,qL,afy];rfl
     ·cases h
theorem Bc{cs cs' vs:List TV}{off:Nat}(h:nT cs off vs some=some cs'):aF cs'=(aF cs).take off++aF vs++(aF cs).drop (off+(aF vs).length)∧off+(aF vs).length≤(aF cs).length:=by
 unfold nT at h;obtain⟨a,r,h1,h2,h3⟩:=uU _ _ _ _ h;obtain⟨c,r',h4,h5,h6⟩:=uU _ _ _ _ h3;cases h6;rw[←j5 vs]at h5;have e1:(aF cs).take off=aF a:=by rw[h1,←h2,qDm]
 have e2:(aF cs).drop (off+(aF vs).length)=aF r':=by
  rw[h1,h4,←qAo,qDg (by simp only[qAg];omega)]
 refine⟨by rw[qL,qL,e1,e2,qAo],?_⟩;rw[h1,h4];simp only[qAg];omega
end
mutual
def cB(g:Nat→Nat):Sk→List U→TV×List U
 | .unk,us=>(.unk,us)
 | .nilp,us=>(.nilp,us)
 | .nilF,us=>(.nilF,us)
 | .k c,us=>(.lf c.t c.x,us)
 | .nils,us=>(.nils,us)
 | .lf _,us=>match us with
  |u::us=>(.lf u.t u.x,us)
  |[]=>(.unk,[])
 | .ptr l o,us=>(.ptr (g l) o,us)
 | .eptr cs,us=>(.eptr (dY g cs us).1,(dY g cs us).2)
 | .agg cs,us=>(.agg (dY g cs us).1,(dY g cs us).2)
 | .tup cs,us=>(.tup (dY g cs us).1,(dY g cs us).2)
 | .func f cs,us=>(.func f (dY g cs us).1,(dY g cs us).2)
 | .mapr l,us=>(.mapr (g l),us)
 | .own l,us=>(.own (g l),us)
 | .psl l z,us=>(.psl (g l) z none,us)
def dY(g:Nat→Nat):List Sk→List U→List TV×List U
 |[],us=>([],us)
 |s::ss,us=>((cB g s us).1::(dY g ss (cB g s us).2).1,(dY g ss (cB g s us).2).2)
end
section
variable {β:Type}(g:Nat→Nat)
mutual
theorem fill_eq:∀(s:Sk) (us:List U) (K:TV→List U→β),fill g s us K=K (cB g s us).1 (cB g s us).2
 | .unk,_,_=>rfl
 | .nilp,_,_=>rfl
 | .nilF,_,_=>rfl
 | .k _,_,_=>rfl
 | .nils,_,_=>rfl
 | .lf _,us,_=>by cases us<;>rfl
 | .ptr _ _,_,_=>rfl
 | .eptr cs,us,K=>by simp only[fill,cB,A9 cs us]
 | .agg cs,us,K=>by simp only[fill,cB,A9 cs us]
 | .tup cs,us,K=>by simp only[fill,cB,A9 cs us]
 | .func _ cs,us,K=>by simp only[fill,cB,A9 cs us]
 | .mapr _,_,_=>rfl
 | .own _,_,_=>rfl
 | .psl _ _,_,_=>rfl
theorem A9:∀(ss:List Sk) (us:List U) (K:List TV→List U→β),fills g ss us K=K (dY g ss us).1 (dY g ss us).2
 |[],_,_=>rfl
 |s::ss,us,K=>by simp only[fills,dY,fill_eq s us,A9 ss]
end
end
def gN(g:Nat→Nat):List (Nat×Sk)→Option (List TV)→List U→Option (List TV)×List U
 |[],c,us=>(c,us)
 |p::ps,c,us=>gN g ps (c.bind fun cs=>nT cs p.1 [(cB g p.2 us).1] some) (cB g p.2 us).2
theorem NP{β:Type}(g:Nat→Nat):∀(ps:List (Nat×Sk)) (c:Option (List TV)) (us:List U) (K:Option (List TV)→List U→β),MI g ps c us K=K (gN g ps c us).1 (gN g ps c us).2
 |[],_,_,_=>rfl
 |p::ps,c,us,K=>by
  simp only[MI,gN,fill_eq];cases c with
  |none=>exact NP g ps none _ K
  |some cs=>
   simp only[qAb];split
   ·rename_i e;rw[e];exact NP g ps _ _ K
   ·rename_i e;rw[e];exact NP g ps _ _ K
def aZ(g:Nat→Nat)(o:TObj):HO→List U→TObj×List U
 | .dead,us=>(.dead,us)
 | .box cs,us=>(.box (dY g cs us).1,(dY g cs us).2)
 | .bx l,us=>match o with
  | .box cs=>((match(gN g l (some cs) us).1 with|some cs=>.box cs|none=>.dead),(gN g l (some cs) us).2)
  |_=>(.dead,(gN g l none us).2)
 | .own _,us=>match us with
  |⟨.l e,xs⟩::us=>(.own e xs,us)
  |us=>(.dead,us)
 | .mp _,us=>match us with
  |⟨.m e,xs⟩::us=>(.mp e xs,us)
  |us=>(.dead,us)
 | .arr _,us=>match us with
  |⟨.l e,xs⟩::us=>(.arr e xs,us)
  |us=>(.dead,us)
theorem adE{β:Type}(g:Nat→Nat)(o:TObj)(h:HO)(us:List U)(K:TObj→List U→β):Jy g o h us K=K (aZ g o h us).1 (aZ g o h us).2:=by
 cases h with
 |dead=>rfl
 |box cs=>simp only[Jy,aZ,A9]
 |bx l=>
  cases o<;>simp only[Jy,aZ,NP]
  grind
 |own e=>simp only[Jy,aZ];split<;>first|rfl|(rename_i h;split<;>first|rfl|(rename_i h2;exact(h _ _ _ rfl).elim))
 |mp e=>simp only[Jy,aZ];split<;>first|rfl|(rename_i h;split<;>first|rfl|(rename_i h2;exact(h _ _ _ rfl).elim))
 |arr e=>simp only[Jy,aZ];split<;>first|rfl|(rename_i h;split<;>first|rfl|(rename_i h2;exact(h _ _ _ rfl).elim))
def bV(g:Nat→Nat):List Ed→List U→List TV→List TObj→List TV×List TObj
 |[],_,t,h=>(t,h)
 | .r n s::es,us,t,h=>bV g es (cB g s us).2 (t.set n (cB g s us).1) h
 | .o l s::es,us,t,h=>bV g es (aZ g (nth .dead h l) s us).2 t (h.set l (aZ g (nth .dead h l) s us).1)
 | .w s::es,us,t,h=>bV g es (aZ g .dead s us).2 t (h++[(aZ g .dead s us).1])
theorem ad1{α β:Type}:∀(l:List α) (v:α) (K:List α→β),amx l v K=K (l++[v])
 |[],_,_=>rfl
 |x::xs,v,K=>(ad1 xs v fun ys=>K (x::ys)).trans rfl
theorem GQ{β:Type}(g:Nat→Nat):∀(es:List Ed) (us:List U) (t:List TV) (h:List TObj) (K:List TV→List TObj→β),GI g es us t h K=K (bV g es us t h).1 (bV g es us t h).2
 |[],_,_,_,_=>rfl
 | .r n s::es,us,t,h,K=>by simp only[GI,bV,fill_eq,iX,GQ g es]
 | .o l s::es,us,t,h,K=>by simp only[GI,bV,adE,iX,GQ g es]
 | .w s::es,us,t,h,K=>by simp only[GI,bV,adE,ad1,GQ g es]
inductive Rs(R:AV→AV→Prop):List AV→List AV→Prop where
 |nil:Rs R [] []
 |cons {x y:AV} {xs ys:List AV}:R x y→Rs R xs ys→Rs R (x::xs) (y::ys)
theorem Rs.app{R:AV→AV→Prop}{a b c d:List AV}(h:Rs R a c)(k:Rs R b d):Rs R (a++b) (c++d):=by
 induction h with
 |nil=>exact k
 |cons h _ ih=>exact .cons h ih
theorem Rs.len{R:AV→AV→Prop}{a c:List AV}(h:Rs R a c):a.length=c.length:=by
 induction h with
 |nil=>rfl
 |cons _ _ ih=>simp[ih]
theorem Rs.get{R:AV→AV→Prop}{a c:List AV}(h:Rs R a c):∀j,j<a.length→R (a.getD j .unk) (c.getD j .unk):=by
 induction h with
 |nil=>intro j hj;cases hj
 |cons h1 _ ih=>intro j hj;cases j with
  |zero=>exact h1
  |succ j=>exact ih j (by simpa using hj)
structure Wk(H Hf:List TObj)(L:Nat→Option Nat)(R:Nat→AV→AV→Prop):Prop where
 unk0:R 0 .unk .unk
 unk:∀m a,R (m+1) .unk a
 fix:∀m a a',(∀g,ren g a=a)→Cv (Nat.ble 1 m) a a'→R m a a'
 ptr:∀m j l o,L j=some l→R m (.ptr j o) (.ptr l o)
 mapr:∀m j l,L j=some l→R m (.mapr j) (.mapr l)
 own:∀m j l,L j=some l→R m (av Hf (.own j)) (av H (.own l))
 ownN:∀m j,L j=none→R (m+2) (av Hf (.own j)) (.slice [] .nils)
 psl:∀m j l z,L j=some l→R m (av Hf (.psl j z none)) (av H (.psl l z none))
 pslN:∀m j z,L j=none→R (m+2) (av Hf (.psl j z none)) (.slice [] .nils)
 eptr:∀m cs cs',Rs (R 0) cs cs'→R m (.eptr cs) (.eptr cs')
 agg:∀m cs cs',Rs (R m) cs cs'→R m (.agg cs) (.agg cs')
 tup2:∀m cs cs',Rs (R (m+2)) cs cs'→R (m+2) (.tup cs) (.tup cs')
 tup0:∀m cs cs',Rs (R 0) cs cs'→R m (.tup cs) (.tup cs')
 func2:∀m f cs cs',Rs (R (m+2)) cs cs'→R (m+2) (.func f cs) (.func f cs')
 func0:∀m f cs cs',Rs (R 0) cs cs'→R m (.func f cs) (.func f cs')
theorem acJ{g:Nat→Nat}:∀{l:List AV},bS g l=l→∀a∈l,ren g a=a
 |[],_,a,h=>by cases h
 |x::l,h,a,ha=>by
  simp only[bS,List.cons.injEq]at h;rcases qAh.1 ha with rfl|ha
  ·exact h.1
  ·exact acJ h.2 a ha
theorem Sv(e:ET)(x:e.D):∀a∈e.enc x,∀g,ren g a=a:=fun a ha g=>acJ (PW e g x) a ha
theorem aa1(u:U):∀a∈xV u,∀g,ren g a=a:=by
 intro a ha g;rcases l8 (.lf u.t u.x)with h|⟨e,x,h⟩
 ·unfold xV at ha;rw[h]at ha;rw[qBd]at ha;subst ha;exact Bu g _ _
 ·obtain⟨t,y⟩:=u;obtain⟨rfl,h⟩:=h;exact Sv e y a ha g
theorem Cvs.rs{H Hf:List TObj}{L:Nat→Option Nat}{R:Nat→AV→AV→Prop}(hW:Wk H Hf L R){m:Nat}{xs ys:List AV}(h:Cvs (Nat.ble 1 m) xs ys):(∀a∈xs,∀g,ren g a=a)→Rs (R m) xs ys:=by
 generalize hq:Nat.ble 1 m=q at h
 induction h with
 |nil=>intro _;exact .nil
 |cons h _ ih=>subst hq;intro hf;exact .cons (hW.fix _ _ _ (hf _ (by simp)) h) (ih fun a ha=>hf a (by simp[ha]))
end
end
section
open Go
section
variable {γ:Type}{b:γ}{H:List TObj}{L:Nat→Option Nat}
theorem amc{w:Bool}{t:LT}{v:TV}{K:t.D→Option γ}(ht:∀e,t≠ .t e)(h:(nK H w t v fun u=>ig t u K)=some b):∃x,K x=some b∧one v∧Cv w (gM t x) (av H v):=by
 rcases l8 v with h1|⟨e,x,rfl⟩
 ·obtain⟨u,h2,h3,_⟩:=Vu h1 h;obtain⟨x,rfl,h4⟩:=gZ h2
  grind
 ·simp only[nK]at h;obtain⟨y,h5,_⟩:=gZ h
  grind
theorem ajI{a:AV}{xs:List AV}(h:bY a=some xs)(hl:xs.length≠1):a=.agg xs:=by
 cases a<;>simp only[bY]at h<;>cases h<;>first|rfl|exact(hl rfl).elim
theorem Xw{a:Option Nat}{l:Nat}(h:oeq a l=true):a=some l:=by
 cases a with
 |none=>cases h
 |some x=>exact congrArg some (qAc h)
theorem sz2:∀{e:ET},e.sc=false→e.sz≠1
 | .i,h=>by cases h
 | .u,h=>by cases h
 | .s,h=>by cases h
 | .b,h=>by cases h
 | .car,_=>by decide
 | .dec,_=>by decide
 | .ty,_=>by decide
 | .tm,_=>by decide
 | .env,_=>by decide
 | .val,_=>by decide
 | .bnd,_=>by decide
 | .vals,h=>by cases h
 | .tms,h=>by cases h
theorem CU.atM:∀(c:CU) (e:ET),c.t≠ .t e:=by intro c e h;cases c<;>cases h
mutual
theorem apO:∀{a c:Ty},alc a c=true→a=c
 | .mk k s l,.mk k' s' l',h=>by
  simp only[alc,qAa]at h;rw[of_decide_eq_true h.1,eq_of_beq h.2.1,Zl h.2.2]
theorem Zl:∀{a c:List Ty},VX a c=true→a=c
 |[],[],_=>rfl
 |x::xs,y::ys,h=>by
  simp only[VX,qAa]at h;rw[apO h.1,Zl h.2]
 |[],_::_,h=>by simp[VX]at h
 |_::_,[],h=>by simp[VX]at h
end
theorem CU.amg:∀{c:CU} {x:c.t.D},c.is x=true→x=c.x:=by
 intro c x h;cases c with
 |n k y=>exact of_decide_eq_true (p:=(show Int from x)=y) h
 |b y=>exact(eq_of_beq (α:=Bool) h).symm
 |s y=>exact eq_of_beq (α:=Str) h
 |l e=>exact qDb.1 h
 |ly z=>exact(Zl h).symm
theorem CU.one(c:CU):one (.lf c.t c.x):=by cases c<;>exact fun _=>rfl
theorem CU.width(c:CU):width (.lf c.t c.x)=pO (.k c):=by cases c<;>rfl
def apq(H:List TObj)(L:Nat→Option Nat)(m:Nat)(s:Sk)(v:TV)(K:List U→Option γ)(b:γ):Prop:=
 ∃us w,K us=some b∧(∀rest,cB bg s (us++rest)=(w,rest))∧((∀t,s≠ .lf t)→one w)∧width w=pO s∧∀Hf R,Wk H Hf L R→R m (av Hf w) (av H v)
def atD(H:List TObj)(L:Nat→Option Nat)(m:Nat)(ss:List Sk)(vs:List TV)(K:List U→Option γ)(b:γ):Prop:=
 ∃us ws,K us=some b∧(∀rest,dY bg ss (us++rest)=(ws,rest))∧∀Hf R,Wk H Hf L R→Rs (R m) (aQ Hf ws) (aQ H vs)
def ala(H:List TObj)(L:Nat→Option Nat)(m:Nat)(ss:List Sk)(vs:List TV)(K:List U→Option γ)(b:γ):Prop:=
 ∃us ws,K us=some b∧(∀rest,dY bg ss (us++rest)=(ws,rest))∧∀Hf R,Wk H Hf L R→Rs (R m) (aT Hf ws) (aT H vs)
theorem MQ{w:TV}(h:∀e x,w≠ .lf (.t e) x):one w:=(l8 w).elim id fun⟨e,x,q⟩=>(h e x q).elim
set_option linter.unusedVariables false in
mutual
theorem adR:∀(s:Sk) (m:Nat) (v:TV) (K:List U→Option γ),ext m H L s v K=some b→apq H L m s v K b
 | .unk,m,v,K,h=>by
  simp only[ext]at h;cases m with
  |zero=>
   cases v with
   |unk=>exact⟨[],.unk,h,fun rest=>rfl,fun _=>fun _=>rfl,rfl,fun Hf R hW=>hW.unk0⟩
   |_=>cases h
  |succ m=>exact⟨[],.unk,h,fun rest=>rfl,fun _=>fun _=>rfl,rfl,fun Hf R hW=>hW.unk m _⟩
 | .nilp,m,v,K,h=>by
  simp only[ext]at h;cases v with
  |nilp=>exact⟨[],.nilp,h,fun rest=>rfl,fun _=>fun _=>rfl,rfl,fun Hf R hW=>hW.fix m _ _ (fun _=>rfl) (.same _ _)⟩
  |_=>cases h
 | .nilF,m,v,K,h=>by
  simp only[ext]at h;cases v with
  |nilF=>exact⟨[],.nilF,h,fun rest=>rfl,fun _=>fun _=>rfl,rfl,fun Hf R hW=>hW.fix m _ _ (fun _=>rfl) (.same _ _)⟩
  |_=>cases h
 | .nils,m,v,K,h=>by
  simp only[ext]at h;cases v with
  |nils=>exact⟨[],.nils,h,fun rest=>rfl,fun _=>fun _=>rfl,rfl,fun Hf R hW=>hW.fix m _ _ (fun _=>rfl) (.same _ _)⟩
  |_=>cases h
 | .k c,m,v,K,h=>by
  simp only[ext]at h;obtain⟨x,h1,h2,h3⟩:=amc (CU.atM c) h;obtain⟨hc,h4⟩:=(aX h1).resolve_right fun h=>by cases h.2
  have e:=CU.amg hc;subst e;exact⟨[],.lf c.t c.x,h4,fun rest=>rfl,fun _=>CU.one c,CU.width c,fun Hf R hW=>hW.fix m _ _ (Bu · c.t c.x) h3⟩
 | .lf t,m,v,K,h=>by
  have leaf:(∀e,t≠ .t e)→(nK H (Nat.ble 1 m) t v fun u=>ig t u fun x=>K [⟨t,x⟩])=some b→apq H L m (.lf t) v K b:=fun ht h=>by
   obtain⟨x,h1,h2,h3⟩:=amc ht h;exact⟨[⟨t,x⟩],.lf t x,h1,fun rest=>rfl,fun hn=>(hn t rfl).elim,by cases t<;>first|rfl|exact(ht _ rfl).elim,fun Hf R hW=>hW.fix m _ _ (Bu · t x) h3⟩
  simp only[ext]at h;cases t with
  |t e=>
   simp only at h;rcases aX h with⟨_,h⟩|⟨hsc,h⟩
   ·cases h
   ·split at h
    ·rename_i cs hc;obtain⟨u,r,xs,h1,h2,h3⟩:=LU _ _ _ _ h;split at h1
     ·obtain⟨x,rfl,h4⟩:=gZ h1;refine⟨[⟨.t e,x⟩],.lf (.t e) x,h4,fun rest=>rfl,fun hn=>(hn _ rfl).elim,rfl,fun Hf R hW=>?_⟩;have hxs:bY (av H v)=some xs:=by rw[zo hc,h2];simp only[aT,qAs]
      have hl:xs.length=e.sz:=by rw[←h3.len];exact BU e x
      rw[ajI hxs (by rw[hl];exact sz2 hsc)];exact hW.agg m _ _ (h3.rs hW (Sv e x))
     ·cases h1
    ·cases h
  |_=>exact leaf (fun e h=>by cases h) h
 | .ptr j o,m,v,K,h=>by
  simp only[ext]at h;cases v with
  |ptr l o'=>
   simp only at h;rcases aX h with⟨hc,g⟩|⟨_,g⟩
   ·simp only[qAa]at hc;have e1:=qAc hc.1;subst e1;exact⟨[],.ptr j o,g,fun rest=>rfl,fun _=>fun _=>rfl,rfl,fun Hf R hW=>hW.ptr m _ _ _ (Xw hc.2)⟩
   ·cases g
  |_=>cases h
 | .mapr j,m,v,K,h=>by
  simp only[ext]at h;cases v with
  |mapr l=>
   simp only at h;rcases aX h with⟨hc,g⟩|⟨_,g⟩
   ·exact⟨[],.mapr j,g,fun rest=>rfl,fun _=>fun _=>rfl,rfl,fun Hf R hW=>hW.mapr m _ _ (Xw hc)⟩
   ·cases g
  |_=>cases h
 | .own j,m,v,K,h=>by
  simp only[ext]at h;cases v with
  |own l=>
   simp only at h;rcases aX h with⟨hc,g⟩|⟨_,g⟩
   ·exact⟨[],.own j,g,fun rest=>rfl,fun _=>fun _=>rfl,rfl,fun Hf R hW=>hW.own m _ _ (Xw hc)⟩
   ·cases g
  |nils=>
   simp only at h;rcases aX h with⟨hc,g⟩|⟨_,g⟩
   ·simp only[qAa]at hc;obtain⟨m,rfl⟩:∃k,m=k+2:=⟨m - 2,by have:=qAf hc.1;omega⟩;exact⟨[],.own j,g,fun rest=>rfl,fun _=>fun _=>rfl,rfl,fun Hf R hW=>hW.ownN m j (by cases hl:L j with|none=>rfl|some x=>rw[hl]at hc;cases hc.2)⟩
   ·cases g
  |_=>cases h
 | .psl j z,m,v,K,h=>by
  simp only[ext]at h;split at h
  ·rename_i l z';rcases aX h with⟨hc,g⟩|⟨_,g⟩
   ·simp only[qAa]at hc;have e1:=qAc hc.2;subst e1;exact⟨[],.psl j z none,g,fun rest=>rfl,fun _=>fun _=>rfl,rfl,fun Hf R hW=>hW.psl m _ _ _ (Xw hc.1)⟩
   ·cases g
  ·rcases aX h with⟨hc,g⟩|⟨_,g⟩
   ·simp only[qAa]at hc;obtain⟨m,rfl⟩:∃k,m=k+2:=⟨m - 2,by have:=qAf hc.1;omega⟩;exact⟨[],.psl j z none,g,fun rest=>rfl,fun _=>fun _=>rfl,rfl,fun Hf R hW=>hW.pslN m j z (by cases hl:L j with|none=>rfl|some x=>rw[hl]at hc;cases hc.2)⟩
   ·cases g
  ·cases h
 | .eptr cs,m,v,K,h=>by
  simp only[ext]at h;cases v with
  |eptr vs=>
   obtain⟨us,ws,h1,h2,h3⟩:=yQ cs 0 vs K h;exact⟨us,.eptr ws,h1,fun rest=>by simp only[cB,h2],fun _=>fun _=>rfl,rfl,fun Hf R hW=>by simp only[av];exact hW.eptr m _ _ (h3 Hf R hW)⟩
  |_=>cases h
 | .agg cs,m,v,K,h=>by
  simp only[ext]at h;split at h
  ·rename_i vs;obtain⟨us,ws,h1,h2,h3⟩:=yQ cs m vs K h;exact⟨us,.agg ws,h1,fun rest=>by simp only[cB,h2],fun _=>fun _=>rfl,rfl,fun Hf R hW=>by simp only[av];exact hW.agg m _ _ (h3 Hf R hW)⟩
  ·rename_i e x;obtain⟨us,ws,h1,h2,h3⟩:=yQ cs m [.lf (.t e) x] K h;refine⟨us,.agg ws,h1,fun rest=>by simp only[cB,h2],fun _=>fun _=>rfl,rfl,fun Hf R hW=>?_⟩;have:=hW.agg m _ _ (h3 Hf R hW);simp only[aT,rW,qAs]at this;exact this
  ·cases h
 | .tup cs,m,v,K,h=>by
  simp only[ext]at h;cases v with
  |tup vs=>
   obtain⟨us,ws,h1,h2,h3⟩:=Z8 cs _ vs K h;refine⟨us,.tup ws,h1,fun rest=>by simp only[cB,h2],fun _=>fun _=>rfl,rfl,fun Hf R hW=>?_⟩;simp only[av];cases hm:Nat.ble 2 m with
   |false=>rw[hm]at h3;exact hW.tup0 m _ _ (h3 Hf R hW)
   |true=>
    rw[hm]at h3;obtain⟨m,rfl⟩:∃k,m=k+2:=⟨m - 2,by have:=qAf hm;omega⟩;exact hW.tup2 m _ _ (h3 Hf R hW)
  |_=>cases h
 | .func f cs,m,v,K,h=>by
  simp only[ext]at h;cases v with
  |func f' vs=>
   simp only at h;rcases aX h with⟨hc,g⟩|⟨_,g⟩
   ·have e1:=qAc hc;subst e1;obtain⟨us,ws,h1,h2,h3⟩:=Z8 cs _ vs K g;refine⟨us,.func f ws,h1,fun rest=>by simp only[cB,h2],fun _=>fun _=>rfl,rfl,fun Hf R hW=>?_⟩;simp only[av];cases hm:Nat.ble 2 m with
    |false=>rw[hm]at h3;exact hW.func0 m f _ _ (h3 Hf R hW)
    |true=>
     rw[hm]at h3;obtain⟨m,rfl⟩:∃k,m=k+2:=⟨m - 2,by have:=qAf hm;omega⟩;exact hW.func2 m f _ _ (h3 Hf R hW)
   ·cases g
  |_=>cases h
theorem Z8:∀(ss:List Sk) (m:Nat) (vs:List TV) (K:List U→Option γ),Zu m H L ss vs K=some b→atD H L m ss vs K b
 |[],m,vs,K,h=>by
  simp only[Zu]at h;cases vs with
  |nil=>exact⟨[],[],h,fun rest=>rfl,fun Hf R hW=>.nil⟩
  |cons _ _=>cases h
 |s::ss,m,vs,K,h=>by
  simp only[Zu]at h;cases vs with
  |nil=>cases h
  |cons v r=>
   obtain⟨us,w,h1,h2,_,_,h3⟩:=adR s m v _ h;obtain⟨us',ws,h4,h5,h6⟩:=Z8 ss m r _ h1;refine⟨us++us',w::ws,h4,fun rest=>?_,fun Hf R hW=>?_⟩
   ·simp only[dY,qAo,h2,h5]
   ·simp only[aQ];exact .cons (h3 Hf R hW) (h6 Hf R hW)
theorem yQ:∀(ss:List Sk) (m:Nat) (vs:List TV) (K:List U→Option γ),lu m H L ss vs K=some b→ala H L m ss vs K b
 |[],m,vs,K,h=>by
  simp only[lu]at h;cases vs with
  |nil=>exact⟨[],[],h,fun rest=>rfl,fun Hf R hW=>.nil⟩
  |cons _ _=>cases h
 |s::ss,m,vs,K,h=>by
  have val:(∀t,s≠ .lf t)→∀v r,vs=v::r→one v→(ext m H L s v fun us=>lu m H L ss r fun us'=>K (us++us'))=some b→ala H L m (s::ss) vs K b:=fun hs v r hv h1 h=>by
   obtain⟨us,w,g1,g2,g3,_,g4⟩:=adR s m v _ h;obtain⟨us',ws,g5,g6,g7⟩:=yQ ss m r _ g1;subst hv;refine⟨us++us',w::ws,g5,fun rest=>?_,fun Hf R hW=>?_⟩
   ·simp only[dY,qAo,g2,g6]
   ·simp only[aT,g3 hs (av Hf w),h1 (av H v),qAH,qAz];exact .cons (g4 Hf R hW) (g7 Hf R hW)
  have key:(∀t,s≠ .lf t)→(hd1 vs fun v r=>ext m H L s v fun us=>lu m H L ss r fun us'=>K (us++us'))=some b→ala H L m (s::ss) vs K b:=fun hs h=>by
   cases vs with
   |nil=>cases h
   |cons v r=>
    simp only[hd1]at h;rcases aX h with⟨_,g⟩|⟨h1,g⟩
    ·cases g
    ·exact val hs v r rfl (MQ fun e x q=>by rw[q]at h1;cases h1) g
  cases s with
  |lf t=>
   simp only[lu]at h;obtain⟨u,r,xs,h1,h2,h3⟩:=LU _ _ _ _ h;obtain⟨x,rfl,h4⟩:=gZ h1;obtain⟨us',ws,g5,g6,g7⟩:=yQ ss m r _ h4;refine⟨⟨t,x⟩::us',.lf t x::ws,g5,fun rest=>?_,fun Hf R hW=>?_⟩
   ·simp only[dY,qAH,cB,g6]
   ·rw[h2];simp only[aT];exact(h3.rs hW (aa1 ⟨t,x⟩)).app (g7 Hf R hW)
  |k c=>
   simp only[lu]at h;obtain⟨u,r,xs,h1,h2,h3⟩:=LU _ _ _ _ h;obtain⟨x,rfl,h4⟩:=gZ h1;obtain⟨hc,h5⟩:=(aX h4).resolve_right fun h=>by cases h.2
   have e:=CU.amg hc;subst e;obtain⟨us',ws,g5,g6,g7⟩:=yQ ss m r _ h5;refine⟨us',.lf c.t c.x::ws,g5,fun rest=>?_,fun Hf R hW=>?_⟩
   ·simp only[dY,cB,g6]
   ·rw[h2];simp only[aT];exact(h3.rs hW (aa1 ⟨c.t,c.x⟩)).app (g7 Hf R hW)
  |unk=>exact key (fun t e=>by cases e) (by simpa only[lu]using h)
  |nilp=>exact key (fun t e=>by cases e) (by simpa only[lu]using h)
  |nilF=>exact key (fun t e=>by cases e) (by simpa only[lu]using h)
  |nils=>exact key (fun t e=>by cases e) (by simpa only[lu]using h)
  |ptr _ _=>exact key (fun t e=>by cases e) (by simpa only[lu]using h)
  |eptr _=>exact key (fun t e=>by cases e) (by simpa only[lu]using h)
  |agg _=>exact key (fun t e=>by cases e) (by simpa only[lu]using h)
  |tup _=>exact key (fun t e=>by cases e) (by simpa only[lu]using h)
  |func _ _=>exact key (fun t e=>by cases e) (by simpa only[lu]using h)
  |mapr _=>exact key (fun t e=>by cases e) (by simpa only[lu]using h)
  |own _=>exact key (fun t e=>by cases e) (by simpa only[lu]using h)
  |psl _ _=>exact key (fun t e=>by cases e) (by simpa only[lu]using h)
end
end
end
section
open Go
theorem mem_iff{l:List Nat}{n:Nat}:mem l n=true↔n∈l:=by
 induction l with
 |nil=>exact⟨fun h=>(by cases h),fun h=>(by cases h)⟩
 |cons x l ih=>
  show(bif Nat.beq x n then true else mem l n)=true↔_;cases hx:Nat.beq x n with
  |true=>simp;exact .inl (qAc hx).symm
  |false=>
   simp only[cond_false,qAh,ih];refine⟨.inr,fun h=>h.elim (fun e=>?_) id⟩
   simp_all
theorem sJ{l:List Nat}{n:Nat}:mem l n=false↔n∉l:=by
 rw[←mem_iff];cases mem l n<;>simp
theorem zh{n:Nat}:∀{c k:Nat},n∈rng k c↔k≤n∧n<k+c
 |0,k=>by simp only[rng,List.not_mem_nil,false_iff];omega
 |c+1,k=>by simp only[rng,qAh,zh];omega
noncomputable def kZ(is:List (Nat×Sk))(q:Nat):Bool:=mem (is.flatMap fun p=>rng (p.1+1) (pO p.2)) (q+1)
theorem q9{p:Nat×Sk}{is:List (Nat×Sk)}{q:Nat}:kZ (p::is) q=true↔(p.1≤q∧q<p.1+pO p.2)∨kZ is q=true:=by
 unfold kZ;rw[mem_iff,mem_iff,qBE,qAA,zh]
 grind
section
variable {γ:Type}{b:γ}{H:List TObj}{L:Nat→Option Nat}{m mo:Nat}
theorem apl(H Hf:List TObj)(L:Nat→Option Nat):Wk H Hf L (fun _ _ _=>True):=
 ⟨trivial,fun _ _=>trivial,fun _ _ _ _ _=>trivial,fun _ _ _ _ _=>trivial,fun _ _ _ _=>trivial,fun _ _ _ _=>trivial,fun _ _ _=>trivial,fun _ _ _ _ _=>trivial,fun _ _ _ _=>trivial,fun _ _ _ _=>trivial,fun _ _ _ _=>trivial,fun _ _ _ _=>trivial,fun _ _ _ _=>trivial,fun _ _ _ _ _=>trivial,fun _ _ _ _ _=>trivial⟩
theorem EX(H:List TObj)(vs:List TV)(q:Nat):(aT H vs).getD q .unk=av H ((aF vs).getD q .unk):=by
 rw[←Vm];simp;cases(aF vs)[q]?<;>rfl
def XZ(H:List TObj)(L:Nat→Option Nat)(m:Nat)(cs vs:List TV)(q:Nat):Prop:=∀Hf R,Wk H Hf L R→q<(aF cs).length→R m (av Hf ((aF cs).getD q .unk)) (av H ((aF vs).getD q .unk))
theorem ahV{cs cs' vs:List TV}{q:Nat}(h:XZ H L m cs vs q)(e:(aF cs')[q]? =(aF cs)[q]?):XZ H L m cs' vs q:=by
 intro Hf R hW hq;have hq':q<(aF cs).length:=by
  grind
 have:=h Hf R hW hq'
 grind
theorem afU(vs:List TV):∀(ps:List (Nat×Sk)) (K:List U→Option γ),ahR m H L vs ps K=some b→∃us,K us=some b∧∀(c:Option (List TV)) rest,∃c',gN bg ps c (us++rest)=(c',rest)∧
  ∀cs',c'=some cs'→∃cs,c=some cs∧(aF cs').length=(aF cs).length∧∀q,(kZ ps q=true→XZ H L m cs' vs q)∧(kZ ps q=false→(aF cs')[q]? =(aF cs)[q]?)
 |[],K,h=>⟨[],h,fun c rest=>⟨c,rfl,fun cs' hc=>⟨cs',hc,rfl,fun q=>⟨fun h=>(by cases h),fun _=>rfl⟩⟩⟩⟩
 |p::ps,K,h=>by
  simp only[ahR]at h;obtain⟨a,r,h1,h2,h⟩:=uU _ _ _ _ h;obtain⟨c1,r1,h3,h4,h⟩:=uU _ _ _ _ h;obtain⟨us,ws,h5,h6,h7⟩:=yQ [p.2] m c1 _ h;obtain⟨us',h8,h9⟩:=afU vs ps _ h5;refine⟨us++us',h8,fun c rest=>?_⟩;have hw:ws=[(cB bg p.2 (us++(us'++rest))).1]∧(cB bg p.2 (us++(us'++rest))).2=us'++rest:=by
   have:=h6 (us'++rest);simp only[dY,Prod.mk.injEq]at this
   grind
  simp only[gN,qAo,hw.2];rw[←hw.1]at *;obtain⟨c',g1,g2⟩:=h9 (c.bind fun cs=>nT cs p.1 ws some) rest;refine⟨c',g1,fun cs' hc'=>?_⟩;obtain⟨cs1,g3,g4,g5⟩:=g2 cs' hc';cases c with
  |none=>cases g3
  |some cs=>
   simp only[qAb]at g3;obtain⟨q1,q2⟩:=Bc g3;have hlen:(aF ws).length=pO p.2:=by
    have:=(h7 H _ (apl H H L)).len;rw[iN,←j5,iN,←j5,h4]at this;exact this
   refine⟨cs,rfl,?_,fun q=>⟨fun hq=>?_,fun hq=>?_⟩⟩
   ·rw[g4,q1];simp only[qAg,qAx,qCn];omega
   ·cases hps:kZ ps q with
    |true=>exact(g5 q).1 hps
    |false=>
     have hin:=(q9.1 hq).resolve_right (by rw[hps];simp);refine ahV (cs:=cs1) ?_ ((g5 q).2 hps);intro Hf R hW hq1;have e1:(aF cs1).getD q .unk=(aF ws).getD (q - p.1) .unk:=by
      rw[q1];simp only[List.getD];rw[qAo,qAi (by simp only[qAx];omega),qAe (by simp only[qAx];omega)];simp only[qAx];rw[show min p.1 (aF cs).length=p.1 by omega]
     have e2:(aF vs).getD q .unk=(aF c1).getD (q - p.1) .unk:=by
      rw[h1,h3];simp only[List.getD];rw[qAi (by omega),qAe (by omega),h2]
     rw[e1,e2,←EX,←EX];exact(h7 Hf R hW).get _ (by rw[iN,←j5];omega)
   ·have hps:kZ ps q=false:=by
     cases hps:kZ ps q with
     |false=>rfl
     |true=>rw[q9.2 (.inr hps)]at hq;cases hq
    have hout:¬(p.1≤q∧q<p.1+pO p.2):=fun hh=>by rw[q9.2 (.inl hh)]at hq;cases hq
    rw[(g5 q).2 hps,q1];by_cases hlt:q<p.1
    ·rw[qAo,qAe (by simp only[qAx];omega),qBm,if_pos hlt]
    ·rw[qAi (by simp only[qAg,qAx];omega),qCd];congr 1;simp only[qAg,qAx];omega
def FO(H:List TObj)(L:Nat→Option Nat)(m:Nat)(hd:HO)(o0 oJ o':TObj):Prop:=match hd with
 | .dead=>oJ=.dead
 | .box _=>∃ws vs,oJ=.box ws∧o'=.box vs∧∀Hf R,Wk H Hf L R→Rs (R m) (aT Hf ws) (aT H vs)
 | .bx is=>oJ=.dead∨∃cs0 cs vs,o0=.box cs0∧oJ=.box cs∧o'=.box vs∧(aF cs).length=(aF cs0).length∧∀q,(kZ is q=true→XZ H L m cs vs q)∧(kZ is q=false→(aF cs)[q]? =(aF cs0)[q]?)
 | .own _=>∃e xs,oJ=.own e xs∧o'=.own e xs
 | .mp _=>∃e xs,oJ=.mp e xs∧o'=.mp e xs
 | .arr _=>∃e xs,oJ=.arr e xs∧o'=.arr e xs
theorem afZ{o':TObj}{hd:HO}{K:List U→Option γ}(h:Zn m H L o' hd K=some b):∃us,K us=some b∧∀o0 rest,∃oJ,aZ bg o0 hd (us++rest)=(oJ,rest)∧FO H L m hd o0 oJ o':=by
 cases hd with
 |dead=>exact⟨[],h,fun o0 rest=>⟨_,rfl,rfl⟩⟩
 |box cs=>
  cases o' with
  |box vs=>
   obtain⟨us,ws,h1,h2,h3⟩:=yQ cs m vs K h;exact⟨us,h1,fun o0 rest=>⟨.box ws,by simp only[aZ,h2],ws,vs,rfl,rfl,h3⟩⟩
  |_=>cases h
 |bx is=>
  cases o' with
  |box vs=>
   obtain⟨us,h1,h2⟩:=afU vs is K h;refine⟨us,h1,fun o0 rest=>?_⟩;cases o0 with
   |box cs0=>
    obtain⟨c',g1,g2⟩:=h2 (some cs0) rest;cases c' with
    |none=>exact⟨.dead,by simp only[aZ,g1],.inl rfl⟩
    |some cs'=>
     obtain⟨cs,e,g3,g4⟩:=g2 cs' rfl;cases e;exact⟨.box cs',by simp only[aZ,g1],.inr ⟨cs0,cs',vs,rfl,rfl,rfl,g3,g4⟩⟩
   |_=>
    obtain⟨c',g1,_⟩:=h2 none rest;exact⟨.dead,by simp only[aZ,g1],.inl rfl⟩
  |_=>cases h
 |own e=>
  simp only[Zn]at h;cases o' with
  |own e' xs=>
   obtain⟨x,e1,h1⟩:=gZ h;cases e1;exact⟨[⟨.l e,x⟩],h1,fun o0 rest=>⟨_,rfl,e,x,rfl,rfl⟩⟩
  |_=>cases h
 |mp e=>
  simp only[Zn]at h;cases o' with
  |mp e' xs=>
   obtain⟨x,e1,h1⟩:=gZ h;cases e1;exact⟨[⟨.m e,x⟩],h1,fun o0 rest=>⟨_,rfl,e,x,rfl,rfl⟩⟩
  |_=>cases h
 |arr e=>
  simp only[Zn]at h;cases o' with
  |arr e' xs=>
   obtain⟨x,e1,h1⟩:=gZ h;cases e1;exact⟨[⟨.l e,x⟩],h1,fun o0 rest=>⟨_,rfl,e,x,rfl,rfl⟩⟩
  |_=>cases h
theorem XO{n:Nat}{k:Nat}:∀{es:List Ed} {ss os:List Nat},dz n ss os es=true→k∈ss→k∉gF es
 |[],_,_,_,_=>by simp[gF]
 | .r k' s::es,ss,os,h,hk=>by
  simp only[dz,qAa,qAY,sJ]at h;simp only[gF,qAh,not_or];exact⟨fun e=>h.1 (e▸hk),XO h.2 (qAk _ hk)⟩
 | .o l h'::es,ss,os,h,hk=>by
  simp only[dz,qAa]at h;exact XO (es:=es) h.2.2 hk
 | .w h'::es,ss,os,h,hk=>XO (es:=es) (by simpa only[dz]using h) hk
theorem zy{n:Nat}{l:Nat}{hd:HO}:∀{es:List Ed} {ss os:List Nat},dz n ss os es=true→l∈os→Ed.o l hd∉es
 |[],_,_,_,_=>by simp
 | .r k' s::es,ss,os,h,hk=>by
  simp only[dz,qAa]at h;simp;exact zy h.2 hk
 | .o l' h'::es,ss,os,h,hk=>by
  simp only[dz,qAa,qAY,sJ]at h;simp only[qAh,Ed.o.injEq,not_or];exact⟨fun e=>h.2.1 (e.1▸hk),zy h.2.2 (qAk _ hk)⟩
 | .w h'::es,ss,os,h,hk=>by
  simp;exact zy (es:=es) (by simpa only[dz]using h) hk
theorem j4{n:Nat}{l:Nat}{hd:HO}:∀{es:List Ed} {ss os:List Nat},dz n ss os es=true→Ed.o l hd∈es→l<n
 |[],_,_,_,h=>by cases h
 | .r k' s::es,ss,os,h,hk=>by
  simp only[dz,qAa]at h;simp at hk;exact j4 h.2 hk
 | .o l' h'::es,ss,os,h,hk=>by
  simp only[dz,qAa]at h;rcases qAh.1 hk with e|hk
  ·simp_all
  ·exact j4 h.2.2 hk
 | .w h'::es,ss,os,h,hk=>by
  simp at hk;exact j4 (es:=es) (by simpa only[dz]using h) hk
theorem iC{α:Type}{d:α}{a c:List α}{n:Nat}(h:n<a.length):nth d (a++c) n=nth d a n:=by
 rw[eH,eH];simp only[List.getD,qAe h]
theorem Np{α:Type}{d:α}{a:List α}{v:α}{n:Nat}(h:a.length=n):nth d (a++[v]) n=v:=by
 rw[eH];subst h;simp[List.getD]
structure LaidD(H:List TObj)(L:Nat→Option Nat)(m mo:Nat)(t':List TV)(j:Nat)(eds:List Ed)(T:List TV)(h:List TObj)(T1:List TV)(h1:List TObj):Prop where
 tl:T1.length=T.length
 hl:h1.length=j+aC eds
 keep:∀k,k∉gF eds→nth .unk T1 k=nth .unk T k
 slot:∀k s,Ed.r k s∈eds→k<T.length→∀Hf R,Wk H Hf L R→R m (av Hf (nth .unk T1 k)) (av H (nth .unk t' k))
 keepO:∀l,l<j→(∀hd,Ed.o l hd∉eds)→nth .dead h1 l=nth .dead h l
 obj:∀l hd,Ed.o l hd∈eds→FO H L mo hd (nth .dead h l) (nth .dead h1 l) (nth .dead H l)
 new:∀i,i<aC eds→(∃l hd,L (j+i)=some l∧(Ed.w hd∈eds∧nth .dead (kinds eds) i=hd)∧FO H L mo hd .dead (nth .dead h1 (j+i)) (nth .dead H l))∨(L (j+i)=none∧2≤m∧∃e,nth .dead h1 (j+i)=.own e []∨nth .dead h1 (j+i)=.arr e [])
theorem AP{t':List TV}{n:Nat}:∀(eds:List Ed) (j:Nat) (K:List U→Option γ) (ss os:List Nat),dz n ss os eds=true→n≤j→uG m mo t' H L j eds K=some b→
  ∃us,K us=some b∧∀T h rest,h.length=j→∃T1 h1,bV bg eds (us++rest) T h=(T1,h1)∧LaidD H L m mo t' j eds T h T1 h1
 |[],j,K,ss,os,hw,hn,h=>⟨[],h,fun T hh rest hl=>⟨T,hh,rfl,rfl,hl,fun _ _=>rfl,fun k s hm=>(by cases hm),fun _ _ _=>rfl,fun l hd hm=>(by cases hm),fun i hi=>by simp[aC]at hi⟩⟩
 | .r k s::es,j,K,ss,os,hw,hn,h=>by
  simp only[dz,qAa,qAY,sJ]at hw;simp only[uG]at h;obtain⟨us,w,h1,h2,_,_,h3⟩:=adR s m _ _ h;obtain⟨us',h4,h5⟩:=AP es j _ _ _ hw.2 hn h1;refine⟨us++us',h4,fun T hh rest hl=>?_⟩;obtain⟨T1,h1',g1,g⟩:=h5 (T.set k w) hh rest hl;have hk:k∉gF es:=XO hw.2 (by simp);refine⟨T1,h1',by simp only[bV,qAo,h2];exact g1,by rw[g.tl,qAK],g.hl,fun k' hk'=>?_,fun k' s' hm hlt=>?_,fun l hlt hno=>?_,fun l hd hm=>?_,fun i hi=>?_⟩
  ·simp only[gF,qAh,not_or]at hk';rw[g.keep k' hk'.2,aN (qBl hk'.1)]
  ·rcases qAh.1 hm with e|hm
   ·cases e;rw[g.keep k hk,bB hlt];exact h3
   ·exact g.slot k' s' hm (by rw[qAK];exact hlt)
  ·exact g.keepO l hlt fun hd hm=>hno hd (qAk _ hm)
  ·exact g.obj l hd (by simpa using hm)
  ·rcases g.new i hi with⟨l,hd,e1,e2,e3⟩|e
   ·exact .inl ⟨l,hd,e1,⟨qAk _ e2.1,e2.2⟩,e3⟩
   ·exact .inr e
 | .o l hd::es,j,K,ss,os,hw,hn,h=>by
  simp only[dz,qAa,qAY,sJ]at hw;simp only[uG]at h;obtain⟨us,h1,h2⟩:=afZ h;obtain⟨us',h4,h5⟩:=AP es j _ _ _ hw.2.2 hn h1;refine⟨us++us',h4,fun T hh rest hl=>?_⟩;obtain⟨oJ,q1,q2⟩:=h2 (nth .dead hh l) (us'++rest);obtain⟨T1,h1',g1,g⟩:=h5 T (hh.set l oJ) rest (by rw[qAK];exact hl);have hln:l<n:=qAf hw.1;have hno:∀hd',Ed.o l hd'∉es:=fun hd'=>zy hw.2.2 (by simp);refine⟨T1,h1',by simp only[bV,qAo,q1];exact g1,g.tl,g.hl,fun k' hk'=>g.keep k' hk',fun k' s' hm hlt=>g.slot k' s' (by simpa using hm) hlt,fun l' hlt hn'=>?_,fun l' hd' hm=>?_,fun i hi=>?_⟩
  ·have hne:l≠l':=fun e=>hn' hd (by subst e;simp);rw[g.keepO l' hlt fun hd' hm=>hn' hd' (qAk _ hm),aN hne]
  ·rcases qAh.1 hm with e|hm
   ·cases e;rw[g.keepO l (by omega) hno,bB (by omega)];exact q2
   ·have hne:l≠l':=fun e=>by subst e;exact hno hd' hm
    have:=g.obj l' hd' hm;rw[aN hne]at this;exact this
  ·rcases g.new i hi with⟨l,hd,e1,e2,e3⟩|e
   ·exact .inl ⟨l,hd,e1,⟨qAk _ e2.1,e2.2⟩,e3⟩
   ·exact .inr e
 | .w hd::es,j,K,ss,os,hw,hn,h=>by
  simp only[dz]at hw;have nxt:∀(us:List U) (K':List U→Option γ),(∀us',K' us'=K (us++us'))→uG m mo t' H L (j+1) es K'=some b→(∀rest,∃oJ,aZ bg .dead hd (us++rest)=(oJ,rest)∧((∃l,L j=some l∧FO H L mo hd .dead oJ (nth .dead H l))∨(L j=none∧2≤m∧∃e,oJ=.own e []∨oJ=.arr e [])))→
    ∃us,K us=some b∧∀T h rest,h.length=j→∃T1 h1,bV bg (.w hd::es) (us++rest) T h=(T1,h1)∧LaidD H L m mo t' j (.w hd::es) T h T1 h1:=fun us K' hK h hq=>by
   obtain⟨us',h4,h5⟩:=AP es (j+1) _ _ _ hw (by omega) h;refine⟨us++us',by rw[←hK];exact h4,fun T hh rest hl=>?_⟩;obtain⟨oJ,q1,q2⟩:=hq (us'++rest);obtain⟨T1,h1',g1,g⟩:=h5 T (hh++[oJ]) rest (by simp[hl]);refine⟨T1,h1',by simp only[bV,qAo,q1];exact g1,g.tl,by rw[g.hl];simp only[aC];omega,fun k' hk'=>g.keep k' hk',fun k' s' hm hlt=>g.slot k' s' (by simpa using hm) hlt,fun l' hlt hn'=>?_,fun l' hd' hm=>?_,fun i hi=>?_⟩
   ·rw[g.keepO l' (by omega) fun hd' hm=>hn' hd' (qAk _ hm),iC (by omega)]
   ·have hm:Ed.o l' hd'∈es:=by simpa using hm
    have hlt:=j4 hw hm;have:=g.obj l' hd' hm;rw[iC (by omega)]at this;exact this
   ·cases i with
    |zero=>
     have e:nth .dead h1' (j+0)=oJ:=by
      rw[qAJ,g.keepO j (by omega) fun hd' hm=>(by have:=j4 hw hm;omega),Np hl]
     rw[e,qAJ];rcases q2 with⟨l,e1,e2⟩|e1
     ·exact .inl ⟨l,hd,e1,⟨by simp,rfl⟩,e2⟩
     ·exact .inr e1
    |succ i=>
     have:=g.new i (by simp only[aC]at hi;omega);rw[show j+1+i=j+(i+1)from by omega]at this;rcases this with⟨l,hd,e1,e2,e3⟩|e
     ·exact .inl ⟨l,hd,e1,⟨qAk _ e2.1,e2.2⟩,e3⟩
     ·exact .inr e
  simp only[uG]at h;split at h
  ·rename_i l hL;obtain⟨us,h1,h2⟩:=afZ h;exact nxt us _ (fun _=>rfl) h1 fun rest=>(by
    obtain⟨oJ,q1,q2⟩:=h2 .dead rest;exact⟨oJ,q1,.inl ⟨l,hL,q2⟩⟩)
  ·rename_i hL;split at h
   ·rename_i e;rcases aX h with⟨hc,g⟩|⟨_,g⟩
    ·exact nxt [⟨.l e,[]⟩] _ (fun _=>rfl) g fun rest=>⟨.own e [],rfl,.inr ⟨hL,qAf hc,e,.inl rfl⟩⟩
    ·cases g
   ·rename_i e;rcases aX h with⟨hc,g⟩|⟨_,g⟩
    ·exact nxt [⟨.l e,[]⟩] _ (fun _=>rfl) g fun rest=>⟨.arr e [],rfl,.inr ⟨hL,qAf hc,e,.inr rfl⟩⟩
    ·cases g
   ·cases h
end
end
section
open Go
def AO(o o':TObj)(cv:Nat→Bool):Prop:=o'=o∨∃cs cs',o=.box cs∧o'=.box cs'∧(aF cs').length=(aF cs).length∧∀q,cv q=false→(aF cs')[q]? =(aF cs)[q]?
theorem Ze{n len:Nat}{L:Nat→Option Nat}{eds:List Ed}:∀(c j:Nat) (seen:List Nat),adH n len L eds j c seen=true→∀i,i<c→∀l,L (j+i)=some l→l<len∧l∉seen∧(n≤l∨Sy l eds=true)∧∀i',i'<c→L (j+i')=some l→i'=i
 |0,j,seen,_,i,hi=>by omega
 |c+1,j,seen,h,i,hi=>by
  intro l hl;simp only[adH]at h;split at h
  ·rename_i hj;have ih:=Ze c (j+1) seen h;cases i with
   |zero=>rw[qAJ,hj]at hl;cases hl
   |succ i=>
    obtain⟨h1,h2,h3,h4⟩:=ih i (by omega) l (by rw[show j+1+i=j+(i+1) by omega];exact hl);refine⟨h1,h2,h3,fun i' hi' hl'=>?_⟩;cases i' with
    |zero=>rw[qAJ,hj]at hl';cases hl'
    |succ i'=>exact congrArg _ (h4 i' (by omega) (by rw[show j+1+i'=j+(i'+1) by omega];exact hl'))
  ·rename_i l0 hj;simp only[qAa,qBb,qAY,sJ]at h;obtain⟨h1,h2,h3,h4⟩:=h;have h1:l0<len:=qAf h1;have ih:=Ze c (j+1) (l0::seen) h4;cases i with
   |zero=>
    rw[qAJ,hj]at hl;cases hl;refine⟨h1,h2,h3.imp qAf id,fun i' hi' hl'=>?_⟩;cases i' with
    |zero=>rfl
    |succ i'=>
     grind
   |succ i=>
    obtain⟨g1,g2,g3,g4⟩:=ih i (by omega) l (by rw[show j+1+i=j+(i+1) by omega];exact hl);simp at g2;refine⟨g1,g2.2,g3,fun i' hi' hl'=>?_⟩;cases i' with
    |zero=>rw[qAJ,hj]at hl';cases hl';exact(g2.1 rfl).elim
    |succ i'=>exact congrArg _ (g4 i' (by omega) (by rw[show j+1+i'=j+(i'+1) by omega];exact hl'))
theorem I9{l:Nat}:∀{eds:List Ed},Sy l eds=true→Ed.o l .dead∈eds
 |[],h=>by cases h
 | .r _ _::es,h=>qAk _ (I9 (eds:=es) h)
 | .w _::es,h=>qAk _ (I9 (eds:=es) h)
 | .o l' hd::es,h=>by
  simp only[Sy,qBb,qAa]at h;rcases h with⟨h1,h2⟩|h
  ·have:=qAc h1
   grind
  ·exact qAk _ (I9 h)
theorem Ga{k:Nat}:∀{eds:List Ed},k∈gF eds→∃s,Ed.r k s∈eds
 |[],h=>by cases h
 | .r k' s::es,h=>by
  simp only[gF,qAh]at h;rcases h with rfl|h
  ·grind
  ·obtain⟨s,hs⟩:=Ga h;exact⟨s,qAk _ hs⟩
 | .w _::es,h=>(by obtain⟨s,hs⟩:=Ga (eds:=es) h;exact⟨s,qAk _ hs⟩)
 | .o _ _::es,h=>(by obtain⟨s,hs⟩:=Ga (eds:=es) h;exact⟨s,qAk _ hs⟩)
theorem vY(H:List TObj)(t:List TV)(k:Nat):(aQ H t).getD k .unk=av H (nth .unk t k):=bA H t (.tmp k)
theorem vR(H:List TObj)(t:List TV):(aQ H t).length=t.length:=by rw[mY,qAj]
theorem iH{α:Type}{d:α}{l:List α}{n:Nat}(h:l.length≤n):nth d l n=d:=by rw[eH,List.getD,qAn h];rfl
section
variable {h' hJ:List TObj}{Lw:List (Option Nat)}{L:Nat→Option Nat}{n:Nat}
theorem UW{j l:Nat}(o:TObj)(hn:fT Lw (aD h').length j=l):VW (aD h') Lw (dH j o) (dH l o)∧∀z,VW (aD h') Lw (bZ j z o) (bZ l z o):=by
 have sl:∀(e:ET) (xs:List e.D),VW (aD h') Lw (.slice (xs.map e.enc) (.tip j e.sz)) (.slice (xs.map e.enc) (.tip l e.sz)):=fun e xs=>.same (by simp only[ren,nP,jy,hn]);have ps:∀z k,VW (aD h') Lw (.psl j z k) (.psl l z k):=fun z k=>.same (by simp only[ren,hn]);cases o with
 |own e xs=>exact⟨sl e xs,fun z=>.unk _⟩
 |gone e xs=>exact⟨sl e xs,fun z=>.unk _⟩
 |arr e xs=>exact⟨.unk _,fun z=>ps z _⟩
 |gon k=>exact⟨.unk _,fun z=>ps z _⟩
 |_=>exact⟨.unk _,fun z=>.unk _⟩
theorem ajh{m:Nat}{hd:HO}{o0 oJ o':TObj}{j l:Nat}(h:FO h' L m hd o0 oJ o')(hn:fT Lw (aD h').length j=l):VW (aD h') Lw (dH j oJ) (dH l o')∧∀z,VW (aD h') Lw (bZ j z oJ) (bZ l z o'):=by
 cases hd with
 |dead=>have e:oJ=.dead:=h;subst e;exact⟨.unk _,fun z=>.unk _⟩
 |box cs=>obtain⟨ws,vs,rfl,rfl,_⟩:=h;exact⟨.unk _,fun z=>.unk _⟩
 |bx is=>
  rcases h with rfl|⟨_,_,_,_,rfl,_⟩
  ·exact⟨.unk _,fun z=>.unk _⟩
  ·exact⟨.unk _,fun z=>.unk _⟩
 |own e=>obtain⟨e,xs,rfl,rfl⟩:=h;exact UW _ hn
 |mp e=>obtain⟨e,xs,rfl,rfl⟩:=h;exact⟨.unk _,fun z=>.unk _⟩
 |arr e=>obtain⟨e,xs,rfl,rfl⟩:=h;exact UW _ hn
theorem fZ{cs cs':List AV}(h:Rs (VW (aD h') Lw) cs cs'):cs.length=cs'.length∧∀j,VW (aD h') Lw (cs.getD j .unk) (cs'.getD j .unk):=by
 refine⟨h.len,fun j=>?_⟩;by_cases hj:j<cs.length
 ·exact h.get j hj
 ·rw[List.getD,qAn (qAP hj)];exact .unk _
theorem arT(hL:∀j l,L j=some l→fT Lw (aD h').length j=l)
  (look:∀j l,L j=some l→VW (aD h') Lw (dH j (nth .dead hJ j)) (dH l (nth .dead h' l))∧∀z,VW (aD h') Lw (bZ j z (nth .dead hJ j)) (bZ l z (nth .dead h' l)))
  (non:∀j,L j=none→VW (aD h') Lw (dH j (nth .dead hJ j)) (.slice [] .nils)∧∀z,VW (aD h') Lw (bZ j z (nth .dead hJ j)) (.slice [] .nils)):
  Wk h' hJ L (fun _=>VW (aD h') Lw):=
 ⟨.unk _,fun _ _=>.unk _,fun m a a' hf hc=>(by
  generalize Nat.ble 1 m=q at hc;cases hc with
  |same=>exact .same (hf _)
  |share es t=>
   have:=hf (fT Lw (aD h').length);simp only[ren,AV.slice.injEq]at this;exact .share this.1
  |nilF=>exact .nilF),fun m j l o h=>.same (by simp only[ren,hL j l h]),fun m j l h=>.same (by simp only[ren,hL j l h]),fun m j l h=>(look j l h).1,fun m j h=>(non j h).1,
  fun m j l z h=>(look j l h).2 z,fun m j z h=>(non j h).2 z,fun m cs cs' h=>.eptr (fZ h).1 (fZ h).2,fun m cs cs' h=>.agg (fZ h).1 (fZ h).2,fun m cs cs' h=>.tup (fZ h).1 (fZ h).2,fun m cs cs' h=>.tup (fZ h).1 (fZ h).2,fun m f cs cs' h=>.func (fZ h).1 (fZ h).2,fun m f cs cs' h=>.func (fZ h).1 (fZ h).2⟩
mutual
theorem WR(hW:Wk h' hJ L (fun _=>VW (aD h') Lw))(hL:∀j l,L j=some l→fT Lw (aD h').length j=l)(hn:∀j,j<n→L j=some j):∀v,Ry n v=true→VW (aD h') Lw (av hJ v) (av h' v)
 | .unk,_=>.unk _
 | .nilp,_=>.same rfl
 | .nilF,_=>.same rfl
 | .nils,_=>.same rfl
 | .lf t x,_=>.same (Bu _ t x)
 | .nat _,_=>.same rfl
 | .ptr l o,h=>hW.ptr 0 _ _ _ (hn l (qAf h))
 | .mapr l,h=>hW.mapr 0 _ _ (hn l (qAf h))
 | .ap l i z o,h=>hW.ptr 0 _ _ (i.toNat*z+o) (hn l (qAf h))
 | .own l,h=>hW.own 0 _ _ (hn l (qAf h))
 | .psl l z c,h=>by
  cases c with
  |none=>exact hW.psl 0 _ _ _ (hn l (qAf h))
  |some k=>exact .same (by simp only[av,ren,hL l l (hn l (qAf h))])
 | .eptr cs,h=>by simp only[av];exact hW.eptr 0 _ _ (P9 hW hL hn cs h)
 | .agg cs,h=>by simp only[av];exact hW.agg 0 _ _ (P9 hW hL hn cs h)
 | .tup cs,h=>by simp only[av];exact hW.tup0 0 _ _ (acP hW hL hn cs h)
 | .func f cs,h=>by simp only[av];exact hW.func0 0 f _ _ (acP hW hL hn cs h)
theorem P9(hW:Wk h' hJ L (fun _=>VW (aD h') Lw))(hL:∀j l,L j=some l→fT Lw (aD h').length j=l)(hn:∀j,j<n→L j=some j):∀vs,eY n vs=true→Rs (VW (aD h') Lw) (aT hJ vs) (aT h' vs)
 |[],_=>.nil
 |v::vs,h=>by
  simp only[eY,qAa]at h;have h1:=WR hW hL hn v h.1;have h2:=P9 hW hL hn vs h.2;simp only[aT];refine Rs.app ?_ h2;rcases l8 v with ho|⟨e,x,rfl⟩
  ·rw[ho,ho];exact .cons h1 .nil
  ·simp only[rW];have:=(Sv e x);generalize e.enc x=l at this;clear h1
   induction l with
   |nil=>exact .nil
   |cons a l ih=>exact .cons (.same (this a (by simp) _)) (ih fun b hb=>this b (by simp[hb]))
theorem acP(hW:Wk h' hJ L (fun _=>VW (aD h') Lw))(hL:∀j l,L j=some l→fT Lw (aD h').length j=l)(hn:∀j,j<n→L j=some j):∀vs,eY n vs=true→Rs (VW (aD h') Lw) (aQ hJ vs) (aQ h' vs)
 |[],_=>.nil
 |v::vs,h=>by
  simp only[eY,qAa]at h;simp only[aQ];exact .cons (WR hW hL hn v h.1) (acP hW hL hn vs h.2)
end
theorem Wj{n:Nat}:∀{vs:List TV},eY n vs=true→∀v∈vs,Ry n v=true
 |[],_,v,h=>by cases h
 |x::vs,h,v,hv=>by
  simp only[eY,qAa]at h;rcases qAh.1 hv with rfl|hv
  ·exact h.1
  ·exact Wj h.2 v hv
theorem akB{n:Nat}:∀(e:ET) (x:e.D),∀v∈Cq e x,Ry n v=true:=by
 intro e x v hv;cases e<;>simp only[Cq,qAh]at hv<;>(repeat' (rcases hv with rfl|hv))<;>first|rfl|(subst hv;rfl)
theorem Gf{n:Nat}:∀{vs:List TV},eY n vs=true→∀v∈aF vs,Ry n v=true
 |[],_,v,h=>by cases h
 |x::vs,h,v,hv=>by
  simp only[eY,qAa]at h;simp only[aF,qAA]at hv;rcases hv with hv|hv
  ·rcases l8 x with ho|⟨e,y,rfl⟩
   ·rw[ou ho,qBd]at hv;subst hv;exact h.1
   ·exact akB e y v hv
  ·exact Gf h.2 v hv
theorem qo{n:Nat}:∀{h:List TObj} {l:Nat},zU n h=true→nth .dead h l≠ .res∧∀cs,nth .dead h l=.box cs→eY n cs=true
 |[],l,_=>⟨fun h=>(by cases h),fun cs h=>(by cases h)⟩
 |o::os,l,h=>by
  simp only[zU,qAa]at h;cases l with
  |zero=>
   have e:nth .dead (o::os) 0=o:=rfl
   grind
  |succ l=>exact qo (h:=os) h.2
theorem Nz{cs vs:List TV}(hl:(aF cs).length=(aF vs).length)(h:∀q,q<(aF cs).length→VW (aD h') Lw (av hJ ((aF cs).getD q .unk)) (av h' ((aF vs).getD q .unk))):OW (aD h') Lw (.box (aT hJ cs)) (.box (aT h' vs)):=by
 refine .box (by rw[iN,iN,←j5,←j5,hl]) fun j=>?_;rw[EX,EX];by_cases hj:j<(aF cs).length
 ·grind
 ·rw[List.getD,qAn (qAP hj)];exact .unk _
theorem F4(g:Nat→Nat)(e:ET)(xs:List (Str×e.D)):(xs.map fun p=>(p.1,e.one p.2)).map (fun p=>(p.1,ren g p.2))=xs.map fun p=>(p.1,e.one p.2):=by
 rw[qBt];refine qBi fun p _=>?_;simp;rw[←adq [] e p.2];cases e<;>simp only[ET.seg,av]<;>exact Bu _ _ _
theorem aqk(hW:Wk h' hJ L (fun _=>VW (aD h') Lw))(hL:∀j l,L j=some l→fT Lw (aD h').length j=l)(hn:∀j,j<n→L j=some j)(o:TObj)(hr:o≠ .res)(hb:∀cs,o=.box cs→eY n cs=true):OW (aD h') Lw (dM hJ o) (dM h' o):=by
 cases o with
 |box cs=>exact .box (fZ (P9 hW hL hn cs (hb cs rfl))).1 (fZ (P9 hW hL hn cs (hb cs rfl))).2
 |own e xs=>exact .tip _
 |gone e xs=>exact .dead _
 |mp e xs=>exact .same rfl (by simp only[dM,bO,F4])
 |arr e xs=>exact .same rfl (by simp only[dM,bO,jy])
 |gon k=>exact .dead _
 |dead=>exact .dead _
 |res=>exact(hr rfl).elim
theorem ami{m:Nat}(hW:Wk h' hJ L (fun _=>VW (aD h') Lw))(hL:∀j l,L j=some l→fT Lw (aD h').length j=l)(hn:∀j,j<n→L j=some j){hd:HO}{o0 oJ o':TObj}(h:FO h' L m hd o0 oJ o')
  (hb:∀is cs,hd=.bx is→o0=.box cs→eY n cs=true∧AO o0 o' (kZ is)):OW (aD h') Lw (dM hJ oJ) (dM h' o'):=by
 cases hd with
 |dead=>have e:oJ=.dead:=h;subst e;exact .dead _
 |box cs=>obtain⟨ws,vs,rfl,rfl,h1⟩:=h;exact .box (fZ (h1 hJ _ hW)).1 (fZ (h1 hJ _ hW)).2
 |bx is=>
  rcases h with rfl|⟨cs0,cs,vs,rfl,rfl,rfl,h1,h2⟩
  ·exact .dead _
  ·obtain⟨g1,g2⟩:=hb is cs0 rfl rfl;have g3:(aF vs).length=(aF cs0).length∧∀q,kZ is q=false→(aF vs)[q]? =(aF cs0)[q]?:=by
    rcases g2 with e|⟨a,b,e1,e2,e3,e4⟩
    ·grind
    grind
   refine Nz (h1.trans g3.1.symm) fun q hq=>?_;cases hc:kZ is q with
   |true=>exact(h2 q).1 hc hJ _ hW hq
   |false=>
    have hm:(aF cs0).getD q .unk∈aF cs0:=by
     grind
    have:=WR hW hL hn _ (Gf g1 _ hm)
    grind
 |own e=>obtain⟨e,xs,rfl,rfl⟩:=h;exact .tip _
 |mp e=>obtain⟨e,xs,rfl,rfl⟩:=h;exact .same rfl (by simp only[dM,bO,F4])
 |arr e=>obtain⟨e,xs,rfl,rfl⟩:=h;exact .same rfl (by simp only[dM,bO,jy])
end
end
section
open Go
section
variable {γ:Type}{b:γ}
theorem afQ{α:Type}:∀(l:List α) (n:Nat) (K:Nat→Option γ),BK l n K=K (n+l.length)
 |[],_,_=>rfl
 |_::l,n,K=>by simp only[BK,afQ l,qAu];congr 1;omega
theorem MO{α:Type}(l:List α)(K:Nat→Option γ):BK l 0 K=K l.length:=by rw[afQ,qAv]
theorem ar2{n N:Nat}{m:List (Nat×Nat)}{j:Nat}(h:j<n):LJ n N m j=some j:=by
 unfold LJ;rw[show Nat.blt j n=true from qCH h];rfl
theorem amt{n N:Nat}{m:List (Nat×Nat)}{j:Nat}(h1:n≤N)(h:N≤j):LJ n N m j=none:=by
 have key:∀k,k≤j→Nat.blt j k=false:=fun k hk=>by
  cases hb:Nat.blt j k with
  |false=>rfl
  |true=>have:j<k:=qAf hb;omega
 unfold LJ;rw[key n (by omega),key N h];rfl
theorem PO{n m:Nat}{T0 t':List TV}{h0 h':List TObj}{eds:List Ed}{K:List U→Option γ}
  (hn:h0.length=n) (hm:m≤n) (wfT:eY n T0=true) (wfH:zU n h0=true) (edw:dz n [] [] eds=true) (tl:T0.length=t'.length) (hl:n≤h'.length)
  (slots:∀k,k∉gF eds→nth .unk T0 k=.unk∨nth .unk T0 k=nth .unk t' k)
  (objs:∀l,l<n→((∀hd,Ed.o l hd∉eds)→AO (nth .dead h0 l) (nth .dead h' l) fun _=>false)∧∀is,Ed.o l (.bx is)∈eds→AO (nth .dead h0 l) (nth .dead h' l) (kZ is))
  (hK:aeo n eds t' h' K=some b):
  ∃us,K us=some b∧∀T hJ,bV bg eds us T0 h0=(T,hJ)→T.length=T0.length∧n≤hJ.length∧Le m (aQ h' t') (aD h') (aQ hJ T) (aD hJ):=by
 unfold aeo at hK;rw[MO]at hK;simp only at hK;obtain⟨hinj,hE⟩:=(aX hK).resolve_right fun h=>by cases h.2
 clear hK;generalize hLd:LJ n (n+aC eds) (Fj t' h' n eds [])=L at hinj hE;have Llt:∀j,j<n→L j=some j:=fun j hj=>by rw[←hLd];exact ar2 hj
 have Lge:∀j,n+aC eds≤j→L j=none:=fun j hj=>by rw[←hLd];exact amt (Nat.le_add_right _ _) hj
 have inj:=Ze (aC eds) n [] hinj;obtain⟨us,hus,hB⟩:=AP eds n K [] [] edw (qAr _) hE;refine⟨us,hus,fun T hJ hbl=>?_⟩;obtain⟨T1,h1,q1,la⟩:=hB T0 h0 [] hn;rw[qAs,hbl]at q1;cases q1;refine⟨la.tl,by rw[la.hl];omega,?_⟩
 let N:=n+aC eds
 let Lw:List (Option Nat):=(List.range N).map L
 have Lw_get:∀i,i<N→Lw[i]? =some (L i):=fun i hi=>by simp[Lw,hi]
 have Lw_none:∀i,N≤i→Lw[i]? =none:=fun i hi=>by simp[Lw];omega
 have hLn:∀j l,L j=some l→fT Lw (aD h').length j=l:=fun j l h=>by
  have hj:j<N:=by
   apply qAl;intro hj;rw[Lge j (by omega)]at h;cases h
  unfold fT;rw[Lw_get j hj,h];rfl
 have newAt:∀j,n≤j→j<N→(∃l hd,L j=some l∧Ed.w hd∈eds∧FO h' L 2 hd .dead (nth .dead hJ j) (nth .dead h' l))∨(L j=none∧2≤2∧∃e,nth .dead hJ j=.own e []∨nth .dead hJ j=.arr e []):=fun j h1 h2=>by
  have:=la.new (j - n) (by omega);rw[show n+(j - n)=j from by omega]at this;exact this.imp (fun⟨l,hd,e1,e2,e3⟩=>⟨l,hd,e1,e2.1,e3⟩) id
 have look:∀j l,L j=some l→VW (aD h') Lw (dH j (nth .dead hJ j)) (dH l (nth .dead h' l))∧∀z,VW (aD h') Lw (bZ j z (nth .dead hJ j)) (bZ l z (nth .dead h' l)):=fun j l hj=>by
  by_cases hlt:j<n
  ·have e:=Llt j hlt;rw[hj]at e;cases e;by_cases hed:∃hd,Ed.o j hd∈eds
   ·obtain⟨hd,hed⟩:=hed;exact ajh (la.obj j hd hed) (hLn j j hj)
   ·have hno:∀hd,Ed.o j hd∉eds:=fun hd h=>hed ⟨hd,h⟩;rw[la.keepO j hlt hno];rcases(objs j hlt).1 hno with e|⟨cs,cs',e1,e2,_⟩
    ·rw[e];exact UW _ (hLn j j hj)
    ·rw[e1,e2];exact⟨.unk _,fun z=>.unk _⟩
  ·have hN:j<N:=by
    apply qAl;intro hN;rw[Lge j (by omega)]at hj;cases hj
   rcases newAt j (by omega) hN with⟨l',hd,e1,_,e3⟩|⟨e1,_⟩
   ·rw[hj]at e1;cases e1;exact ajh e3 (hLn j l hj)
   ·rw[hj]at e1;cases e1
 have non:∀j,L j=none→VW (aD h') Lw (dH j (nth .dead hJ j)) (.slice [] .nils)∧∀z,VW (aD h') Lw (bZ j z (nth .dead hJ j)) (.slice [] .nils):=fun j hj=>by
  by_cases hN:j<N
  ·have hge:n≤j:=by
    apply qAl;intro hlt;rw[Llt j (by omega)]at hj;cases hj
   rcases newAt j hge hN with⟨l',hd,e1,_⟩|⟨_,_,e,e1|e1⟩
   ·rw[hj]at e1;cases e1
   ·rw[e1];exact⟨.nils _ _,fun z=>.unk _⟩
   ·rw[e1];exact⟨.unk _,fun z=>.nilP _ _⟩
  ·rw[iH (by rw[la.hl];omega)];exact⟨.unk _,fun z=>.unk _⟩
 have hW:=arT hLn look non;have hslot:∀k,VW (aD h') Lw (av hJ (nth .unk T k)) (av h' (nth .unk t' k)):=fun k=>by
  by_cases hk:k∈gF eds
  ·obtain⟨s,hs⟩:=Ga hk;by_cases hlt:k<T0.length
   ·exact la.slot k s hs hlt hJ _ hW
   ·rw[iH (by rw[la.tl];omega)];exact .unk _
  ·rw[la.keep k hk];rcases slots k hk with e|e
   ·rw[e];exact .unk _
   ·rw[←e];refine WR hW hLn Llt _ ?_;by_cases hlt:k<T0.length
    ·refine Wj wfT _ ?_;rw[eH,List.getD,qAd hlt];exact qAX hlt
    ·rw[iH (by omega)];rfl
 have hobj:∀i l,L i=some l→OW (aD h') Lw (dM hJ (nth .dead hJ i)) (dM h' (nth .dead h' l)):=fun i l hi=>by
  by_cases hlt:i<n
  ·have e:=Llt i hlt;rw[hi]at e;cases e;by_cases hed:∃hd,Ed.o i hd∈eds
   ·obtain⟨hd,hed⟩:=hed;exact ami hW hLn Llt (la.obj i hd hed) fun is cs e e2=>⟨(qo wfH).2 cs e2,by subst e;exact(objs i hlt).2 is hed⟩
   ·have hno:∀hd,Ed.o i hd∉eds:=fun hd h=>hed ⟨hd,h⟩;rw[la.keepO i hlt hno];rcases(objs i hlt).1 hno with e|⟨cs,cs',e1,e2,e3,e4⟩
    ·rw[e];exact aqk hW hLn Llt _ (qo wfH).1 (qo wfH).2
    ·have hb:=(qo wfH).2 cs e1;rw[e1,e2];refine Nz e3.symm fun q hq=>?_;have hm:(aF cs).getD q .unk∈aF cs:=by rw[List.getD,qAd hq];exact qAX hq
     have:=WR hW hLn Llt _ (Gf hb _ hm);simp only[List.getD]at this⊢;rw[e4 q rfl];exact this
  ·have hN:i<N:=by
    apply qAl;intro hN;rw[Lge i (by omega)]at hi;cases hi
   rcases newAt i (by omega) hN with⟨l',hd,e1,_,e3⟩|⟨e1,_⟩
   ·rw[hi]at e1;cases e1;exact ami hW hLn Llt e3 fun is cs e e2=>by cases e2
   ·rw[hi]at e1;cases e1
 refine Le.of Lw ⟨by rw[vR,vR,la.tl,tl],by simp[Lw,aD,la.hl,N],fun i hi=>by rw[Lw_get i (by omega),Llt i (by omega)],?_,?_,fun k=>by rw[vY,vY];exact hslot k,?_,?_⟩
 ·intro i j l hi hj li lj;have hiN:i<N:=by
   apply qAl;intro hN;rw[Lw_none i (by omega)]at hi;cases hi
  have hjN:j<N:=by
   apply qAl;intro hN;rw[Lw_none j (by omega)]at hj;cases hj
  rw[Lw_get i hiN]at hi;rw[Lw_get j hjN]at hj;have hi:=Option.some.inj hi;have hj:=Option.some.inj hj;have mix:∀i j,i<n→n≤j→j<N→L i=some l→L j=some l→live (obj? (aD hJ) i)→False:=fun i j h1 h2 h3 hi hj li=>by
   have ei:i=l:=Option.some.inj ((Llt i h1).symm.trans hi);obtain⟨_,_,g3,_⟩:=inj (j - n) (by omega) l (by rw[show n+(j - n)=j from by omega];exact hj);rcases g3 with g3|g3
   ·omega
   ·have e:nth .dead hJ l=.dead:=la.obj l .dead (I9 g3);rw[←ei]at e;rw[gK,e]at li;exact li
  by_cases h1:i<n
  ·by_cases h2:j<n
   ·rw[Llt i h1]at hi;rw[Llt j h2]at hj;cases hi;cases hj;rfl
   ·exact(mix i j h1 (by omega) hjN hi hj li).elim
  ·by_cases h2:j<n
   ·exact(mix j i h2 (by omega) hiN hj hi lj).elim
   ·obtain⟨_,_,_,g4⟩:=inj (j - n) (by omega) l (by rw[show n+(j - n)=j from by omega];exact hj);have:=g4 (i - n) (by omega) (by rw[show n+(i - n)=i from by omega];exact hi);omega
 ·intro i l hi;have hiN:i<N:=by
   apply qAl;intro hN;rw[Lw_none i (by omega)]at hi;cases hi
  rw[Lw_get i hiN]at hi;have hi:=Option.some.inj hi;have hll:(aD h').length=h'.length:=by simp[aD]
  rw[hll];by_cases h1:i<n
  ·rw[Llt i h1]at hi;cases hi;omega
  ·exact(inj (i - n) (by omega) l (by rw[show n+(i - n)=i from by omega];exact hi)).1
 ·intro i l hi;have hiN:i<N:=by
   apply qAl;intro hN;rw[Lw_none i (by omega)]at hi;cases hi
  rw[Lw_get i hiN]at hi;have hi:=Option.some.inj hi;rw[gK,gK];exact hobj i l hi
 ·intro i hi;have hiN:i<N:=by
   apply qAl;intro hN;rw[Lw_none i (by omega)]at hi;cases hi
  rw[Lw_get i hiN]at hi;have hi:=Option.some.inj hi;have hge:n≤i:=by
   apply qAl;intro hlt;rw[Llt i (by omega)]at hi;cases hi
  rw[gK];rcases newAt i hge hiN with⟨l',hd,e1,_⟩|⟨_,_,e,e1|e1⟩
  ·rw[hi]at e1;cases e1
  ·rw[e1];rfl
  ·rw[e1];rfl
end
end
end Abs
end Go.Proofs.YtbijdmihdagfaaaGreatDoor
