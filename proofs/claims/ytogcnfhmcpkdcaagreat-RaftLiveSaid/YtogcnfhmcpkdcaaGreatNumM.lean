/-
The plain law of fields: numbers, texts, digests as bytes. No program in sight.
-/
import Derived.Test.YtogcnfhmcpkdcaaGreatMemB
namespace Go.Proofs.YtogcnfhmcpkdcaaGreat
open Go.RowKit
abbrev bv (c:UInt8):Value:= .int .u8 (c.toNat:Int)
structure aM (w:World) (B:Nat) (a:Option Addr) (n c:Nat) (l:List UInt8):Prop where
 hlen:l.length=n
 hle:n<=c
 hmax:c<=maxLen
 hnil:a=none->c=0
 hbig:n<=140737488355328
 hat:0<n->∃b o,a=some ⟨b,o,none⟩/\b<B/\∀i,i<n->w.cell? ⟨b,o+i,none⟩=some (.int .u8 ((l.getD i 0).toNat:Int))
theorem aM.mono{w:World}{B d:Nat}{a:Option Addr}{n c:Nat}{l:List UInt8}(h:aM w B a n c l)(hB:B<=d):aM w d a n c l:=⟨h.hlen,h.hle,h.hmax,h.hnil,h.hbig,fun f=>let ⟨b,o,e,hb,hc⟩:=h.hat f;⟨b,o,e,Nat.lt_of_lt_of_le hb hB,hc⟩⟩
theorem aM.below{w w':World}{B d:Nat}{a:Option Addr}{n c:Nat}{l:List UInt8}(h:aM w B a n c l)(hb:Below d w w')(hB:B<=d):aM w' B a n c l:=⟨h.hlen,h.hle,h.hmax,h.hnil,h.hbig,fun f=>let ⟨b,o,e,hl,hc⟩:=h.hat f;⟨b,o,e,hl,fun i g=>(hb.cell (p:=⟨b,o+i,none⟩) (Nat.lt_of_lt_of_le hl hB)).trans (hc i g)⟩⟩
theorem aM.setCell{w:World}{B:Nat}{a:Option Addr}{n c:Nat}{l:List UInt8}(h:aM w B a n c l){q:Addr}{a':Option Addr}{g c':Nat}(j:w.cell? q=some (.slice a' g c'))(v:Value):
  aM (w.setCell q v) B a n c l:=
 ⟨h.hlen,h.hle,h.hmax,h.hnil,h.hbig,fun k=>let ⟨b,o,e,hl,hc⟩:=h.hat k;⟨b,o,e,hl,fun i m=>by
  have d:=hc i m;rw[<-d];have f:q≠⟨b,o+i,none⟩:=fun f=>by rw[<-f,j]at d;cases d
  exact World.cell?_setCell_other _ _ _ _ f⟩⟩
theorem ew{w:World}{B:Nat}{a:Option Addr}{n c:Nat}{l:List UInt8}(h:SlAt w B 1 a n c (l.map bv))(hn:n<=140737488355328):aM w B a n c l:=by
 have d:l.length=n:=by simpa using h.hlen
 refine⟨d,h.hle,h.hmax,h.hnil,hn,fun j=> ?_⟩;obtain⟨b,o,e,g,f⟩:=h.hat (by simp;omega);refine⟨b,o,e,g,fun i k=> ?_⟩;rw[f i (by simp;omega)];simp[List.getElem?_map,List.getD,List.getElem?_eq_getElem (show i<l.length by omega)]
theorem dG{w:World}{base e n:Nat}{v:Value}{l:List UInt8}(h:w.ownsRow base e 1 v n (l.map bv))(hn:n<=140737488355328):∃a c,v= .slice a n c/\aM w w.heap.size a n c l:=by obtain⟨a,c,rfl,b⟩:=SlAt.ofOwns h;exact⟨a,c,rfl,ew b hn⟩
theorem aM.zero(w:World)(B:Nat)(a:Option Addr)(c:Nat)(hc:c<=maxLen)(hn:a=none->c=0):aM w B a 0 c []:=⟨rfl,Nat.zero_le _,hc,hn,by omega,fun b=>absurd b (by omega)⟩
theorem aM.take{w:World}{B:Nat}{a:Option Addr}{n c:Nat}{l:List UInt8}(h:aM w B a n c l){k:Nat}(d:k<=n):aM w B a k k (l.take k):=by refine⟨by simp[h.hlen];omega,Nat.le_refl _,Nat.le_trans d (Nat.le_trans h.hle h.hmax),fun e=>by have:=h.hnil e;have:=h.hle;omega,Nat.le_trans d h.hbig,fun m=> ?_⟩;obtain⟨b,o,e,j,g⟩:=h.hat (by omega);refine⟨b,o,e,j,fun i f=> ?_⟩;rw[g i (by omega)];simp[List.getD,List.getElem?_take_of_lt f]
theorem aM.drop{w:World}{B b o:Nat}{n c:Nat}{l:List UInt8}(h:aM w B (some ⟨b,o,none⟩) n c l){k:Nat}(j:k<=n):aM w B (some ⟨b,o+k,none⟩) (n-k) (c-k) (l.drop k):=by have r:=h.hle;have q:=h.hmax;have p:=h.hbig;refine⟨by simp[h.hlen],by omega,by omega,fun e=>by simp at e,by omega,fun g=> ?_⟩;obtain⟨s,f,e,d,a⟩:=h.hat (by omega);simp at e;obtain⟨rfl,rfl⟩:=e;refine⟨b,o+k,rfl,d,fun i m=> ?_⟩;rw[Nat.add_assoc,a _ (by omega)];simp[List.getD,List.getElem?_drop]
def xJ:Nat->Nat->List UInt8
 | 0,_=> []
 | f+1,n=>if n=0 then[] else UInt8.ofNat n::xJ f (n / 256)
def le(n:Nat):List UInt8:=xJ n n
theorem np:∀(f g n:Nat),n<=f->n<=g->xJ f n=xJ g n
 | 0,0,_,_,_=>rfl
 | 0, g + 1, n, h, _ => by have : n = 0 := by omega
                           subst this;simp[xJ]
 | f + 1, 0, n, _, h => by have : n = 0 := by omega
                           subst this;simp[xJ]
 | f+1,g+1,n,hf,hg=>by
  simp only[xJ];by_cases a:n=0
  ·simp[a]
  ·rw[if_neg a,if_neg a,np f g (n / 256) (by omega) (by omega)]
theorem gK:le 0= []:=rfl
theorem jC{n:Nat}(h:0<n):le n=UInt8.ofNat n::le (n / 256):=by
 unfold le;obtain⟨m,rfl⟩:∃m,n=m+1:=⟨n-1,by omega⟩
 simp only[xJ];rw[if_neg (by omega),np m ((m+1) / 256) ((m+1) / 256) (by omega) (by omega)]
def be(l:List UInt8):Nat:=l.foldl (fun v c=>v*256+c.toNat) 0
def aC(n:Nat):List UInt8:=UInt8.ofNat (le n).length::(le n).reverse
def bN(l:List UInt8):List UInt8:=aC l.length++l
inductive bO (α:Type) where
 | err (e:Int)
 | ok (x:α) (rest:List UInt8)
def ak(most:Nat)(l:List UInt8):bO Nat:=
 match l with
 | []=> .err 2
 | k::r=>
  if 8<k.toNat then .err 3
  else if r.length<k.toNat then .err 2
  else if 0<k.toNat/\r.getD 0 0=0 then .err 3
  else if most<be (r.take k.toNat) then .err 5
  else .ok (be (r.take k.toNat)) (r.drop k.toNat)
def eR(n:Nat)(l:List UInt8):bO (List UInt8):=if l.length<n then .err 2 else .ok (l.take n) (l.drop n)
def aT(most:Nat)(l:List UInt8):bO (List UInt8):=
 match ak most l with
 | .err e=> .err e
 | .ok n r=>eR n r
end Go.Proofs.YtogcnfhmcpkdcaaGreat
namespace Go.Proofs.YtogcnfhmcpkdcaaGreat
theorem nM(l:List UInt8)(c:UInt8):be (l++ [c])=be l*256+c.toNat:=by simp[be]
theorem yl:∀(l:List UInt8),l≠ []->l.getD 0 0≠0->0<be l:=by
 intro l
 induction l using lW with
 | h0=>intro h;exact absurd rfl h
 | h1 l c ih=>
  intro _ h;rw[nM];by_cases a:l= []
  ·subst a;have b:c≠0:=by simpa using h
   have:c.toNat≠0:=fun e=>b (UInt8.toNat_inj.1 e)
   omega
  ·have d:l.getD 0 0≠0:=by
    cases l with
    | nil=>exact absurd rfl a
    | cons x xs=>simpa using h
   have:=ih a d;omega
theorem yR:∀(l:List UInt8),(l≠ []->l.getD 0 0≠0)->le (be l)=l.reverse:=by
 intro l
 induction l using lW with
 | h0=>intro _;rfl
 | h1 l c ih=>
  intro h;have f:=c.toNat_lt;have a:=yl (l++ [c]) (by simp) (h (by simp));rw[jC a,nM];have e:(be l*256+c.toNat) / 256=be l:=by omega
  have d:UInt8.ofNat (be l*256+c.toNat)=c:=by
   apply UInt8.toNat_inj.1
   simp
  rw[e,d,ih ?_]
  ·simp
  ·intro b;have:=h (by simp);cases l with
   | nil=>exact absurd rfl b
   | cons x xs=>simpa using this
end Go.Proofs.YtogcnfhmcpkdcaaGreat
namespace Go.Proofs.YtogcnfhmcpkdcaaGreat
set_option linter.unusedVariables false
theorem uL(n:Nat):be (le n).reverse=n:=by
 induction n using Nat.strongRecOn with
 | ind n ih=>
  by_cases a:n=0
  ·subst a;rfl
  ·rw[jC (by omega),List.reverse_cons,nM,ih (n / 256) (by omega)];have:(UInt8.ofNat n).toNat=n%256:=by simp
   rw[this];omega
theorem sw(n:Nat)(h:0<n):(le n).reverse.getD 0 0≠0:=by
 induction n using Nat.strongRecOn with
 | ind n ih=>
  rw[jC h,List.reverse_cons];by_cases d:n / 256=0
  ·rw[d,gK];intro e;have f:UInt8.ofNat n=0:=by simpa using e
   have:=congrArg UInt8.toNat f;simp at this;omega
  ·have c:=ih (n / 256) (by omega) (by omega);have b:0<(le (n / 256)).reverse.length:=by rw[List.length_reverse,jC (by omega)];simp
   have a:((le (n / 256)).reverse++ [UInt8.ofNat n]).getD 0 0=(le (n / 256)).reverse.getD 0 0:=by simp only[List.getD,List.getElem?_append_left b]
   rw[a];exact c
theorem xe(k:Nat):∀n,n<256 ^ k->(le n).length<=k:=by
 induction k with
 | zero => intro n h; have : n = 0 := by simpa using h
           subst this;simp[gK]
 | succ k ih=>
  intro n h;by_cases a:n=0
  ·subst a;simp[gK]
  ·rw[jC (by omega)];have:=ih (n / 256) (by rw[Nat.pow_succ]at h;omega)
   simp;omega
theorem bo(a n:Nat)(r:List UInt8)(h64:n<18446744073709551616)(hm:n<=a):ak a (aC n++r)= .ok n r:=by
 have k:(le n).length<=8:=xe 8 n (by omega);have e:(UInt8.ofNat (le n).length).toNat=(le n).length:=by simp;omega
 simp only[aC,List.cons_append,ak,e];have d:((le n).reverse++r).take (le n).length=(le n).reverse:=by rw[<-List.length_reverse,List.take_left]
 have f:((le n).reverse++r).drop (le n).length=r:=by rw[<-List.length_reverse,List.drop_left]
 rw[if_neg (by omega),if_neg (by simp),d,f,uL,if_neg,if_neg (by omega)];rintro⟨c,b⟩;have j:0<n:=by
  rcases Nat.eq_zero_or_pos n with h | h
  ·subst h;simp[gK]at c
  ·exact h
 have i:0<(le n).reverse.length:=by simpa using c
 have g:((le n).reverse++r).getD 0 0=(le n).reverse.getD 0 0:=by simp only[List.getD,List.getElem?_append_left i]
 rw[g]at b;exact sw n j b
theorem kw{a v:Nat}{l r:List UInt8}(h:ak a l= .ok v r):l=aC v++r:=by
 cases l with
 | nil=>simp[ak]at h
 | cons k t=>
  have j:=k.toNat_lt;simp only[ak]at h;split at h
  ·cases h
  split at h
  ·cases h
  split at h
  ·cases h
  split at h
  ·cases h
  rename_i o n g m
  injection h with h5 h6;have b:(t.take k.toNat).length=k.toNat:=by simp;omega
  have d:le (be (t.take k.toNat))=(t.take k.toNat).reverse:=yR _ (fun c e=>g ⟨by
   rcases Nat.eq_zero_or_pos k.toNat with h | h
   ·rw[h]at c;simp at c
   ·exact h,by
   have i:0<k.toNat:=by
    rcases Nat.eq_zero_or_pos k.toNat with h | h
    ·rw[h]at c;simp at c
    ·exact h
   have f:(t.take k.toNat).getD 0 0=t.getD 0 0:=by simp[List.getD,List.getElem?_take_of_lt i]
   rw[<-f];exact e⟩)
  rw[<-h5,aC,d,<-h6,List.length_reverse,b]
  simp
theorem az{a v:Nat}{l r:List UInt8}(h:ak a l= .ok v r):v<=a:=by
 cases l with
 | nil=>simp[ak]at h
 | cons k t=>
  simp only[ak]at h
  repeat' split at h
  all_goals first | (cases h;omega) | (cases h)
theorem lF{a:Nat}{l:List UInt8}{x:Int}(h:ak a l= .err x):x=2\/x=3\/x=5:=by
 cases l with
 | nil=>simp[ak]at h;omega
 | cons k t=>
  simp only[ak]at h
  repeat' split at h
  all_goals first | (cases h;simp) | (cases h)
theorem rk(d r:List UInt8)(n:Nat)(h:d.length=n):eR n (d++r)= .ok d r:=by subst h;simp[eR]
theorem uW{n:Nat}{l d r:List UInt8}(h:eR n l= .ok d r):l=d++r/\d.length=n:=by
 simp only[eR]at h;split at h
 ·cases h
 ·injection h with h1 h2;subst h1 h2
  rename_i a
  exact⟨(List.take_append_drop _ _).symm,by simp;omega⟩
theorem pN{n:Nat}{l:List UInt8}{x:Int}(h:eR n l= .err x):x=2:=by
 simp only[eR]at h;split at h
 ·cases h;rfl
 ·cases h
theorem eX(a:Nat)(t r:List UInt8)(h64:t.length<18446744073709551616)(hm:t.length<=a):aT a (bN t++r)= .ok t r:=by simp only[aT,bN,List.append_assoc,bo a t.length (t++r) h64 hm];exact rk t r _ rfl
theorem fD{a:Nat}{l t r:List UInt8}(h:aT a l= .ok t r):l=bN t++r/\t.length<=a:=by
 simp only[aT]at h;cases hg:ak a l with
 | err x=>rw[hg]at h;cases h
 | ok n r'=>rw[hg]at h;obtain⟨e,d⟩:=uW h;have c:=kw hg;have b:=az hg;subst d;exact⟨by rw[c,e,bN,List.append_assoc],b⟩
theorem pM{a:Nat}{l:List UInt8}{x:Int}(h:aT a l= .err x):x=2\/x=3\/x=5:=by
 simp only[aT]at h;cases hg:ak a l with
 | err y=>rw[hg]at h;cases h;exact lF hg
 | ok n r'=>rw[hg]at h;exact .inl (pN h)
def bO.bind{α β:Type}(r:bO α)(f:α->List UInt8->bO β):bO β:=
 match r with
 | .err x=> .err x
 | .ok v rest=>f v rest
@[simp] theorem bO.bind_err {α β:Type} (x:Int) (f:α->List UInt8->bO β):(bO.err x:bO α).bind f= .err x:=rfl
@[simp] theorem bO.bind_ok {α β:Type} (v:α) (r:List UInt8) (f:α->List UInt8->bO β):(bO.ok v r).bind f=f v r:=rfl
def bO.code{α:Type}:bO α->Int
 | .err x=>x
 | .ok _ r=>if r= [] then 0 else 3
def bO.sane{α:Type}(r:bO α):Prop:=∀x,r= .err x->x≠0
theorem bL(a:Nat)(l:List UInt8):(ak a l).sane:=fun x h=>by have:=lF h;omega
theorem gj(a:Nat)(l:List UInt8):(aT a l).sane:=fun x h=>by have:=pM h;omega
theorem bO.sane_bind{α β:Type}{r:bO α}{f:α->List UInt8->bO β}(h:r.sane)(hf:∀v rest,(f v rest).sane):(r.bind f).sane:=by
 intro x a;cases r with
 | err y=>simp at a;subst a;exact h y rfl
 | ok v rest=>exact hf v rest x a
theorem dQ{α:Type}(v:α)(r:List UInt8):(bO.ok v r).sane:=fun x h=>by cases h
end Go.Proofs.YtogcnfhmcpkdcaaGreat
