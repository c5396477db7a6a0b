/- Part of a proof: F15. -/
import Derived.Test.YtdngefmliibcgaaGreatM05
import Derived.Test.YtdngefmliibcgaaGreatM07
import Derived.Test.YtdngefmliibcgaaGreatM08
import Derived.Test.YtdngefmliibcgaaGreatM10
import Derived.Test.YtdngefmliibcgaaGreatM12
import Derived.Test.YtdngefmliibcgaaGreatM13
import Derived.Test.YtdngefmliibcgaaGreatM14
import Derived.Test.YtdngefmliibcgaaGreatM16
set_option linter.all false
set_option maxRecDepth 20000
set_option maxHeartbeats 20000000
namespace Go.Proofs.YtdngefmliibcgaaGreat
open Go Go.Abs Go.Abs.fJ
theorem ZP{α:Type}{l:List α}(h:l.length=4):l.take 4=l:=aQ (by omega)
def BT(p:Prog)(d:Int)(lay:Layout)(h:aG)(k b:Nat)(vB:V)(C L T:Nat)(ids aM:Nat→Nat)(v:V)(h':aG)(k':Nat):Prop:=
 ∃(bb:Bool) (iC kz:Nat→Nat) (m':aJ),v= .bool bb∧de h' k' b vB C L T iC kz m'∧cp p d m'∧m'.layout=lay∧k≤k'∧(∀j,j<4→(iC j=ids j∨k≤iC j)∧(kz j=aM j∨k≤kz j))∧
  ∀i,i<k→i≠C→i≠L→i≠T→(∀j,j<4→i≠ids j∧i≠aM j)→h' i=h i
theorem BT.same{p:Prog}{d:Int}{h h':aG}{k b C L T n:Nat}{vB:V}{ids aM:Nat→Nat}{m:aJ}{bb:Bool}(H:de h k b vB C L T ids aM m)(HG:cp p d m)(hB:Below k h h'):BT p d m.layout h k b vB C L T ids aM (.bool bb) h' (k+n):=
 ⟨bb,ids,aM,m,rfl,H.mono (by omega) hB,HG,rfl,by omega,fun _ _=>⟨.inl rfl,.inl rfl⟩,fun i hi _ _ _ _=>hB i hi⟩
theorem BT.put {p:Prog} {d:Int} {h h1:aG} {k b C L T n t:Nat} {vB:V} {ids aM:Nat→Nat} {m:aJ} {bb:Bool} {x:Thread} {E R:List V} (H:de h k b vB C L T ids aM m) (HG:cp p d m) (hB:Below k h h1) (ht:t<4) (hx:cW d x)
  (hE:E=(bo aM m.threads).set t (dw aM t x)) (hR:R=x.aO.map Cell.enc):BT p d m.layout h k b vB C L T ids aM (.bool bb) (aS (aS h1 (aM t) (some ⟨2,R,false⟩)) T (some ⟨8,E,true⟩)) (k+n):=by
 have nr:t<m.threads.length:=by rw[H.len];exact ht
 have hs:=(H.sn t ht).2.2.2.1;refine⟨bb,ids,aM,eO m m.memory t x,rfl,H.put (by omega) ht (by rw[hE,iu nr];simp[aS]) (by rw[hR];simp[aS,hs]) (fun i hi h1 h2=>by simp[aS,h1,h2];exact hB i hi),uA HG (Int.le_refl _) HG.mem HG.coh hx,rfl,by omega,fun _ _=>⟨.inl rfl,.inl rfl⟩,fun i hi _ _ hT hj=> ?_⟩;simp[aS,hT,(hj t ht).2];exact hB i hi
noncomputable def cB(g:FuncId)(args:List V)(h:aG)(k:Nat):Bool:=match bt X g args h k with|some (.bool b,_,_)=>b|_=>false
def V3(p:Prog)(vB:V)(key:Int)(vC vL:V)(T:Nat)(o:j6)(l:ga)(R n J:Nat):V:= .agg [.sl false (p.code.map Instr.enc),.sl false (p.aq.map (V.int .i64)),.sl false (p.data.map bE),vB,.int .u16 key,vC,vL,.bJ T 0 4,
 .sl false (o.clock.map (V.int .u16)),.sl false (o.random.map (V.int .u16)),.sl false (o.jx.map bE),.sl false (o.files.data.map dL),.sl false (o.files.opens.map yi.enc),.sl false (o.fm.map Output.enc),
 .sl false (l.owner.map (V.int .i64)),.sl false (l.queue.map nk),.bJ R 0 n,.bJ J 0 4]
structure yW (p:Prog) (d:Int) (lay:Layout) (o:j6) (l:ga) (js:List Int) (h:aG) (k b:Nat) (S:Nat→Prop) (T:Nat) (vB vC vL:V) (es:List V) (m:aJ) (R:Nat) (rc:List Entry) (J:Nat):Prop where
 box:h b=some ⟨18,[V3 p vB lay.key vC vL T o l R rc.length J],true⟩
 own:kD h k S T vB vC vL es m
 ZQ:cp p d m
 lay:m.layout=lay
 record:h R=some ⟨18,rc.map Entry.enc,false⟩
 As:h J=some ⟨1,js.map (V.int .i64),false⟩
 agq:js.length=4
 lt:b<k∧R<k∧J<k
 ne:b≠R∧b≠J∧R≠J
 off: ¬S b∧ ¬S R∧ ¬S J
def ZR(p:Prog)(d:Int)(lay:Layout)(o:j6)(l:ga)(js:List Int)(h:aG)(k b:Nat)(S:Nat→Prop)(R J n:Nat)(h':aG)(k':Nat):Prop:=
 ∃S' T' VZ V0 V1 tX m' R' rc',yW p d lay o l js h' k' b S' T' VZ V0 V1 tX m' R' rc' J∧rc'.length=n∧k≤k'∧k≤R'∧(∀i,S' i→S i∨k≤i)∧ ∀i,i<k→i≠b→i≠R→h' i=h i
noncomputable def cV(g:FuncId)(args:List V)(h:aG)(k:Nat):V:=match bt X g args h k with|some (v,_,_)=>v|none=> .bad
theorem ZS{g:FuncId}{args:List V}{h h':aG}{k k':Nat}{v:V}(e:bt X g args h k=some (v,h',k')):cV g args h k=v:=by
 unfold cV;rw[e]
def pv(j:Nat)(v:V):V:=match v with| .cg [.agg cs,_]=>cs.getD j .bad|_=> .bad
def pt(v:V):Nat:=match pv 4 v with| .bJ T _ _=>T|_=>0
def pb(v:V):Bool:=match v with| .cg [_,.bool b]=>b|_=>false
theorem qs.cl{p:Prog}{d:Int}{lay:Layout}{h:aG}{k:Nat}{S:Nat→Prop}{args:List V}(H: ∃v h' k',bt X 119 args h k=some (v,h',k')∧qs p d lay h k S v h' k'):
  bt X 119 args h k=some (.cg [.agg [pv 0 (cV 119 args h k),.int .u16 lay.key,pv 2 (cV 119 args h k),pv 3 (cV 119 args h k),.bJ (pt (cV 119 args h k)) 0 4],.bool (pb (cV 119 args h k))],cH 119 args h k,cK 119 args h k)∧
  ∃(S':Nat→Prop) (tX:List V) (m':aJ),kD (cH 119 args h k) (cK 119 args h k) S' (pt (cV 119 args h k)) (pv 0 (cV 119 args h k)) (pv 2 (cV 119 args h k)) (pv 3 (cV 119 args h k)) tX m'∧cp p d m'∧m'.layout=lay∧k≤cK 119 args h k∧(∀i,i<k→cH 119 args h k i=h i)∧ ∀i,S' i→S i∨k≤i:=by
 obtain⟨v,h',k',e,b,S',T',VZ,V0,V1,tX,m',rfl,HM,HG,hl,hk,hf,hS⟩:=H;obtain⟨e1,e2⟩:=yQ e;have e3:=ZS e;rw[e1,e2,e3];refine⟨?_,S',tX,m',HM,HG,hl,hk,hf,hS⟩;rw[e,hl];rfl
def agr(p:Prog)(d:Int)(lay:Layout)(n:Nat)(v:V)(h':aG)(k':Nat):Prop:=
 v= .cg []∧ ∃(o:j6) (l:ga) (js:List Int) (S:Nat→Prop) (T:Nat) (vB vC vL:V) (es:List V) (m:aJ) (R:Nat) (rc:List Entry) (J:Nat),yW p d lay o l js h' k' 0 S T vB vC vL es m R rc J∧DO o∧oZ l∧rc.length≤n
structure RA (p:Prog) (d:Int) (lay:Layout) (k:Nat) (S:Nat→Prop) (h h1:aG) (k1:Nat) (S1:Nat→Prop) (T:Nat) (vB vC vL:V) (es:List V) (m:aJ):Prop where
 own:kD h1 k1 S1 T vB vC vL es m
 ZQ:cp p d m
 lay:m.layout=lay
 le:k≤k1
 fr: ∀i,i<k→h1 i=h i
 sub: ∀i,S1 i→S i∨k≤i
theorem qs.fn{p:Prog}{d:Int}{lay:Layout}{k:Nat}{S:Nat→Prop}{args:List V}{P:aG→Prop}(m0:aJ)(H: ∀h,P h→ ∃v h' k',bt X 119 args h k=some (v,h',k')∧qs p d lay h k S v h' k'):
  ∃(fB fC fL:aG→V) (fT fK:aG→Nat) (fb:aG→Bool) (fH:aG→aG) (fS:aG→Nat→Prop) (fE:aG→List V) (fM:aG→aJ),∀h,P h→
   bt X 119 args h k=some (.cg [.agg [fB h,.int .u16 lay.key,fC h,fL h,.bJ (fT h) 0 4],.bool (fb h)],fH h,fK h)∧RA p d lay k S h (fH h) (fK h) (fS h) (fT h) (fB h) (fC h) (fL h) (fE h) (fM h):=by
 have g: ∀h,∃(S':Nat→Prop) (tX:List V) (m':aJ),P h→bt X 119 args h k=some (.cg [.agg [pv 0 (cV 119 args h k),.int .u16 lay.key,pv 2 (cV 119 args h k),pv 3 (cV 119 args h k),.bJ (pt (cV 119 args h k)) 0 4],.bool (pb (cV 119 args h k))],cH 119 args h k,cK 119 args h k)∧
   RA p d lay k S h (cH 119 args h k) (cK 119 args h k) S' (pt (cV 119 args h k)) (pv 0 (cV 119 args h k)) (pv 2 (cV 119 args h k)) (pv 3 (cV 119 args h k)) tX m':=fun h=>by
  by_cases hp:P h
  ·obtain⟨e,S',tX,m',h1,h2,h3,h4,h5,h6⟩:=qs.cl (H h hp);exact⟨S',tX,m',fun _=>⟨e,h1,h2,h3,h4,h5,h6⟩⟩
  ·exact⟨fun _=>False,[],m0,fun e=>absurd e hp⟩
 obtain⟨fS,g⟩:=Classical.skolem.1 g;obtain⟨fE,g⟩:=Classical.skolem.1 g;obtain⟨fM,g⟩:=Classical.skolem.1 g;exact⟨_,_,_,_,_,_,_,fS,fE,fM,g⟩
theorem RA.run {p:Prog} {d:Int} {lay:Layout} {k:Nat} {S:Nat→Prop} {h h1 hE:aG} {k1 k2:Nat} {S1:Nat→Prop} {T:Nat} {vB vC vL:V} {es:List V} {m:aJ} {o:j6} {l:ga} {js:List Int} {R:Nat} {n:Nat} (r0 J:Nat) (rc:List Entry)
  (H:RA p d lay k S h h1 k1 S1 T vB vC vL es m) (h0:hE 0=some ⟨18,[V3 p vB lay.key vC vL T o l R n J],true⟩) (hn:rc.length=n) (hR:hE R=some ⟨18,rc.map Entry.enc,false⟩) (hJ:h J=some ⟨1,js.map (V.int .i64),false⟩) (jl:js.length=4)
  (hS: ∀i,S i→i≠0∧i≠r0∧i≠J) (hk:0<J∧J<k∧r0<k∧r0≠J) (G3:k1≤R∧R<k2) (he: ∀i,i<k1→ ¬i=0→ ¬i=r0→hE i=h1 i):yW p d lay o l js hE k2 0 S1 T vB vC vL es m R rc J:=by
 obtain⟨HM,HG,hl,hle,hf,hs⟩:=H;have jw:=HM.lt;have sS: ∀i,S1 i→ ¬i=0∧ ¬i=r0∧ ¬i=J∧i<k1:=fun i hi=>by
  have:=jw i hi;rcases hs i hi with e|e
  ·obtain⟨a,b,c⟩:=hS i e;exact⟨a,b,c,this⟩
  ·exact⟨by omega,by omega,by omega,this⟩
 subst hn;refine⟨h0,HM.mono (by omega) fun i hi=> ?_,HG,hl,hR,?_,jl,⟨by omega,by omega,by omega⟩,⟨by omega,by omega,by omega⟩,fun e=>(sS 0 e).1 rfl,fun e=> ?_,fun e=>(sS _ e).2.2.1 rfl⟩
 ·obtain⟨e1,e2,e3,e4⟩:=sS i hi;exact he i e4 e1 e2
 ·rw[he J (by omega) (by omega) (by omega),hf J (by omega),hJ]
 ·have:=(sS _ e).2.2.2;omega
theorem ZR.Ip{p:Prog}{d:Int}{lay:Layout}{o:j6}{l:ga}{js:List Int}{h h':aG}{k k':Nat}{S:Nat→Prop}{R J n n':Nat}(H:ZR p d lay o l js h k 0 S R J n h' k')(ho:DO o)(hl:oZ l)(hn:n≤n'):
  ∃(o:j6) (l:ga) (js:List Int) (S:Nat→Prop) (T:Nat) (vB vC vL:V) (es:List V) (m:aJ) (R:Nat) (rc:List Entry) (J:Nat),yW p d lay o l js h' k' 0 S T vB vC vL es m R rc J∧DO o∧oZ l∧rc.length≤n':=by
 obtain⟨S',T',VZ,V0,V1,tX,m',R',rc',HR,e,_⟩:=H;exact⟨o,l,js,S',T',VZ,V0,V1,tX,m',R',rc',J,HR,ho,hl,by omega⟩
def OQ(p:Prog)(d:Int)(lay:Layout)(o:j6)(l:ga)(J:Nat)(js:List Int)(h:aG)(k c:Nat):Prop:=
 ∃(S:Nat→Prop) (T:Nat) (vB vC vL:V) (es:List V) (m:aJ) (R:Nat) (rc:List Entry),yW p d lay o l js h k 0 S T vB vC vL es m R rc J∧rc.length=c
theorem OQ.mono{p:Prog}{d:Int}{lay:Layout}{o:j6}{l:ga}{J:Nat}{js:List Int}{h h':aG}{k k' c:Nat}(H:OQ p d lay o l J js h k c)(hk:k≤k')(hh: ∀i,i<k→h' i=h i):OQ p d lay o l J js h' k' c:=by
 obtain⟨S,T,vB,vC,vL,es,m,R,rc,⟨h1,h2,h3,h4,h5,h6,h7,h8,h9,qF⟩,e⟩:=H;have:=h2.lt;exact⟨S,T,vB,vC,vL,es,m,R,rc,⟨by rw[hh _ h8.1,h1],h2.mono hk fun i hi=>hh i (this i hi),h3,h4,by rw[hh _ h8.2.1,h5],by rw[hh _ h8.2.2,h6],h7,⟨by omega,by omega,by omega⟩,h9,qF⟩,e⟩
theorem OQ.Ip{p:Prog}{d:Int}{lay:Layout}{o:j6}{l:ga}{J:Nat}{js:List Int}{h:aG}{k c n:Nat}(H:OQ p d lay o l J js h k c)(ho:DO o)(hl:oZ l)(hc:c≤n):agr p d lay n (.cg []) h k:=by
 obtain⟨S,T,vB,vC,vL,es,m,R,rc,HR,e⟩:=H;exact⟨rfl,o,l,js,S,T,vB,vC,vL,es,m,R,rc,J,HR,ho,hl,by omega⟩
end Go.Proofs.YtdngefmliibcgaaGreat
