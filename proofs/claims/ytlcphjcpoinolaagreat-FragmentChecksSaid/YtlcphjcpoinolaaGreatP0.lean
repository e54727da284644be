/- Short names for tactics that come often: each is a theorem whose argument is found by the tactic. -/
set_option linter.unusedVariables false
theorem Za {g r:Prop}(k:r)(h:r→g:=by first|exact XiD|fail):g:=h k
theorem Zb {g r:Prop}(k:r)(h:r→g:=by first|exact Xer|fail):g:=h k
theorem Zc {g r:Prop}(k:r)(h:r→g:=by first|exact Xaf|fail):g:=h k
theorem Zd {g r:Prop}(k:r)(h:r→g:=by first|exact Xn rfl rfl (by decide) (Xat rfl rfl)|fail):g:=h k
theorem Ze {g r:Prop}(k:r)(h:r→g:=by first|exact Xn rfl rfl (by decide) (Xay rfl rfl)|fail):g:=h k
theorem Zf {g r:Prop}(k:r)(h:r→g:=by first|exact Xk1|fail):g:=h k
theorem Zg {g r:Prop}(k:r)(h:r→g:=by first|exact Xmg rfl (by first | rfl | exact decide_eq_false (by omega) | exact Xb4 (by omega))|fail):g:=h k
theorem Zh {g r:Prop}(k:r)(h:r→g:=by first|exact Xn rfl rfl (by decide) (XB rfl rfl rfl rfl)|fail):g:=h k
theorem Zi {g r:Prop}(k:r)(h:r→g:=by first|exact XjH rfl (by first | rfl | exact decide_eq_true (by omega) | exact Xb3 (by omega))|fail):g:=h k
theorem Zj {g r:Prop}(k:r)(h:r→g:=by first|exact XjI|fail):g:=h k
theorem Zk {g r:Prop}(k:r)(h:r→g:=by first|exact Xn rfl rfl (by decide) (XP rfl rfl rfl (congrArg some (decide_eq_false (by omega))))|fail):g:=h k
theorem Zl {g r:Prop}(k:r)(h:r→g:=by first|exact Xbu 0 hG rfl rfl (by decide) rfl rfl rfl rfl|fail):g:=h k
theorem Zm {g r:Prop}(k:r)(h:r→g:=by first|exact Xn rfl rfl (by decide) (XP rfl rfl rfl (congrArg some (decide_eq_true (by omega))))|fail):g:=h k
theorem Zn {g r:Prop}(k:r)(h:r→g:=by first|exact XiE|fail):g:=h k
theorem Zo {g r:Prop}(k:r)(h:r→g:=by first|exact Xl9 rfl rfl rfl rfl rfl (by decide) (by first | rfl | exact decide_eq_true (by omega) | exact decide_eq_false (by omega) | exact Xb3 (by omega) | exact Xb4 (by omega))|fail):g:=h k
theorem Zp {g r:Prop}(k:r)(h:r→g:=by first|exact XhR|fail):g:=h k
theorem Zq {g r:Prop}(k:r)(h:r→g:=by first|exact Xn rfl rfl (by decide) (Xbd rfl rfl (by first | rfl | exact decide_eq_false (by omega)) rfl)|fail):g:=h k
theorem Zr {g r:Prop}(k:r)(h:r→g:=by first|exact Xn rfl rfl (by decide) (Xem rfl rfl)|fail):g:=h k
theorem Zs {g r:Prop}(k:r)(h:r→g:=by first|exact Xgu|fail):g:=h k
theorem Zt {g r:Prop}(k:r)(h:r→g:=by first|exact Xn rfl rfl (by decide) (Xa7 rfl rfl rfl)|fail):g:=h k
theorem Zu {g r:Prop}(k:r)(h:r→g:=by first|exact Xn rfl rfl (by decide) (Xa2 rfl rfl (by first | rfl | exact decide_eq_true (by omega)) rfl)|fail):g:=h k
theorem Zv {g r:Prop}(k:r)(h:r→g:=by first|exact Xn rfl rfl (by decide) (Xen rfl rfl rfl)|fail):g:=h k
theorem Zw {g r:Prop}(k:r)(h:r→g:=by first|exact Xop rfl rfl rfl rfl rfl (by decide) (by first | rfl | exact decide_eq_true (by omega) | exact decide_eq_false (by omega) | exact Xb3 (by omega) | exact Xb4 (by omega))|fail):g:=h k
theorem Zx {g r:Prop}(k:r)(h:r→g:=by first|exact XwS|fail):g:=h k
theorem Zy {g r:Prop}(k:r)(h:r→g:=by first|exact Xn rfl rfl (by decide) (Xe4 rfl rfl rfl (by omega))|fail):g:=h k
theorem Zz {g r:Prop}(k:r)(h:r→g:=by first|exact Xb7 0 hG rfl rfl rfl rfl rfl rfl rfl rfl rfl rfl rfl|fail):g:=h k
theorem ZA {g r:Prop}(k:r)(h:r→g:=by first|exact Xn rfl rfl (by decide) (XP rfl rfl rfl (congrArg some (Xb4 (by omega))))|fail):g:=h k
theorem ZB {g:Prop}(h:g:=by exact XI rfl rfl (.refl _) (.v _) rfl):g:=h
theorem ZC {g r:Prop}(k:r)(h:r→g:=by first|exact Xn rfl rfl (by decide) (XP rfl rfl rfl (congrArg some (Xb3 (by omega))))|fail):g:=h k
theorem ZD {g r:Prop}(k:r)(h:r→g:=by first|exact Xxf mixed (by decide +kernel)|fail):g:=h k
theorem ZE {g r:Prop}(k:r)(h:r→g:=by first|exact Y_q rfl rfl rfl (by decide) (Xay rfl rfl)|fail):g:=h k
theorem ZF {g r:Prop}(k:r)(h:r→g:=by first|exact Xmf|fail):g:=h k
theorem ZG {g r:Prop}(k:r)(h:r→g:=by first|exact Y_q rfl rfl rfl (by decide) (Xat rfl rfl)|fail):g:=h k
theorem ZH {g r:Prop}(k:r)(h:r→g:=by first|exact Xmb hG rfl rfl (by decide) rfl rfl rfl|fail):g:=h k
theorem ZI {g r:Prop}(k:r)(h:r→g:=by first|exact Xna hG rfl rfl (by decide) rfl rfl|fail):g:=h k
theorem ZJ {g r:Prop}(k:r)(h:r→g:=by first|exact Xoo|fail):g:=h k
theorem ZK {g:Prop}(h:g:=by exact XI rfl rfl (.refl _) (.v _) (by rw [← he]; rfl)):g:=h
theorem ZL {g r:Prop}(k:r)(h:r→g:=by first|exact Xn rfl rfl (by decide) (Xaa rfl rfl rfl)|fail):g:=h k
theorem ZM {g r:Prop}(k:r)(h:r→g:=by first|exact Y_q rfl rfl rfl (by decide) (XB rfl rfl rfl rfl)|fail):g:=h k
theorem ZN {g:Prop}(h:g:=by exact ⟨(), .cons rfl (.cons rfl (.cons rfl (.nil _))), hG⟩):g:=h
theorem ZO {g r:Prop}(k:r)(h:r→g:=by first|exact Xm8 hG rfl rfl (by decide) rfl rfl rfl rfl rfl rfl rfl rfl|fail):g:=h k
theorem ZP {g r:Prop}(k:r)(h:r→g:=by first|exact Xfn (XB rfl rfl rfl rfl) rfl (by decide) rfl rfl rfl rfl (by decide)|fail):g:=h k
theorem ZQ {g r:Prop}(k:r)(h:r→g:=by first|exact Y_q rfl rfl rfl (by decide) (Xa2 rfl rfl (by first | rfl | exact decide_eq_true (by omega) | exact Xb3 (by omega)) rfl)|fail):g:=h k
theorem ZR {g r:Prop}(k:r)(h:r→g:=by first|exact Xn rfl rfl (by decide) (Xj rfl rfl (hG.get 6 _ _ rfl) rfl)|fail):g:=h k
theorem ZS {g r:Prop}(k:r)(h:r→g:=by first|exact Xbu 1 hG rfl rfl (by decide) rfl rfl rfl rfl|fail):g:=h k
theorem ZT {g r:Prop}(k:r)(h:r→g:=by first|exact Y_gn rfl (by decide) rfl rfl rfl rfl rfl (by decide)|fail):g:=h k
theorem ZU {g r:Prop}(k:r)(h:r→g:=by first|exact Xfn (Xj rfl rfl (hG.get 0 _ _ rfl) rfl) rfl (by decide) rfl rfl rfl rfl (by decide)|fail):g:=h k
theorem ZV {g r:Prop}(k:r)(h:r→g:=by first|exact Y_q rfl rfl rfl (by decide) (Xbd rfl rfl (by first | rfl | exact decide_eq_false (by omega) | exact Xb4 (by omega)) rfl)|fail):g:=h k
theorem ZW {g r:Prop}(k:r)(h:r→g:=by first|exact Xfn (Xay rfl rfl) rfl (by decide) rfl rfl rfl rfl (by decide)|fail):g:=h k
theorem ZX {g r:Prop}(k:r)(h:r→g:=by first|exact Xxe rfl rfl rfl rfl rfl (by decide)|fail):g:=h k
theorem ZY {g r:Prop}(k:r)(h:r→g:=by first|exact XiA|fail):g:=h k
theorem ZZ {g r:Prop}(k:r)(h:r→g:=by first|exact Y_q rfl rfl rfl (by decide) (XP rfl rfl rfl (congrArg some (decide_eq_true (by omega))))|fail):g:=h k
theorem Z0 {g r:Prop}(k:r)(h:r→g:=by first|exact Xn rfl rfl (by decide) (Xjz rfl rfl)|fail):g:=h k
theorem Z1 {g r:Prop}(k:r)(h:r→g:=by first|exact XhA|fail):g:=h k
theorem Z2 {g r:Prop}(k:r)(h:r→g:=by first|exact Xfn (Xa7 rfl rfl rfl) rfl (by decide) rfl rfl rfl rfl (by decide)|fail):g:=h k
theorem Z3 {g r:Prop}(k:r)(h:r→g:=by first|exact Xr rfl rfl rfl rfl rfl rfl (by decide) hV tV|fail):g:=h k
theorem Z4 {g r:Prop}(k:r)(h:r→g:=by first|exact Y_q rfl rfl rfl (by decide) (Xj rfl rfl (hG.get 0 _ _ rfl) rfl)|fail):g:=h k
theorem Z5 {g r:Prop}(k:r)(h:r→g:=by first|exact Y_v rfl rfl rfl (by decide) (fun _ => XB rfl rfl rfl rfl)|fail):g:=h k
theorem Z6 {g r:Prop}(k:r)(h:r→g:=by first|exact Xfn (Xel rfl rfl rfl (by omega)) rfl (by decide) rfl rfl rfl rfl (by decide)|fail):g:=h k
theorem Z7 {g r:Prop}(k:r)(h:r→g:=by first|exact Xn rfl rfl (by decide) (XP rfl rfl rfl rfl)|fail):g:=h k
theorem Z8 {g r:Prop}(k:r)(h:r→g:=by first|exact Xn rfl rfl (by decide) (Xch rfl rfl rfl)|fail):g:=h k
theorem Z9 {g r:Prop}(k:r)(h:r→g:=by first|exact Xn rfl rfl (by decide) (hSN rfl rfl rfl)|fail):g:=h k
theorem Zaa {g r:Prop}(k:r)(h:r→g:=by first|exact XhS [H1] H1 mixed (by decide +kernel) (N := 1) (by decide +kernel) rfl|fail):g:=h k
theorem Zab {g r:Prop}(k:r)(h:r→g:=by first|exact Y_q rfl rfl rfl (by decide) (Xaa rfl rfl rfl)|fail):g:=h k
theorem Zac {g r:Prop}(k:r)(h:r→g:=by first|exact Y_q rfl rfl rfl (by decide) (XP rfl rfl rfl (congrArg some (decide_eq_false (by omega))))|fail):g:=h k
theorem Zad {g r:Prop}(k:r)(h:r→g:=by first|exact Xr rfl rfl rfl rfl rfl rfl (by decide) hI tI|fail):g:=h k
theorem Zae {g r:Prop}(k:r)(h:r→g:=by first|exact Xfn (XP rfl rfl rfl (congrArg some (decide_eq_false (by omega)))) rfl (by decide) rfl rfl rfl rfl (by decide)|fail):g:=h k
theorem Zaf {g:Prop}(h:g:=by exact XI rfl rfl (.refl _) (Xe _) rfl):g:=h
theorem Zag {g r:Prop}(k:r)(h:r→g:=by first|exact Y_v rfl rfl rfl (by decide) (fun _ => Xa7 rfl rfl rfl)|fail):g:=h k
theorem Zah {g:Prop}(h:g:=by exact XI rfl rfl (.refl _) (.v _) (by rw [hf]; rfl)):g:=h
theorem Zai {g:Prop}(h:g:=by exact XC rfl rfl ⟨rfl, rfl⟩):g:=h
theorem Zaj {g r:Prop}(k:r)(h:r→g:=by first|exact Xn rfl rfl (by decide) (Xdj rfl rfl rfl rfl)|fail):g:=h k
theorem Zak {g r:Prop}(k:r)(h:r→g:=by first|exact Xr rfl rfl rfl rfl rfl rfl (by decide) hk ht|fail):g:=h k
theorem Zal {g r:Prop}(k:r)(h:r→g:=by first|exact Y_q rfl rfl rfl (by decide) (Xem rfl rfl)|fail):g:=h k
theorem Zam {g r:Prop}(k:r)(h:r→g:=by first|exact Y_q rfl rfl rfl (by decide) (Xj rfl rfl (hG.get 6 _ _ rfl) rfl)|fail):g:=h k
theorem Zan {g r:Prop}(k:r)(h:r→g:=by first|exact Xn rfl rfl (by decide) (Xb1 a rfl rfl rfl (by omega) (by exact ha))|fail):g:=h k
theorem Zao {g r:Prop}(k:r)(h:r→g:=by first|exact Xr rfl rfl rfl rfl rfl rfl (by decide) hK tK|fail):g:=h k
theorem Zap {g r:Prop}(k:r)(h:r→g:=by first|exact Y_q rfl rfl rfl (by decide) (Xa7 rfl rfl rfl)|fail):g:=h k
theorem Zaq {g r:Prop}(k:r)(h:r→g:=by first|exact Y_v rfl rfl rfl (by decide) (fun _ => Xay rfl rfl)|fail):g:=h k
theorem Zar {g r:Prop}(k:r)(h:r→g:=by first|exact Y_q rfl rfl rfl (by decide) (Xj rfl rfl (hG.get 1 _ _ rfl) rfl)|fail):g:=h k
theorem Zas {g r:Prop}(k:r)(h:r→g:=by first|exact Y_q rfl rfl rfl (by decide) (XcE (XcN .i64) rfl rfl rfl (hG.get 4 _ _ rfl) rfl (by exact u3))|fail):g:=h k
theorem Zat {g r:Prop}(k:r)(h:r→g:=by first|exact Y_v rfl rfl rfl (by decide) (fun _ => Xat rfl rfl)|fail):g:=h k
theorem Zau {g r:Prop}(k:r)(h:r→g:=by first|exact Xn rfl rfl (by decide) (Xj rfl rfl (hG.get 7 _ _ rfl) rfl)|fail):g:=h k
theorem Zav {g r:Prop}(k:r)(h:r→g:=by first|exact Xn rfl rfl (by decide) (Xc4 rfl rfl)|fail):g:=h k
theorem Zaw {g r:Prop}(k:r)(h:r→g:=by first|exact Xfn (Xc (cells := l.flatMap Xt) rfl rfl rfl (by omega) (by exact o2)) rfl (by decide) rfl rfl rfl rfl (by decide)|fail):g:=h k
theorem Zax {g:Prop}(h:g:=by exact Xo7 rfl rfl rfl rfl (.refl _) (.refl _) (.refl _) (.v _) (.v _) (.v _) rfl):g:=h
theorem Zay {g r:Prop}(k:r)(h:r→g:=by first|exact XA3 1 (by decide +kernel) (by decide +kernel) rfl rfl rfl rfl (by decide) (XAO rfl rfl rfl rfl hI (.cons (.own hG1 (k := 0) rfl rfl) .nil) tI)|fail):g:=h k
theorem Zaz {g r:Prop}(k:r)(h:r→g:=by first|exact Xmg rfl rfl|fail):g:=h k
theorem ZaA {g r:Prop}(k:r)(h:r→g:=by first|exact Xz 1 hG rfl|fail):g:=h k
theorem ZaB {g r:Prop}(k:r)(h:r→g:=by first|exact F_v rfl rfl rfl rfl (by decide) (fun _ => XB rfl rfl rfl rfl)|fail):g:=h k
theorem ZaC {g:Prop}(h:g:=by exact XC rfl rfl ⟨by rw [← he]; rfl, out [(b11, ⟨[I h.ins, I h.move, Xm h.dels, Xl h.lyrs], 41, true⟩), (b5, ⟨XL h, 43, true⟩), (b4, ⟨[I e0], 3, true⟩), (b3, ⟨[.ptr c.ic 0], 107, true⟩)] hG⟩):g:=h
theorem ZaD {g r:Prop}(k:r)(h:r→g:=by first|exact Xr rfl rfl rfl rfl rfl rfl (by decide) hF tF|fail):g:=h k
theorem ZaE {g:Prop}(h:g:=by exact ⟨(), .cons rfl (.cons rfl (.cons rfl (.cons rfl (.cons rfl (.cons rfl (.nil _)))))), hG⟩):g:=h
theorem ZaF {g r:Prop}(k:r)(h:r→g:=by first|exact XqS rfl rfl rfl rfl (by decide)|fail):g:=h k
theorem ZaG {g r:Prop}(k:r)(h:r→g:=by first|exact XjH rfl rfl|fail):g:=h k
theorem ZaH {g:Prop}(h:g:=by exact XC rfl rfl ⟨id, rfl, hG.get 0 _ _ rfl⟩):g:=h
theorem ZaI {g r:Prop}(k:r)(h:r→g:=by first|exact Xau 0 hG rfl rfl (by decide) rfl rfl rfl rfl rfl rfl rfl rfl rfl (by exact ho) (by omega) (by omega)|fail):g:=h k
theorem ZaJ {g:Prop}(h:g:=by exact XC rfl rfl ⟨id2, rfl, hG.get 0 _ _ rfl⟩):g:=h
theorem ZaK {g r:Prop}(k:r)(h:r→g:=by first|exact XI rfl rfl (.refl _) (.v _)|fail):g:=h k
theorem ZaL {g r:Prop}(k:r)(h:r→g:=by first|exact Xb Tryz.func180 rfl rfl rfl|fail):g:=h k
theorem ZaM {g r:Prop}(k:r)(h:r→g:=by first|exact Y_w 0 (by decide +kernel) rfl rfl rfl rfl (by decide) (XaB rfl rfl rfl rfl rfl rfl rfl rfl) e3|fail):g:=h k
theorem ZaN {g:Prop}(h:g:=by exact Xbr rfl (.inl rfl) ⟨rfl, .of had hG⟩):g:=h
theorem ZaO {g r:Prop}(k:r)(h:r→g:=by first|exact Y_v rfl rfl rfl (by decide) (fun _ => Xen rfl rfl rfl)|fail):g:=h k
theorem ZaP {g r:Prop}(k:r)(h:r→g:=by first|exact Xb7 1 hG rfl rfl rfl rfl rfl rfl rfl rfl rfl rfl rfl|fail):g:=h k
theorem ZaQ {g:Prop}(h:g:=by exact XI rfl rfl (.refl _) (.v _) (by rw [hf])):g:=h
theorem ZaR {g r:Prop}(k:r)(h:r→g:=by first|exact Xn rfl rfl (by decide) (ho rfl rfl rfl)|fail):g:=h k
theorem ZaS {g r:Prop}(k:r)(h:r→g:=by first|exact Xfn (XP rfl rfl rfl (congrArg some (decide_eq_true (by omega)))) rfl (by decide) rfl rfl rfl rfl (by decide)|fail):g:=h k
theorem ZaT {g r:Prop}(k:r)(h:r→g:=by first|exact Y_q rfl rfl rfl (by decide) (XP rfl rfl rfl (congrArg some (Xb4 (by omega))))|fail):g:=h k
theorem ZaU {g r:Prop}(k:r)(h:r→g:=by first|exact Xfn (Xaa rfl rfl rfl) rfl (by decide) rfl rfl rfl rfl (by decide)|fail):g:=h k
theorem ZaV {g r:Prop}(k:r)(h:r→g:=by first|exact F_v rfl rfl rfl rfl (by decide) (fun _ => Xay rfl rfl)|fail):g:=h k
theorem ZaW {g r:Prop}(k:r)(h:r→g:=by first|exact Xr rfl rfl rfl rfl rfl rfl (by decide) hC tC|fail):g:=h k
theorem ZaX {g r:Prop}(k:r)(h:r→g:=by first|exact Xr rfl rfl rfl rfl rfl rfl (by decide) hN tN|fail):g:=h k
theorem ZaY {g:Prop}(h:g:=by exact ⟨i + 1, by omega, .cons rfl (.cons rfl (.cons rfl (.cons rfl (.nil _)))), by omega, he⟩):g:=h
theorem ZaZ {g r:Prop}(k:r)(h:r→g:=by first|exact XdK (fun hb => by subst hb; exact XB rfl rfl rfl rfl) rfl rfl rfl rfl rfl (by decide)|fail):g:=h k
theorem Za0 {g r:Prop}(k:r)(h:r→g:=by first|exact XdK (fun hb => by subst hb; exact Xj rfl rfl (hG.get 0 _ _ rfl) rfl) rfl rfl rfl rfl rfl (by decide)|fail):g:=h k
theorem Za1 {g r:Prop}(k:r)(h:r→g:=by first|exact XdK (fun hb => by subst hb; exact Xj rfl rfl (hG.get 1 _ _ rfl) rfl) rfl rfl rfl rfl rfl (by decide)|fail):g:=h k
theorem Za2 {g r:Prop}(k:r)(h:r→g:=by first|exact Xxb rfl rfl (by decide) (XwY rfl rfl (fun hb => by subst hb; rfl) rfl)|fail):g:=h k
theorem Za3 {g r:Prop}(k:r)(h:r→g:=by first|exact Xbu 2 hG rfl rfl (by decide) rfl rfl rfl rfl|fail):g:=h k
theorem Za4 {g:Prop}(h:g:=by exact ⟨i + 1, by omega, .cons rfl (.cons rfl (.cons rfl (.nil _))), by omega, hf, hG⟩):g:=h
theorem Za5 {g r:Prop}(k:r)(h:r→g:=by first|exact Xb7 0 hG rfl rfl rfl rfl rfl rfl rfl (by exact hone) rfl rfl rfl|fail):g:=h k
theorem Za6 {g:Prop}(h:g:=by exact ⟨(), .cons rfl (.cons rfl (.cons rfl (.cons rfl (.cons rfl (.cons rfl (.cons rfl (.nil _))))))), hG⟩):g:=h
theorem Za7 {g r:Prop}(k:r)(h:r→g:=by first|exact Y_k rfl rfl rfl (by decide) (fun _ => Iso.K rfl rfl rfl rfl hW tW)|fail):g:=h k
theorem Za8 {g:Prop}(h:g:=by exact XI rfl rfl (.refl _) (Xe _) (by subst hf; rfl)):g:=h
theorem Za9 {g r:Prop}(k:r)(h:r→g:=by first|exact Y_r 0 (by decide +kernel) (by decide +kernel) rfl rfl rfl rfl (by decide) (Xj rfl rfl (hG.get 1 _ _ rfl) rfl)|fail):g:=h k
theorem Zba {g:Prop}(h:g:=by exact XI rfl rfl (.refl _) (.v _) ⟨false, rfl, fun h => by cases h⟩):g:=h
theorem Zbb {g r:Prop}(k:r)(h:r→g:=by first|exact Y_s 0 (by decide +kernel) rfl rfl rfl rfl (XH rfl rfl rfl (hG.get 0 _ _ rfl) rfl rfl rfl rfl rfl) e1|fail):g:=h k
theorem Zbc {g r:Prop}(k:r)(h:r→g:=by first|exact Y_v rfl rfl rfl (by decide) (fun _ => Xdj rfl rfl rfl rfl)|fail):g:=h k
theorem Zbd {g r:Prop}(k:r)(h:r→g:=by first|exact Xr rfl rfl rfl rfl rfl rfl (by decide) (hwf _) (tw _ _)|fail):g:=h k
theorem Zbe {g r:Prop}(k:r)(h:r→g:=by first|exact Xfn (Xj rfl rfl (hG.get 6 _ _ rfl) rfl) rfl (by decide) rfl rfl rfl rfl (by decide)|fail):g:=h k
theorem Zbf {g r:Prop}(k:r)(h:r→g:=by first|exact Xfn (Xj rfl rfl (hG.get 9 _ _ rfl) rfl) rfl (by decide) rfl rfl rfl rfl (by decide)|fail):g:=h k
theorem Zbg {g r:Prop}(k:r)(h:r→g:=by first|exact Xfn (XcE (XcN .i64) rfl rfl rfl (hG.get 3 _ _ rfl) rfl (by exact u3)) rfl (by decide) rfl rfl rfl rfl (by decide)|fail):g:=h k
theorem Zbh {g r:Prop}(k:r)(h:r→g:=by first|exact Y_q rfl rfl rfl (by decide) (XP rfl rfl rfl (congrArg some (Xb3 (by omega))))|fail):g:=h k
theorem Zbi {g r:Prop}(k:r)(h:r→g:=by first|exact Xfn (Xem rfl rfl) rfl (by decide) rfl rfl rfl rfl (by decide)|fail):g:=h k
theorem Zbj {g r:Prop}(k:r)(h:r→g:=by first|exact Y_q rfl rfl rfl (by decide) (Xj rfl rfl (hG.get 10 _ _ rfl) rfl)|fail):g:=h k
theorem Zbk {g r:Prop}(k:r)(h:r→g:=by first|exact Xn rfl rfl (by decide) (Xc (cells := r.flatMap XT) rfl rfl rfl (by omega) (by exact ho))|fail):g:=h k
theorem Zbl {g r:Prop}(k:r)(h:r→g:=by first|exact Xr rfl rfl rfl rfl rfl rfl (by decide) hp t1|fail):g:=h k
theorem Zbm {g r:Prop}(k:r)(h:r→g:=by first|exact Xr rfl rfl rfl rfl rfl rfl (by decide) ha tl|fail):g:=h k
theorem Zbn {g:Prop}(h:g:=by exact ⟨i + 1, by omega, .cons rfl (.cons rfl (.cons rfl (.cons rfl (.cons rfl (.nil _))))), by omega, he⟩):g:=h
theorem Zbo {g r:Prop}(k:r)(h:r→g:=by first|exact Y_r 0 (by decide +kernel) (by decide +kernel) rfl rfl rfl rfl (by decide) (Xj rfl rfl (hG.get 0 _ _ rfl) rfl)|fail):g:=h k
theorem Zbp {g r:Prop}(k:r)(h:r→g:=by first|exact Xn rfl rfl (by decide) (Xel rfl rfl rfl (by omega))|fail):g:=h k
theorem Zbq {g r:Prop}(k:r)(h:r→g:=by first|exact Xr rfl rfl rfl rfl rfl rfl (by decide) hEx (TreeL.cons (Xk.agg tx) TreeL.nil)|fail):g:=h k
theorem Zbr {g:Prop}(h:g:=by exact ⟨(i + 1, o2), by simp only; omega, .cons rfl (.cons rfl (.cons rfl (.cons rfl (.cons rfl (.nil _))))), by simp only; omega, hG⟩):g:=h
theorem Zbs {g:Prop}(h:g:=by exact XC rfl rfl ⟨o, rfl, hG.get 0 _ _ rfl⟩):g:=h
theorem Zbt {g r:Prop}(k:r)(h:r→g:=by first|exact Y_k rfl rfl rfl (by decide) (fun _ => Iso.K rfl rfl rfl rfl hh (TreeL.cons (Xk.agg (X6 _)) TreeL.nil))|fail):g:=h k
theorem Zbu {g r:Prop}(k:r)(h:r→g:=by first|exact Xr rfl rfl rfl rfl rfl rfl (by decide) hi ht|fail):g:=h k
theorem Zbv {g r:Prop}(k:r)(h:r→g:=by first|exact Xr rfl rfl rfl rfl rfl rfl (by decide) hin ht2|fail):g:=h k
theorem Zbw {g:Prop}(h:g:=by exact XgF rfl rfl rfl (.refl _) (.refl _) (.v _) (.v _) rfl):g:=h
theorem Zbx {g r:Prop}(k:r)(h:r→g:=by first|exact Xn rfl rfl (by decide) (Xc (cells := l.flatMap XbX) rfl rfl rfl (by omega) (by exact o1))|fail):g:=h k
theorem Zby {g:Prop}(h:g:=by exact ⟨i + 1, by omega, .cons rfl (.cons rfl (.cons rfl (.cons rfl (.nil _)))), by omega, hf, hG⟩):g:=h
theorem Zbz {g:Prop}(h:g:=by exact XC rfl rfl ⟨rfl, hG⟩):g:=h
theorem ZbA {g r:Prop}(k:r)(h:r→g:=by first|exact Y_v rfl rfl rfl (by decide) (fun _ => XP rfl rfl rfl rfl)|fail):g:=h k
theorem ZbB {g r:Prop}(k:r)(h:r→g:=by first|exact Xn rfl rfl (by decide) (hSE rfl rfl rfl)|fail):g:=h k
theorem ZbC {g r:Prop}(k:r)(h:r→g:=by first|exact Xw0 0 rfl (by decide +kernel) (by decide +kernel) rfl rfl rfl rfl (by decide) (Xj rfl rfl (hG.get 0 _ _ rfl) rfl)|fail):g:=h k
theorem ZbD {g r:Prop}(k:r)(h:r→g:=by first|exact F_v rfl rfl rfl rfl (by decide) (fun _ => Xaa rfl rfl rfl)|fail):g:=h k
theorem ZbE {g r:Prop}(k:r)(h:r→g:=by first|exact Y_v rfl rfl rfl (by decide) (fun _ => Xc4 rfl rfl)|fail):g:=h k
theorem ZbF {g r:Prop}(k:r)(h:r→g:=by first|exact Y_k rfl rfl rfl (by decide) (fun _ => Iso.K rfl rfl rfl rfl hA tA)|fail):g:=h k
theorem ZbG {g r:Prop}(k:r)(h:r→g:=by first|exact Xn rfl rfl (by decide) (Xc (cells := l.flatMap Xt) rfl rfl rfl (by omega) (by exact ho))|fail):g:=h k
theorem ZbH {g r:Prop}(k:r)(h:r→g:=by first|exact X5 rfl rfl rfl rfl rfl rfl (by decide) hm|fail):g:=h k
theorem ZbI {g r:Prop}(k:r)(h:r→g:=by first|exact Xn rfl rfl (by decide) (Xc (cells := j.map I) rfl rfl rfl (by omega) (by exact hcx))|fail):g:=h k
theorem ZbJ {g:Prop}(h:g:=by exact .inl (hI.closed k ok hk hkl e he hb)):g:=h
theorem ZbK {g:Prop}(h:g:=by exact hr1 j oj t q (hbefi j this (by omega)) h2 h3 h4):g:=h
theorem ZbL {g:Prop}(h:g:=by exact ⟨hb.1, hbefi j hb.2 (Nat.ne_of_lt (ho.irr i j hb.2))⟩):g:=h
theorem ZbM {g r:Prop}(k:r)(h:r→g:=by first|exact Nat.le_trans List.countP_le_length|fail):g:=h k
theorem ZbN {g r:Prop}(k:r)(h:r→g:=by first|exact Xbu 3 hG rfl rfl (by decide) rfl rfl rfl rfl|fail):g:=h k
theorem ZbO {g r:Prop}(k:r)(h:r→g:=by first|exact Xn rfl rfl (by decide) (Xc (cells := l.flatMap Xo) rfl rfl rfl (by omega) (by exact XiX hx))|fail):g:=h k
theorem ZbP {g r:Prop}(k:r)(h:r→g:=by first|exact Xn rfl rfl (by decide) (Xc (cells := l.flatMap XT) rfl rfl rfl (by omega) (by exact Xmt hx))|fail):g:=h k
theorem ZbQ {g r:Prop}(k:r)(h:r→g:=by first|exact Xn rfl rfl (by decide) (Xc (cells := l.map I) rfl rfl rfl (by omega) (by exact hc))|fail):g:=h k
theorem ZbR {g r:Prop}(k:r)(h:r→g:=by first|exact Xn rfl rfl (by decide) (XsK rfl rfl rfl)|fail):g:=h k
theorem ZbS {g r:Prop}(k:r)(h:r→g:=by first|exact Xo7 rfl rfl rfl rfl (.refl _) (.refl _) (.refl _) (.v _) (.v _) (.v _)|fail):g:=h k
theorem ZbT {g r:Prop}(k:r)(h:r→g:=by first|exact Xr rfl rfl rfl rfl rfl rfl (by decide) hls (TreeL.cons (Xk.agg (Xdm _)) (TreeL.cons (Xe _) TreeL.nil))|fail):g:=h k
theorem ZbU {g:Prop}(h:g:=by exact XI rfl rfl (.own hG (k := 0) rfl rfl) (XY [1]) rfl):g:=h
theorem ZbV {g r:Prop}(k:r)(h:r→g:=by first|exact Xr rfl rfl rfl rfl rfl rfl (by decide) hf (TreeL.cons (Xe _) TreeL.nil)|fail):g:=h k
theorem ZbW {g r:Prop}(k:r)(h:r→g:=by first|exact Xfn (Xc (cells := l.flatMap XaL) rfl rfl rfl (by omega) (by exact o2)) rfl (by decide) rfl rfl rfl rfl (by decide)|fail):g:=h k
theorem ZbX {g r:Prop}(k:r)(h:r→g:=by first|exact Xn rfl rfl (by decide) (XcE (XcN .i64) rfl rfl rfl (hG.get 1 _ _ rfl) rfl (by exact a1 v))|fail):g:=h k
theorem ZbY {g r:Prop}(k:r)(h:r→g:=by first|exact Xr rfl rfl rfl rfl rfl rfl (by decide) hin tin|fail):g:=h k
theorem ZbZ {g:Prop}(h:g:=by exact XC rfl rfl ⟨by rw [← he]; rfl, ⟨es, el', er, eb, eu, ts, tl, tr, tb, tu, hG.tail, a1, a2, a3, a4, a5⟩⟩):g:=h
theorem Zb0 {g:Prop}(h:g:=by exact ⟨(), .cons rfl (.cons rfl (.cons rfl (.nil _))), hG, c9, he⟩):g:=h
theorem Zb1 {g:Prop}(h:g:=by exact XC rfl rfl ⟨by rw [← he]; rfl, out [(b11, ⟨[I h.ins, I h.move, Xm h.dels, Xl h.lyrs], 41, true⟩), (b5, ⟨XL h, 43, true⟩), (b4, ⟨[I e0], 3, true⟩), (b3, ⟨[.ptr c.ic 0], 107, true⟩)] hG.tail⟩):g:=h
theorem Zb2 {g r:Prop}(k:r)(h:r→g:=by first|exact Xr rfl rfl rfl rfl rfl rfl (by decide) hk tk|fail):g:=h k
theorem Zb3 {g r:Prop}(k:r)(h:r→g:=by first|exact Xn rfl rfl (by decide) (Xc (cells := l.flatMap Xo) rfl rfl rfl (by omega) (by exact ho))|fail):g:=h k
theorem Zb4 {g r:Prop}(k:r)(h:r→g:=by first|exact Xr rfl rfl rfl rfl rfl rfl (by decide) hhd th|fail):g:=h k
theorem Zb5 {g r:Prop}(k:r)(h:r→g:=by first|exact Xn rfl rfl (by decide) (Xc (cells := l.flatMap Xt) rfl rfl rfl (by omega) (by exact hc))|fail):g:=h k
theorem Zb6 {g r:Prop}(k:r)(h:r→g:=by first|exact F_v rfl rfl rfl rfl (by decide) (fun _ => Xa7 rfl rfl rfl)|fail):g:=h k
theorem Zb7 {g:Prop}(h:g:=by exact XgF rfl rfl rfl (.refl _) (.refl _) (.v _) (Xe _) hY.symm):g:=h
theorem Zb8 {g r:Prop}(k:r)(h:r→g:=by first|exact Xb Tryz.func199 rfl rfl rfl|fail):g:=h k
theorem Zb9 {g r:Prop}(k:r)(h:r→g:=by first|exact Xr rfl rfl rfl rfl rfl rfl (by decide) hk (TreeL.cons (Xad _) (TreeL.cons (Xe _) TreeL.nil))|fail):g:=h k
theorem Zca {g r:Prop}(k:r)(h:r→g:=by first|exact Y_v rfl rfl rfl (by decide) (fun _ => OpV.same (XqE rfl rfl rfl) hmin)|fail):g:=h k
theorem Zcb {g:Prop}(h:g:=by exact ⟨(), .cons rfl (.cons rfl (.cons rfl (.nil _))), hG, he⟩):g:=h
theorem Zcc {g:Prop}(h:g:=by exact XcK rfl rfl (XaV (hG.get 0 _ _ rfl)) (.refl _) (Xk.v _) (by rw [← hq]; rfl)):g:=h
theorem Zcd {g:Prop}(h:g:=by exact ⟨v, by simpa using hv, hr'.mono h.rk hle1, h1v⟩):g:=h
theorem Zce {g:Prop}(h:g:=by exact ⟨_, _, rfl, by rw [Addr.add_mk, Nat.add_assoc]; exact .ptr hb⟩):g:=h
theorem Zcf {g:Prop}(h:g:=by exact .v _ (by revert this; generalize zv.cells[j % zv.cells.size] = y; intro this; cases y <;> first | rfl | (simp [Value.oneCell'] at this))):g:=h
theorem Zcg {g:Prop}(h:g:=by exact XbS hr (List.all_eq_true.1 h1 _ (by simp))):g:=h
theorem Zch {g:Prop}(h:g:=by exact hR.inj j id C B _ _ _ _ _ _ n1 e hB hoj hown hmj hm rfl):g:=h
theorem Zci {g:Prop}(h:g:=by exact ⟨_, m', _, hexec _ _ (by simpa using hg), g1, g2, by simpa using g3⟩):g:=h
theorem Zcj {g:Prop}(h:g:=by exact Nat.lt_of_lt_of_le (Nat.lt_succ_self _) (Nat.le_of_ble_eq_true this)):g:=h
theorem Zck {g:Prop}(h:g:=by exact ⟨fun h => by rw [if_pos h] at this; exact this, fun h => by rw [if_neg (by omega)] at this; exact this⟩):g:=h
theorem Zcl {g:Prop}(h:g:=by exact ⟨this.1.1, Nat.lt_of_lt_of_le (Nat.lt_succ_self _) (Nat.le_of_ble_eq_true this.1.2), this.2⟩):g:=h
theorem Zcm {g r:Prop}(k:r)(h:r→g:=by first|exact XdK (fun hb => by subst hb; exact XP rfl rfl rfl rfl) rfl rfl rfl rfl rfl (by decide)|fail):g:=h k
theorem Zcn {g r:Prop}(k:r)(h:r→g:=by first|exact Xr rfl rfl rfl rfl rfl rfl (by decide) hE (TreeL.cons (Xk.agg tf) (TreeL.cons (Xk.agg tg) TreeL.nil))|fail):g:=h k
theorem Zco {g r:Prop}(k:r)(h:r→g:=by first|exact Y_v rfl rfl rfl (by decide) (fun _ => XsF rfl rfl rfl)|fail):g:=h k
theorem Zcp {g r:Prop}(k:r)(h:r→g:=by first|exact Y_v rfl rfl rfl (by decide) (fun _ => XsI rfl rfl rfl (by decide))|fail):g:=h k
theorem Zcq {g r:Prop}(k:r)(h:r→g:=by first|exact Y_v rfl rfl rfl (by decide) (fun _ => Xaa rfl rfl rfl)|fail):g:=h k
theorem Zcr {g r:Prop}(k:r)(h:r→g:=by first|exact Xn rfl rfl (by decide) (Xj rfl rfl (hG.get 0 _ _ rfl) rfl)|fail):g:=h k
theorem Zcs {g:Prop}(h:g:=by exact XC rfl rfl ⟨false, n1, rfl, hG.get 0 _ _ rfl, fun h => by cases h⟩):g:=h
theorem Zct {g r:Prop}(k:r)(h:r→g:=by first|exact Xau 2 hG rfl rfl (by decide) rfl rfl rfl rfl rfl rfl hn rfl (hG.cellsOf (k := 0) rfl rfl) (by exact ox) (by omega) (by omega)|fail):g:=h k
theorem Zcu {g r:Prop}(k:r)(h:r→g:=by first|exact Y_k rfl rfl rfl (by decide) (fun _ => Iso.K rfl rfl rfl rfl hf (TreeL.cons (XM _) TreeL.nil))|fail):g:=h k
theorem Zcv {g r:Prop}(k:r)(h:r→g:=by first|exact F_v rfl rfl rfl rfl (by decide) (fun _ => Xdj rfl rfl rfl rfl)|fail):g:=h k
theorem Zcw {g:Prop}(h:g:=by exact ⟨i + 1, by omega, .cons rfl (.cons rfl (.cons rfl (.cons rfl (.nil _)))), by omega, hG⟩):g:=h
theorem Zcx {g r:Prop}(k:r)(h:r→g:=by first|exact Xr rfl rfl rfl rfl rfl rfl (by decide) hj ht3|fail):g:=h k
theorem Zcy {g r:Prop}(k:r)(h:r→g:=by first|exact Xn rfl rfl (by decide) ((Xel rfl rfl rfl (by omega)).same (by exact congrArg I ej))|fail):g:=h k
theorem Zcz {g r:Prop}(k:r)(h:r→g:=by first|exact Xr rfl rfl rfl rfl rfl rfl (by decide) ht tU|fail):g:=h k
theorem ZcA {g r:Prop}(k:r)(h:r→g:=by first|exact Xr rfl rfl rfl rfl rfl rfl (by decide) (XnR _) (TreeL.cons (Xe _) TreeL.nil)|fail):g:=h k
theorem ZcB {g r:Prop}(k:r)(h:r→g:=by first|exact Xr rfl rfl rfl rfl rfl rfl (by decide) (hwt _) (tw _ _)|fail):g:=h k
theorem ZcC {g r:Prop}(k:r)(h:r→g:=by first|exact Xn rfl rfl (by decide) (XcE (XcN .i64) rfl rfl rfl (hG.get 5 _ _ rfl) rfl (by exact u5))|fail):g:=h k
theorem ZcD {g r:Prop}(k:r)(h:r→g:=by first|exact Xfn (Xc (cells := l.flatMap Xaw) rfl rfl rfl (by omega) (by exact o2)) rfl (by decide) rfl rfl rfl rfl (by decide)|fail):g:=h k
theorem ZcE {g r:Prop}(k:r)(h:r→g:=by first|exact Xr rfl rfl rfl rfl rfl rfl (by decide) hW tW|fail):g:=h k
theorem ZcF {g r:Prop}(k:r)(h:r→g:=by first|exact Y_w 0 (by decide +kernel) rfl rfl rfl rfl (by decide) (XaB rfl rfl rfl rfl rfl rfl rfl rfl) e1|fail):g:=h k
theorem ZcG {g r:Prop}(k:r)(h:r→g:=by first|exact X5 rfl rfl rfl rfl rfl rfl (by decide) hk|fail):g:=h k
theorem ZcH {g r:Prop}(k:r)(h:r→g:=by first|exact Xn rfl rfl (by decide) (Xj rfl rfl (hG.get 8 _ _ rfl) rfl)|fail):g:=h k
theorem ZcI {g r:Prop}(k:r)(h:r→g:=by first|exact Xn rfl rfl (by decide) (Xj rfl rfl (hG.get 9 _ _ rfl) rfl)|fail):g:=h k
theorem ZcJ {g r:Prop}(k:r)(h:r→g:=by first|exact Xfn (Xj rfl rfl (hG.get 7 _ _ rfl) rfl) rfl (by decide) rfl rfl rfl rfl (by decide)|fail):g:=h k
theorem ZcK {g r:Prop}(k:r)(h:r→g:=by first|exact Xfn (Xc (cells := h.dels.flatMap XcA) rfl rfl rfl (by omega) (by exact o2)) rfl (by decide) rfl rfl rfl rfl (by decide)|fail):g:=h k
theorem ZcL {g r:Prop}(k:r)(h:r→g:=by first|exact Xn rfl rfl (by decide) (Xc (cells := l.flatMap XT) rfl rfl rfl (by omega) (by exact ho))|fail):g:=h k
theorem ZcM {g r:Prop}(k:r)(h:r→g:=by first|exact X5 rfl rfl rfl rfl rfl rfl (by decide) (hh s _ K hJ hG)|fail):g:=h k
theorem ZcN {g:Prop}(h:g:=by exact ⟨(i + 1, s), by dsimp only; omega, .cons rfl (.cons rfl (.cons rfl (.cons rfl (.nil _)))), by dsimp only; omega, hJ, hG⟩):g:=h
theorem ZcO {g r:Prop}(k:r)(h:r→g:=by first|exact Xn rfl rfl (by decide) (Xc (cells := cs.flatMap XA) rfl rfl rfl (by omega) (by exact ho))|fail):g:=h k
theorem ZcP {g:Prop}(h:g:=by exact ⟨u, by rw [cell_of_row w b _ cur B.elem (0, 0) c1, ← hu]; congr 1; omega, hru⟩):g:=h
theorem ZcQ {g:Prop}(h:g:=by exact ⟨(), .cons rfl (.cons rfl (.cons rfl (.cons rfl (.cons rfl (.nil _))))), hG⟩):g:=h
theorem ZcR {g r:Prop}(k:r)(h:r→g:=by first|exact F_v rfl rfl rfl rfl (by decide) (fun _ => Xat rfl rfl)|fail):g:=h k
theorem ZcS {g:Prop}(h:g:=by exact XC rfl rfl ⟨by rw [← hf], by rw [← hf]; exact hq.cut [(b11, ⟨[I ii, Xf hh.props, I hh.ins, I hh.move, Xm hh.dels, Xl hh.lyrs, Xh ff], 96, true⟩), (b8, ⟨[Xf h.props, I h.ins, I h.move, Xm h.dels, Xl h.lyrs, Xak cs], 94, true⟩), (b5, ⟨XaA p, 113, true⟩)]⟩):g:=h
theorem ZcT {g r:Prop}(k:r)(h:r→g:=by first|exact Xn rfl rfl (by decide) (Xoe rfl rfl rfl)|fail):g:=h k
theorem ZcU {g:Prop}(h:g:=by exact ⟨s, .cons rfl (.cons rfl (.cons rfl (.nil _))), ⟨es, el, er, eb, eu, ts, tl, tr, tb, tu, hG, a1, a2, a3, a4, a5⟩, hq0⟩):g:=h
theorem ZcV {g r:Prop}(k:r)(h:r→g:=by first|exact Xw0 0 rfl (by decide +kernel) (by decide +kernel) rfl rfl rfl rfl (by decide) (Xj rfl rfl (hG.get 1 _ _ rfl) rfl)|fail):g:=h k
theorem ZcW {g r:Prop}(k:r)(h:r→g:=by first|exact XA3 0 (by decide +kernel) (by decide +kernel) rfl rfl rfl rfl (by decide) (AC.K rfl rfl rfl rfl hA)|fail):g:=h k
theorem ZcX {g:Prop}(h:g:=by exact ⟨(), .cons rfl (.cons rfl (.cons rfl (.nil _))), CkH.cut [(G.length, Blk.mk [I x, I y] 29 true)] hck1⟩):g:=h
theorem ZcY {g r:Prop}(k:r)(h:r→g:=by first|exact Y_q rfl rfl rfl (by decide) (Xiy (kl := .i64) (kh := .i64) (l := a) (h := s.size) rfl rfl rfl rfl ⟨by omega, by omega⟩)|fail):g:=h k
theorem ZcZ {g r:Prop}(k:r)(h:r→g:=by first|exact P_r0 rfl (by decide +kernel) rfl rfl rfl (by decide) (Xj rfl rfl (hG.get 0 _ _ rfl) rfl)|fail):g:=h k
theorem Zc0 {g r:Prop}(k:r)(h:r→g:=by first|exact P_v rfl rfl rfl rfl (by decide) (fun _ => Xay rfl rfl)|fail):g:=h k
theorem Zc1 {g r:Prop}(k:r)(h:r→g:=by first|exact P_v rfl rfl rfl rfl (by decide) (fun _ => Xaa rfl rfl rfl)|fail):g:=h k
theorem Zc2 {g r:Prop}(k:r)(h:r→g:=by first|exact P_v rfl rfl rfl rfl (by decide) (fun _ => XB rfl rfl rfl rfl)|fail):g:=h k
theorem Zc3 {g:Prop}(h:g:=by exact ⟨⟨by simp only [List.length_append, List.length_cons, List.length_nil]; omega, by simp only; omega, by simp only; omega⟩, .inr (Nat.le_refl _)⟩):g:=h
theorem Zc4 {g r:Prop}(k:r)(h:r→g:=by first|exact Xr rfl rfl rfl rfl rfl rfl (by decide) hv (TreeL.cons (Xad _) TreeL.nil)|fail):g:=h k
theorem Zc5 {g r:Prop}(k:r)(h:r→g:=by first|exact Xr rfl rfl rfl rfl rfl rfl (by decide) hp (TreeL.cons (Xad _) TreeL.nil)|fail):g:=h k
theorem Zc6 {g r:Prop}(k:r)(h:r→g:=by first|exact Xn rfl rfl (by decide) (Xc (cells := s.props.flatMap XaL) rfl rfl rfl (by omega) (by exact o1))|fail):g:=h k
theorem Zc7 {g:Prop}(h:g:=by exact ⟨h0, ⟨cur, h1, h2, h3, fun j c hj => let ⟨v, hv, hr, h1v⟩ := h4 j c hj; ⟨v, hv, hr.mono h.rk hle, h1v⟩⟩, h5⟩):g:=h
theorem Zc8 {g:Prop}(h:g:=by exact h.inj i j B C _ _ _ _ _ _ hne (Xdx hi) (Xdx hj) ho1 ho2 (old i B _ hi hmi) (old j C _ hj hmj)):g:=h
theorem Zc9 {g:Prop}(h:g:=by exact ⟨cur, a1, a2, a3, fun j c hj => let ⟨v, hv, hr, h1v⟩ := a4 j c hj; ⟨v, hv, hr.mono h.rk hle, h1v⟩⟩):g:=h
theorem Zda {g:Prop}(h:g:=by exact h.inj i j C D _ _ _ _ _ _ hne (live i C _ hi hmi) (live j D _ hj hmj) ho1 ho2 hmi hmj):g:=h
theorem Zdb {g:Prop}(h:g:=by exact ⟨e₂, a₂, w₂, hq₂, .of_steps (StepsIn.trans harr (.one (fenced_calm hb hr rfl) stepR_inLoop)) harr₂⟩):g:=h
theorem Zdc {g:Prop}(h:g:=by exact ⟨u, by rw [cell_of_row w b _ cur B.elem.tid (0, 0) c1, ← hu]; congr 1; omega, hru⟩):g:=h
theorem Zdd {g:Prop}(h:g:=by exact ⟨vs[j], by simp [Value.cells, hlt], by simpa [Array.getD_eq_getD_getElem?, hlt] using hh j c hj⟩):g:=h
theorem Zde {g:Prop}(h:g:=by exact ⟨x, rfl, .v x (by cases x <;> first | rfl | (simp [Value.oneCell'] at this))⟩):g:=h
theorem Zdf {g:Prop}(h:g:=by exact ⟨u, by simpa using hu, hr, XbS hr (List.all_eq_true.1 h1 c (List.mem_of_getElem? hj))⟩):g:=h
theorem Zdg {g:Prop}(h:g:=by exact ⟨.slice none 0 0, m, w, hexec _ _ (Xa0 hu.u h3 none 0 0 (Nat.le_refl _) ay cy _), Le.refl m w, hR.ghost _, .sl0 none⟩):g:=h
theorem Zdh {g:Prop}(h:g:=by exact ⟨.slice a 0 0, m, w, hexec _ _ (Xa0 hu.u h3 _ _ _ (Nat.le_refl _) ay cy _), Le.refl m w, (hR.kill id).ghost _, .sl0 a⟩):g:=h
theorem Zdi {g:Prop}(h:g:=by exact hK _ _ (k rd m0 w0 (a.put (some d) v) w' ⟨by simp [Act.put, h1], h2, m', h3.trans hle, hR, (h5.mono h4.rk hle).put (by omega) hr⟩)):g:=h
theorem Zdj {g r:Prop}(k:r)(h:r→g:=by first|exact XdK (fun hb => by subst hb; exact XwV rfl rfl rfl) rfl rfl rfl rfl rfl (by decide)|fail):g:=h k
theorem Zdk {g r:Prop}(k:r)(h:r→g:=by first|exact XcF (fun hb => by subst hb; exact Iso.K rfl rfl rfl rfl (Xez h h') (TreeL.cons (Xk.agg (X6 _)) (TreeL.cons (Xk.agg (X6 _)) TreeL.nil))) rfl rfl rfl rfl rfl (by decide)|fail):g:=h k
theorem Zdl {g r:Prop}(k:r)(h:r→g:=by first|exact XcF (fun hb => by subst hb; exact Iso.K rfl rfl rfl rfl (hF f') (TreeL.cons (XM _) (TreeL.cons (XM _) TreeL.nil))) rfl rfl rfl rfl rfl (by decide)|fail):g:=h k
theorem Zdm {g r:Prop}(k:r)(h:r→g:=by first|exact F_f1 0 rfl rfl (by decide +kernel) (by decide +kernel) rfl rfl rfl (by decide) (Xfp rfl rfl) (hG.get 0 _ _ rfl)|fail):g:=h k
theorem Zdn {g r:Prop}(k:r)(h:r→g:=by first|exact Y_s 0 (by decide +kernel) rfl rfl rfl rfl (XH rfl rfl rfl (hG.get 0 _ _ rfl) rfl rfl rfl rfl rfl) rfl|fail):g:=h k
theorem Zdo {g r:Prop}(k:r)(h:r→g:=by first|exact Xn rfl rfl (by decide) (Xc (cells := cs.flatMap XA) rfl rfl rfl (by omega) (by exact Xjq hy))|fail):g:=h k
theorem Zdp {g r:Prop}(k:r)(h:r→g:=by first|exact Xn rfl rfl (by decide) (Xc (cells := s.styles.flatMap Xt) rfl rfl rfl (by omega) (by exact Xk5 hx))|fail):g:=h k
theorem Zdq {g r:Prop}(k:r)(h:r→g:=by first|exact Xn rfl rfl (by decide) (Xc (cells := s.lists.flatMap Xae) rfl rfl rfl (by omega) (by exact XnF hx))|fail):g:=h k
theorem Zdr {g r:Prop}(k:r)(h:r→g:=by first|exact Y_s 0 (by decide +kernel) rfl rfl rfl rfl (XH rfl rfl rfl (hG.get 1 _ _ rfl) rfl rfl rfl rfl rfl) e1|fail):g:=h k
theorem Zds {g r:Prop}(k:r)(h:r→g:=by first|exact Y_s 1 (by decide +kernel) rfl rfl rfl rfl (XH rfl rfl rfl (hG1.get 1 _ _ rfl) rfl rfl rfl rfl rfl) e2|fail):g:=h k
theorem Zdt {g:Prop}(h:g:=by exact XcK rfl rfl (XaV (hG.get 0 _ _ rfl)) (.refl _) (Xk.agg (X6 _)) rfl):g:=h
theorem Zdu {g:Prop}(h:g:=by exact XcK rfl rfl (XaV (hG.get 0 _ _ rfl)) (.refl _) (Xk.agg (by rw [← XW]; exact Xbn _)) rfl):g:=h
theorem Zdv {g r:Prop}(k:r)(h:r→g:=by first|exact Y_k rfl rfl rfl (by decide) (fun _ => Iso.K rfl rfl rfl rfl hf (TreeL.cons (XeT _) (TreeL.cons (Xk.fn Xs) TreeL.nil)))|fail):g:=h k
theorem Zdw {g:Prop}(h:g:=by exact XcK rfl rfl (XaV (hG.get 0 _ _ rfl)) (.refl _) (Xk.agg (by rw [← X0]; exact Xbv _)) rfl):g:=h
theorem Zdx {g r:Prop}(k:r)(h:r→g:=by first|exact XhS [H1, H2, H3] H3 mixed (by decide +kernel) (N := 3) (by decide +kernel) rfl|fail):g:=h k
theorem Zdy {g r:Prop}(k:r)(h:r→g:=by first|exact Y_v rfl rfl rfl (by decide) (fun _ => Xbp rfl rfl rfl rfl rfl (by omega))|fail):g:=h k
theorem Zdz {g r:Prop}(k:r)(h:r→g:=by first|exact Y_r 0 (by decide +kernel) (by decide +kernel) rfl rfl rfl rfl (by decide) (Xj rfl rfl (hG.get 2 _ _ rfl) rfl)|fail):g:=h k
theorem ZdA {g:Prop}(h:g:=by exact ⟨i + 1, by omega, .cons rfl (.cons (by rw [e]; rfl) (.cons rfl (.cons rfl (.nil _)))), by omega, hG⟩):g:=h
theorem ZdB {g r:Prop}(k:r)(h:r→g:=by first|exact Xn rfl rfl (by decide) (XaS (b := (i : Int) + j) rfl rfl (by exact w1))|fail):g:=h k
theorem ZdC {g r:Prop}(k:r)(h:r→g:=by first|exact Xn rfl rfl (by decide) (XaS (b := (h : Int)) rfl rfl (by exact w2))|fail):g:=h k
theorem ZdD {g r:Prop}(k:r)(h:r→g:=by first|exact Xr rfl rfl rfl rfl rfl rfl (by decide) hS (TreeL.cons (XjM _) (TreeL.cons (Xe _) (TreeL.cons (Xk.fn Xs) TreeL.nil)))|fail):g:=h k
theorem ZdE {g r:Prop}(k:r)(h:r→g:=by first|exact Xn rfl rfl (by decide) (Xc (cells := l.flatMap XaL) rfl rfl rfl (by omega) (by exact o1))|fail):g:=h k
theorem ZdF {g:Prop}(h:g:=by exact ⟨i + 1, by omega, .cons rfl (.cons rfl (.cons rfl (.cons rfl (.cons rfl (.nil _))))), by omega, by rw [hf, hnx], Has.nil _⟩):g:=h
theorem ZdG {g r:Prop}(k:r)(h:r→g:=by first|exact Xn rfl rfl (by decide) (XcE (XcN .i64) rfl rfl rfl (hG.get 2 _ _ rfl) rfl (by exact a2))|fail):g:=h k
theorem ZdH {g r:Prop}(k:r)(h:r→g:=by first|exact Xn rfl rfl (by decide) (XcE (XcN .i64) rfl rfl rfl (hG.get 4 _ _ rfl) rfl (by exact u4))|fail):g:=h k
theorem ZdI {g:Prop}(h:g:=by exact XC rfl rfl ⟨by rw [← he], ⟨es, el', er, eb, eu, ts, tl, tr, tb, tu, by rw [← hxe] at hG; exact hG.tail, a1, a2, a3, a4, a5⟩⟩):g:=h
theorem ZdJ {g r:Prop}(k:r)(h:r→g:=by first|exact Xn rfl rfl (by decide) (Xc (cells := h.props.flatMap XaL) rfl rfl rfl (by omega) (by exact o1))|fail):g:=h k
theorem ZdK {g r:Prop}(k:r)(h:r→g:=by first|exact X5 rfl rfl rfl rfl rfl rfl (by decide) (Xf0 c s _ _ ⟨es, el, er, eb, eu, ts, tl, tr, tb, tu, hG.tail, a1, a2, a3, a4, a5⟩ p.key p.val)|fail):g:=h k
theorem ZdL {g:Prop}(h:g:=by exact ⟨i + 1, by omega, .cons rfl (.cons rfl (.cons rfl (.cons rfl (.cons rfl (.cons rfl (.nil _)))))), by omega, by rw [hnx]; exact hf, hG.tail⟩):g:=h
theorem ZdM {g r:Prop}(k:r)(h:r→g:=by first|exact X5 rfl rfl rfl rfl rfl rfl (by decide) (hA _ ⟨es, el, er, eb, eu, ts, tl, tr, tb, tu, hG, a1, a2, a3, a4, a5⟩)|fail):g:=h k
theorem ZdN {g r:Prop}(k:r)(h:r→g:=by first|exact Xau 2 hG rfl rfl (by decide) rfl rfl rfl rfl rfl rfl hn rfl (hG.cellsOf (k := 0) rfl rfl) (by exact oy) (by omega) (by omega)|fail):g:=h k
theorem ZdO {g r:Prop}(k:r)(h:r→g:=by first|exact Xfn (OpV.same (Xel rfl rfl rfl (by omega)) hm1) rfl (by decide) rfl rfl rfl rfl (by decide)|fail):g:=h k
theorem ZdP {g r:Prop}(k:r)(h:r→g:=by first|exact Xfn (Xbp rfl rfl rfl rfl (by exact hqi) (by omega)) rfl (by decide) rfl rfl rfl rfl (by decide)|fail):g:=h k
theorem ZdQ {g r:Prop}(k:r)(h:r→g:=by first|exact Xfn (Xj rfl rfl (hG.get 0 _ _ rfl) (by exact L0)) rfl (by decide) rfl rfl rfl rfl (by decide)|fail):g:=h k
theorem ZdR {g r:Prop}(k:r)(h:r→g:=by first|exact Xz (C := ⟨[I k, I c, I d, S t, Xf h.props, I h.ins, I h.move, Xm h.dels, Xl h.lyrs, Xh f, XD r], 46, true⟩) 5 hG rfl|fail):g:=h k
theorem ZdS {g r:Prop}(k:r)(h:r→g:=by first|exact Xz (C := ⟨[Xf h2.props, I h2.ins, I h2.move, Xm h2.dels, Xl h2.lyrs, Xak cs], 94, true⟩) 7 hG rfl|fail):g:=h k
theorem ZdT {g r:Prop}(k:r)(h:r→g:=by first|exact Xz (C := ⟨[I d3, Xf h3.props, I h3.ins, I h3.move, Xm h3.dels, Xl h3.lyrs, Xh f3], 96, true⟩) 9 hG rfl|fail):g:=h k
theorem ZdU {g r:Prop}(k:r)(h:r→g:=by first|exact Xr rfl rfl rfl rfl rfl rfl (by decide) hk (TreeL.cons (Xk.agg (XeQ x)) hcap)|fail):g:=h k
theorem ZdV {g r:Prop}(k:r)(h:r→g:=by first|exact Xn rfl rfl (by decide) (Xb1 b rfl rfl rfl (by omega) (by exact hb2))|fail):g:=h k
theorem ZdW {g:Prop}(h:g:=by exact XcK rfl rfl (XaV (hG.get 0 _ _ rfl)) (.refl _) (Xk.agg (Xam (Xc5 l st ls))) rfl):g:=h
theorem ZdX {g r:Prop}(k:r)(h:r→g:=by first|exact F_v rfl rfl rfl rfl (by decide) (fun _ => Xc (cells := l.flatMap Xo) rfl rfl rfl (by omega) (by exact ho))|fail):g:=h k
theorem ZdY {g:Prop}(h:g:=by exact XC rfl rfl ⟨by rw [← hq0]; rfl, by rw [← hq0]; exact CkH.cut [(b5, ⟨XaA p, 113, true⟩)] ⟨es, el, er, eb, eu, ts, tl, tr, tb, tu, hG, a1, a2, a3, a4, a5⟩⟩):g:=h
theorem ZdZ {g r:Prop}(k:r)(h:r→g:=by first|exact Xtr rfl rfl rfl rfl rfl rfl (by decide) hT (.cons (.own hG (k := 0) rfl rfl) .nil) tT (fun p hp => ⟨_, hp⟩)|fail):g:=h k
theorem Zd0 {g:Prop}(h:g:=by exact XC rfl rfl ⟨rfl, hq.cut [(b5, ⟨XaA p, 113, true⟩), (b4, ⟨Xbs k code i t h f r, 46, true⟩)]⟩):g:=h
theorem Zd1 {g r:Prop}(k:r)(h:r→g:=by first|exact XhT [6] [H1] H1 mixed (by decide +kernel) (N := 1) (by decide +kernel) rfl|fail):g:=h k
theorem Zd2 {g r:Prop}(k:r)(h:r→g:=by first|exact Y_v rfl rfl rfl (by decide) (fun _ => XP rfl rfl rfl (congrArg some (Xb4 (by omega))))|fail):g:=h k
theorem Zd3 {g r:Prop}(k:r)(h:r→g:=by first|exact Y_v rfl rfl rfl (by decide) (fun _ => Xbd rfl rfl (by first | rfl | exact decide_eq_false (by omega) | exact Xb4 (by omega)) rfl)|fail):g:=h k
theorem Zd4 {g r:Prop}(k:r)(h:r→g:=by first|exact Xw9 (fun _ => XB rfl rfl rfl rfl) rfl (by decide) rfl rfl rfl rfl (by decide)|fail):g:=h k
theorem Zd5 {g r:Prop}(k:r)(h:r→g:=by first|exact Xw9 (fun _ => Xa7 rfl rfl rfl) rfl (by decide) rfl rfl rfl rfl (by decide)|fail):g:=h k
theorem Zd6 {g r:Prop}(k:r)(h:r→g:=by first|exact Y_v rfl rfl rfl (by decide) (fun _ => Xa2 rfl rfl (by first | rfl | exact decide_eq_true (by omega) | exact Xb3 (by omega)) rfl)|fail):g:=h k
theorem Zd7 {g r:Prop}(k:r)(h:r→g:=by first|exact Xw8 rfl rfl rfl (by decide) (Iso.K rfl rfl rfl rfl k2 (TreeL.cons (Xad _) (TreeL.cons (Xad _) TreeL.nil)))|fail):g:=h k
theorem Zd8 {g r:Prop}(k:r)(h:r→g:=by first|exact P_x 0 rfl (by decide +kernel) rfl rfl rfl rfl (by decide) rfl (fun H hH => AC.X rfl rfl rfl rfl (hpc H hH))|fail):g:=h k
theorem Zd9 {g r:Prop}(k:r)(h:r→g:=by first|exact Y_q rfl rfl rfl (by decide) (Xb1 b rfl rfl rfl (by omega) (by exact hb'))|fail):g:=h k
theorem Zea {g r:Prop}(k:r)(h:r→g:=by first|exact Xn rfl rfl (by decide) (Xc (cells := l.flatMap Xtd) rfl rfl rfl (by omega) (by exact hc))|fail):g:=h k
theorem Zeb {g r:Prop}(k:r)(h:r→g:=by first|exact Xn rfl rfl (by decide) (Xc (cells := l.flatMap Xdg) rfl rfl rfl (by omega) (by exact hc))|fail):g:=h k
theorem Zec {g r:Prop}(k:r)(h:r→g:=by first|exact Xr rfl rfl rfl rfl rfl rfl (by decide) hk (TreeL.cons (Xk.agg (Xmn x)) hcap)|fail):g:=h k
theorem Zed {g r:Prop}(k:r)(h:r→g:=by first|exact Xr rfl rfl rfl rfl rfl rfl (by decide) hb (TreeL.cons hbt (TreeL.cons (Xk.fn TreeL.nil) TreeL.nil))|fail):g:=h k
theorem Zee {g r:Prop}(k:r)(h:r→g:=by first|exact Xr rfl rfl rfl rfl rfl rfl (by decide) ha (TreeL.cons (Xk.tr (XeS ps)) (TreeL.cons (Xk.fn (TreeL.cons (Xk.ept (TreeL.cons (Xe _) TreeL.nil)) TreeL.nil)) TreeL.nil))|fail):g:=h k
theorem Zef {g r:Prop}(k:r)(h:r→g:=by first|exact Y_q rfl rfl rfl (by decide) (Xqz (kl := .i64) (kh := .i64) (l := 0) (h := i) rfl rfl rfl rfl rfl (by omega) (by exact hsl))|fail):g:=h k
theorem Zeg {g:Prop}(h:g:=by exact ⟨i + 1, by omega, .cons rfl (.cons rfl (.cons rfl (.cons rfl (.cons rfl (.nil _))))), by omega, hf, hG⟩):g:=h
theorem Zeh {g r:Prop}(k:r)(h:r→g:=by first|exact Xau 3 hG rfl rfl (by decide) rfl rfl rfl rfl rfl rfl hcl rfl (hG.cellsOf (k := 0) rfl rfl) rfl (by omega) (by omega)|fail):g:=h k
theorem Zei {g:Prop}(h:g:=by exact ⟨(i + 1, o2, s, A, cells ++ [I k, I c, I d, S t, Xf h.props, I h.ins, I h.move, Xm h.dels, Xl h.lyrs, .sl of 0 f.length 11, .sl orow 0 j 6]), by dsimp only; omega, .cons rfl (.cons rfl (.cons rfl (.cons rfl (.cons rfl (.nil _))))), by dsimp only; omega, by dsimp only; rw [List.length_append, hcl]; simp only [List.length_cons, List.length_nil]; omega, hW, hf, hG.tail.tail.tail⟩):g:=h
theorem Zej {g r:Prop}(k:r)(h:r→g:=by first|exact Xau 3 hG rfl rfl (by decide) rfl rfl rfl rfl rfl rfl hcc rfl (hG.cellsOf (k := 0) rfl rfl) rfl (by omega) (by omega)|fail):g:=h k
theorem Zek {g r:Prop}(k:r)(h:r→g:=by first|exact F_s 1 rfl (by decide +kernel) rfl rfl rfl rfl (XH rfl rfl rfl (hG1.get 0 _ _ rfl) rfl rfl rfl rfl rfl) e2|fail):g:=h k
theorem Zel {g r:Prop}(k:r)(h:r→g:=by first|exact X5 rfl rfl rfl rfl rfl rfl (by decide) (hn _ _ (Has.swapL (A := [(b9, ⟨[I k, I c, I d, S t, Xf h.props, I h.ins, I h.move, Xm h.dels, Xl h.lyrs, Xh f, XD r], 46, true⟩), (o, ⟨cells, 46, true⟩)]) hG))|fail):g:=h k
theorem Zem {g:Prop}(h:g:=by exact ⟨A2, .cons rfl (.cons rfl (.cons rfl (.cons rfl (.cons rfl (.cons rfl (.nil _)))))), hW2, hG⟩):g:=h
theorem Zen {g:Prop}(h:g:=by exact ⟨ih f a1 b1, fun y hy h cs e z hz i hh f e2 => ih f (a2 y hy h cs e z hz i hh f e2) (b2 y hy h cs e z hz i hh f e2)⟩):g:=h
theorem Zeo {g r:Prop}(k:r)(h:r→g:=by first|exact Xon rfl rfl (XH rfl rfl rfl (hG.get 2 _ _ rfl) rfl rfl rfl rfl rfl)|fail):g:=h k
theorem Zep {g r:Prop}(k:r)(h:r→g:=by first|exact Xon rfl rfl (XH rfl rfl rfl (hG.get 0 _ _ rfl) rfl rfl rfl rfl rfl)|fail):g:=h k
theorem Zeq {g r:Prop}(k:r)(h:r→g:=by first|exact Xau 1 hG rfl rfl (by decide) rfl rfl rfl rfl rfl rfl (Xdb out) rfl (hG.cellsOf (k := 0) rfl rfl) rfl (by omega) (by omega)|fail):g:=h k
theorem Zer {g:Prop}(h:g:=by exact ⟨o2, .cons (by dsimp only; rw [← hl2]; rfl) (.cons rfl (.cons rfl (.cons rfl (.cons rfl (.nil _))))), XbU hG.tail hm2⟩):g:=h
theorem Zes {g r:Prop}(k:r)(h:r→g:=by first|exact XiD|exact Xaf|exact Xer|exact XjI|exact Xn rfl rfl (by decide) (XP rfl rfl rfl (congrArg some (decide_eq_true (by omega))))|exact Xn rfl rfl (by decide) (XP rfl rfl rfl (congrArg some (decide_eq_false (by omega))))|exact Xn rfl rfl (by decide) (XP rfl rfl rfl (congrArg some (Xb3 (by omega))))|exact Xn rfl rfl (by decide) (XP rfl rfl rfl (congrArg some (Xb4 (by omega))))|exact Xn rfl rfl (by decide) (Xay rfl rfl)|exact Xn rfl rfl (by decide) (Xat rfl rfl)|exact Xn rfl rfl (by decide) (Xe4 rfl rfl rfl (by omega))|exact Xn rfl rfl (by decide) (Xen rfl rfl rfl)|exact Xn rfl rfl (by decide) (XB rfl rfl rfl rfl)|exact Xn rfl rfl (by decide) (Xa7 rfl rfl rfl)|exact Xn rfl rfl (by decide) (Xem rfl rfl)|exact Xn rfl rfl (by decide) (Xa2 rfl rfl (by first | rfl | exact decide_eq_true (by omega)) rfl)|exact Xn rfl rfl (by decide) (Xbd rfl rfl (by first | rfl | exact decide_eq_false (by omega)) rfl)|exact Xbu 0 hG rfl rfl (by decide) rfl rfl rfl rfl|exact Xl9 rfl rfl rfl rfl rfl (by decide) (by first | rfl | exact decide_eq_true (by omega) | exact decide_eq_false (by omega) | exact Xb3 (by omega) | exact Xb4 (by omega))|exact Xop rfl rfl rfl rfl rfl (by decide) (by first | rfl | exact decide_eq_true (by omega) | exact decide_eq_false (by omega) | exact Xb3 (by omega) | exact Xb4 (by omega))|exact XjH rfl (by first | rfl | exact decide_eq_true (by omega) | exact Xb3 (by omega))|exact Xmg rfl (by first | rfl | exact decide_eq_false (by omega) | exact Xb4 (by omega))|exact XiE|exact Xmf|exact Xk1|exact XhR|exact Xgu|fail):g:=h k
theorem Zet {g r:Prop}(k:r)(h:r→g:=by first|exact Xn rfl rfl (by decide) (Xay rfl rfl)|exact Xn rfl rfl (by decide) (Xat rfl rfl)|exact Xn rfl rfl (by decide) (XB rfl rfl rfl rfl)|exact Xn rfl rfl (by decide) (Xa7 rfl rfl rfl)|exact Xn rfl rfl (by decide) (Xem rfl rfl)|exact Xn rfl rfl (by decide) (Xbd rfl rfl (by first | rfl | exact decide_eq_false (by omega)) rfl)|exact Xbu 0 hG rfl rfl (by decide) rfl rfl rfl rfl|exact Xl9 rfl rfl rfl rfl rfl (by decide) (by first | rfl | exact decide_eq_true (by omega) | exact decide_eq_false (by omega) | exact Xb3 (by omega) | exact Xb4 (by omega))|fail):g:=h k
theorem Zeu {g r:Prop}(k:r)(h:r→g:=by first|exact Y_q rfl rfl rfl (by decide) (XP rfl rfl rfl (congrArg some (decide_eq_true (by omega))))|exact Y_q rfl rfl rfl (by decide) (XP rfl rfl rfl (congrArg some (decide_eq_false (by omega))))|exact Y_q rfl rfl rfl (by decide) (Xay rfl rfl)|exact Y_q rfl rfl rfl (by decide) (Xat rfl rfl)|exact Y_q rfl rfl rfl (by decide) (Xaa rfl rfl rfl)|exact Y_q rfl rfl rfl (by decide) (XB rfl rfl rfl rfl)|exact Y_q rfl rfl rfl (by decide) (Xa7 rfl rfl rfl)|exact Y_q rfl rfl rfl (by decide) (Xa2 rfl rfl (by first | rfl | exact decide_eq_true (by omega) | exact Xb3 (by omega)) rfl)|exact Y_q rfl rfl rfl (by decide) (Xbd rfl rfl (by first | rfl | exact decide_eq_false (by omega) | exact Xb4 (by omega)) rfl)|exact Xfn (XP rfl rfl rfl (congrArg some (decide_eq_false (by omega)))) rfl (by decide) rfl rfl rfl rfl (by decide)|exact Xfn (Xay rfl rfl) rfl (by decide) rfl rfl rfl rfl (by decide)|exact Xfn (Xel rfl rfl rfl (by omega)) rfl (by decide) rfl rfl rfl rfl (by decide)|exact Xfn (XB rfl rfl rfl rfl) rfl (by decide) rfl rfl rfl rfl (by decide)|exact Y_gn rfl (by decide) rfl rfl rfl rfl rfl (by decide)|exact Xfn (Xa7 rfl rfl rfl) rfl (by decide) rfl rfl rfl rfl (by decide)|exact Y_q rfl rfl rfl (by decide) (Xem rfl rfl)|exact XwS|fail):g:=h k
theorem Zev {g r:Prop}(k:r)(h:r→g:=by first|exact XiD|exact Xaf|exact Xer|exact Xn rfl rfl (by decide) (Xay rfl rfl)|exact Xn rfl rfl (by decide) (Xat rfl rfl)|exact Xn rfl rfl (by decide) (XP rfl rfl rfl rfl)|exact Xn rfl rfl (by decide) (XB rfl rfl rfl rfl)|exact Xbu 0 hG rfl rfl (by decide) rfl rfl rfl rfl|exact Xbu 1 hG rfl rfl (by decide) rfl rfl rfl rfl|exact Xk1|fail):g:=h k
theorem Zew {g r:Prop}(k:r)(h:r→g:=by first|exact XdK (fun hb => by subst hb; exact XB rfl rfl rfl rfl) rfl rfl rfl rfl rfl (by decide)|exact XdK (fun hb => by subst hb; exact XP rfl rfl rfl rfl) rfl rfl rfl rfl rfl (by decide)|exact XdK (fun hb => by subst hb; exact Xj rfl rfl (hG.get 0 _ _ rfl) rfl) rfl rfl rfl rfl rfl (by decide)|exact XdK (fun hb => by subst hb; exact Xj rfl rfl (hG.get 1 _ _ rfl) rfl) rfl rfl rfl rfl rfl (by decide)|exact Xn rfl rfl (by decide) (Xay rfl rfl)|exact Xn rfl rfl (by decide) (Xat rfl rfl)|fail):g:=h k
theorem Zex {g r:Prop}(k:r)(h:r→g:=by first|exact Y_v rfl rfl rfl (by decide) (fun _ => Xay rfl rfl)|exact Y_v rfl rfl rfl (by decide) (fun _ => Xat rfl rfl)|exact Y_v rfl rfl rfl (by decide) (fun _ => Xen rfl rfl rfl)|exact Y_v rfl rfl rfl (by decide) (fun _ => Xaa rfl rfl rfl)|exact Y_v rfl rfl rfl (by decide) (fun _ => XB rfl rfl rfl rfl)|exact Y_v rfl rfl rfl (by decide) (fun _ => Xa7 rfl rfl rfl)|exact Y_v rfl rfl rfl (by decide) (fun _ => Xdj rfl rfl rfl rfl)|exact XwS|fail):g:=h k
theorem Zey {g r:Prop}(k:r)(h:r→g:=by first|exact F_v rfl rfl rfl rfl (by decide) (fun _ => Xay rfl rfl)|exact F_v rfl rfl rfl rfl (by decide) (fun _ => Xat rfl rfl)|exact F_v rfl rfl rfl rfl (by decide) (fun _ => Xaa rfl rfl rfl)|exact F_v rfl rfl rfl rfl (by decide) (fun _ => XB rfl rfl rfl rfl)|exact XAQ|fail):g:=h k
theorem Zez {g r:Prop}(k:r)(h:r→g:=by first|exact XiD|exact Xaf|exact Xer|exact Xn rfl rfl (by decide) (XP rfl rfl rfl (congrArg some (decide_eq_true (by omega))))|exact Xn rfl rfl (by decide) (XP rfl rfl rfl (congrArg some (decide_eq_false (by omega))))|exact Xn rfl rfl (by decide) (Xay rfl rfl)|exact Xn rfl rfl (by decide) (Xat rfl rfl)|exact Xn rfl rfl (by decide) (XB rfl rfl rfl rfl)|exact Xn rfl rfl (by decide) (Xa7 rfl rfl rfl)|exact Xn rfl rfl (by decide) (Xa2 rfl rfl (by first | rfl | exact decide_eq_true (by omega)) rfl)|exact Xn rfl rfl (by decide) (Xbd rfl rfl (by first | rfl | exact decide_eq_false (by omega)) rfl)|exact Xbu 0 hG rfl rfl (by decide) rfl rfl rfl rfl|exact Xl9 rfl rfl rfl rfl rfl (by decide) (by first | rfl | exact decide_eq_true (by omega) | exact decide_eq_false (by omega) | exact Xb3 (by omega) | exact Xb4 (by omega))|exact Xop rfl rfl rfl rfl rfl (by decide) (by first | rfl | exact decide_eq_true (by omega) | exact decide_eq_false (by omega) | exact Xb3 (by omega) | exact Xb4 (by omega))|exact XjH rfl (by first | rfl | exact decide_eq_true (by omega) | exact Xb3 (by omega))|exact Xmg rfl (by first | rfl | exact decide_eq_false (by omega) | exact Xb4 (by omega))|exact XiE|fail):g:=h k
theorem ZeA {g r:Prop}(k:r)(h:r→g:=by first|exact P_v rfl rfl rfl rfl (by decide) (fun _ => Xay rfl rfl)|exact P_v rfl rfl rfl rfl (by decide) (fun _ => Xaa rfl rfl rfl)|exact P_v rfl rfl rfl rfl (by decide) (fun _ => XB rfl rfl rfl rfl)|exact XBR|fail):g:=h k
