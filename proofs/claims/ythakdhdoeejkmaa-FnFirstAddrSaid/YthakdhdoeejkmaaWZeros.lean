-- PRINTED BY print.sh 35421559b90ae4d0a3588c463048766b98c2df88dd9212a6774a882060cdf62d: not written by this session
import Derived.Test.YthakdhdoeejkmaaWApart
import Derived.Test.YthakdhdoeejkmaaWArr
/-! ### 42. append(v, make([]T, n)...): the operation comes as_ append with the number in the second place -/